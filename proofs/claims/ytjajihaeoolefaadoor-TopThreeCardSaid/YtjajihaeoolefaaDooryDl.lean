/- Texts of the proof, joined. -/
import Derived.Test.YtjajihaeoolefaaDooryMc
namespace Go.Proofs.YtjajihaeoolefaaDoor
set_option linter.unusedSimpArgs false
set_option linter.unusedVariables false
open Go.RowKit Go.MapKept
section
variable {P : Program} {ρ : Fr} {w w0 : World} {d : Option Nat} {next : Fr → World → Prop} {L L' R : List Chk} {t kt et ty kt2 : TypeId} {z : Value} {β : Type} {enc : β → Value} {m : Str → Option β} {r : Nat} {s : Str}
theorem delK (hS : Sep w0 w L) (hu : Up (mapC r enc m) (mapC r enc (mdel m s)) L L') (hT : MapT P t kt et z)
    (k : ∀ w', Sep w0 w' L' → next (updO ρ d (.tuple #[])) w') : SemK P (Builtin.delete_ #[t, kt2] ty #[.map (some r), S s]) w d ρ next := by
  obtain ⟨R, he, _⟩ := hu.split
  obtain ⟨F, ⟨hF, es, clock, h1, h2, h3, h4⟩, hFb⟩ := hS.get he
  have hc : ∀ b, (Instr.checkKey b 10000 kt (S s)).run P w = .ok () w := fun b => MapKept.run_checkKey hT.k isKey_S b 9999
  have hlt := hFb r hF
  rcases find_m h3 h4 s with ⟨a1, a2, a3⟩ | ⟨b', j, e, a1, a2, a3, a4, a5⟩
  · refine ⟨.tuple #[], { w with heap := w.heap.setIfInBounds r (.map es clock) }, ?_, k _ ?_⟩
    · simp [Builtin.delete_, run_underlying hT.u, MapKept.run_getObj_map h1, hc, MapKept.run_findKey hT.k a2, MapKept.run_setObj_map _ h1, Result.andThen]
    · refine hS.change hu (by simp) rfl rfl rfl ?_
      rintro F' ⟨f1, _⟩ hF'
      refine ⟨F', ⟨f1, _, _, (MapKept.heap_set h1).1, h2, ?_, ?_⟩, fun b hb => ⟨by have := hF' b hb; simpa using this, .inl hb⟩, fun b' _ hb => setObj_other b' fun e => hb (by rw [e]; exact f1)⟩
      · intro x hx
        obtain ⟨k', c, e1, e2, e3⟩ := h3 x hx
        have : k' ≠ s := fun q => a3 x hx (by rw [e1, q])
        exact ⟨k', c, e1, by simp [mdel, this, e2], e3⟩
      · intro k' c hk
        simp only [mdel] at hk
        split at hk
        · cases hk
        · exact h4 k' c hk
  · have hjs : j < es.size := (Array.getElem?_eq_some_iff.1 a3).1
    have hsub : (es.eraseIdxIfInBounds j).toList = es.toList.eraseIdx j := by
      unfold Array.eraseIdxIfInBounds
      rw [dif_pos hjs]
      simp
    have hnd := ((stamped_iff es clock).1 h2).2.2
    have hp := List.pairwise_iff_getElem.1 hnd
    refine ⟨.tuple #[], { w with heap := w.heap.setIfInBounds r (.map (es.eraseIdxIfInBounds j) clock) }, ?_, k _ ?_⟩
    · simp [Builtin.delete_, run_underlying hT.u, MapKept.run_getObj_map h1, hc, MapKept.run_findKey hT.k a2, MapKept.run_setObj_map _ h1, Result.andThen]
    · refine hS.change hu (by simp) rfl rfl rfl ?_
      rintro F' ⟨f1, _⟩ hF'
      refine ⟨F', ⟨f1, _, _, (MapKept.heap_set h1).1, stamped_erase h2 j, ?_, ?_⟩, fun b hb => ⟨by have := hF' b hb; simpa using this, .inl hb⟩, fun b' _ hb => setObj_other b' fun e => hb (by rw [e]; exact f1)⟩
      · intro x hx
        rw [hsub] at hx
        obtain ⟨i, hij, hi⟩ := List.mem_eraseIdx_iff_getElem?.1 hx
        have hx' : x ∈ es.toList := List.mem_iff_getElem?.2 ⟨i, hi⟩
        obtain ⟨k', c, e1, e2, e3⟩ := h3 x hx'
        have : k' ≠ s := fun q => by
          obtain ⟨li, gi⟩ := List.getElem?_eq_some_iff.1 hi
          have lj : j < es.toList.length := by simpa using hjs
          have gj : es.toList[j] = e := by
            have : es.toList[j]? = some e := by simpa using a3
            rw [List.getElem?_eq_getElem lj] at this; exact Option.some.inj this
          rcases Nat.lt_or_gt_of_ne hij with q2 | q2
          · exact hp i j li lj q2 (by rw [gi, gj, a4, e1, q])
          · exact hp j i lj li q2 (by rw [gi, gj, a4, e1, q])
        exact ⟨k', c, e1, by simp [mdel, this, e2], e3⟩
      · intro k' c hk
        simp only [mdel] at hk
        split at hk
        · cases hk
        · rename_i hne
          obtain ⟨x, hx, e1⟩ := h4 k' c hk
          obtain ⟨i, hi⟩ := List.mem_iff_getElem?.1 hx
          refine ⟨x, ?_, e1⟩
          rw [hsub]
          refine List.mem_eraseIdx_iff_getElem?.2 ⟨i, fun q => hne ?_, hi⟩
          subst q
          rw [Array.getElem?_toList, a3] at hi
          cases hi
          exact S_inj (e1.symm.trans a4)
end
theorem zdl {ρ : Fr} {w w0 : World} {d : Option Nat} {next : Fr → World → Prop} {L L' : List Chk} {t kt et ty kt2 : TypeId} {z : Value} {β : Type} {m : Str → Option β} {r : Nat} {enc : β → Value} {s : Str} (k : ∀ w', Sep w0 w' L' → next (updO ρ d (.tuple #[])) w') (hS : Sep w0 w L := by assumption) (hu : Up (mapC r enc m) (mapC r enc (mdel m s)) L L' := by repeat constructor) (hT : MapT Tryd.prog t kt et z := by exact dmp) :
    SemK Tryd.prog (Builtin.delete_ #[t, kt2] ty #[.map (some r), S s]) w d ρ next := delK hS hu hT k
end Go.Proofs.YtjajihaeoolefaaDoor
