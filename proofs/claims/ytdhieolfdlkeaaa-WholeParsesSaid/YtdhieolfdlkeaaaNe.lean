/- The engine, part e: maps by strings. -/
import Derived.Test.YtdhieolfdlkeaaaNd
import Derived.WideMake
namespace Go.Proofs.Ytdhieolfdlkeaaa
set_option linter.unusedSimpArgs false
set_option linter.unusedVariables false
open Go.RowKit Go.MapKept

theorem S_inj {a b : Str} (h : S a = S b) : a = b := by
  simp only [S, Value.string.injEq, ByteArray.mk.injEq] at h
  simpa using h
/-- A map that reads so: what each key has. -/
def MapRd {β : Type} (w : World) (r : Nat) (enc : β → Value) (m : Str → Option β) : Prop :=
  ∃ es clock, w.heap[r]? = some (.map es clock) ∧ Stamped es clock ∧ (∀ x ∈ es.toList, ∃ k b, x.key = S k ∧ m k = some b ∧ x.val = enc b) ∧ ∀ k b, m k = some b → ∃ x ∈ es.toList, x.key = S k
/-- A map of the call's own. -/
def mapC {β : Type} (r : Nat) (enc : β → Value) (m : Str → Option β) : Chk where
  ok w F := F r ∧ MapRd w r enc m
  loc := fun hb ⟨h1, es, clock, h2, h3⟩ => ⟨h1, es, clock, (hb r h1).2.trans h2, h3⟩
structure PtT (P : Program) (t e : TypeId) : Prop where
  u : P.underlying t = some (.pointer e)
structure StT (P : Program) (t : TypeId) : Prop where
  u : P.underlying t = some .string
/-- What is known of a map's type. -/
structure MapT (P : Program) (t kt et : TypeId) (z : Value) : Prop where
  u : P.underlying t = some (.map kt et)
  k : P.underlying kt = some .string
  z : ∃ i, P.info? et = some i ∧ i.zero = some z
def mapInfo (P : Program) (t : TypeId) : Option (TypeId × TypeId × Value) :=
  match P.underlying t with
  | some (.map kt et) => match P.underlying kt, P.info? et with
    | some .string, some i => match i.zero with
      | some z => some (kt, et, z)
      | none => none
    | _, _ => none
  | _ => none
theorem MapT.of {P : Program} {t kt et : TypeId} {z : Value} (h : mapInfo P t = some (kt, et, z)) : MapT P t kt et z := by
  unfold mapInfo at h
  split at h <;> try (simp at h; done)
  rename_i hu
  split at h <;> try (simp at h; done)
  rename_i hk hi
  split at h <;> simp at h
  rename_i hz
  obtain ⟨rfl, rfl, rfl⟩ := h
  exact ⟨hu, hk, _, hi, hz⟩
def mput {β : Type} (m : Str → Option β) (k : Str) (b : β) : Str → Option β := fun k' => if k' = k then some b else m k'
def mdel {β : Type} (m : Str → Option β) (k : Str) : Str → Option β := fun k' => if k' = k then none else m k'
def mget {β : Type} (enc : β → Value) (z : Value) : Option β → Value | some b => enc b | none => z
section
variable {P : Program} {ρ : Fr} {w w0 : World} {d : Option Nat} {next : Fr → World → Prop} {L L' R : List Chk} {t kt et ty : TypeId} {z : Value} {β : Type} {enc : β → Value} {m : Str → Option β} {r : Nat} {s : Str}
theorem isKey_S : IsKey .string (S s) := by simp [IsKey, S]
theorem find_m {es : Array MapEntry} (h1 : ∀ x ∈ es.toList, ∃ k b, x.key = S k ∧ m k = some b ∧ x.val = enc b) (h2 : ∀ k b, m k = some b → ∃ x ∈ es.toList, x.key = S k) (s : Str) :
    (m s = none ∧ Instr.findNow .string (S s) es.toList 0 = some none ∧ ∀ x ∈ es.toList, x.key ≠ S s) ∨ ∃ b j e, m s = some b ∧ Instr.findNow .string (S s) es.toList 0 = some (some (j, enc b)) ∧ es[j]? = some e ∧ e.key = S s ∧ e.val = enc b := by
  rcases findNow_spec (d := .string) (k := S s) isKey_S es.toList 0 (fun x hx => by obtain ⟨k, b, e, _⟩ := h1 x hx; rw [e]; exact isKey_S) with ⟨h3, h4⟩ | ⟨j, e, h3, h4, h5⟩
  · left
    refine ⟨?_, h3, h4⟩
    cases hm : m s with
    | none => rfl
    | some b => obtain ⟨x, hx, hk⟩ := h2 s b hm; exact absurd hk (h4 x hx)
  · right
    have hj : es[j]? = some e := by simpa using h4
    have he : e ∈ es.toList := Array.mem_toList_iff.2 (Array.mem_of_getElem? hj)
    obtain ⟨k, b, e1, e2, e3⟩ := h1 e he
    have : k = s := S_inj (e1.symm.trans h5)
    subst this
    exact ⟨b, j, e, e2, by rw [h3, Nat.zero_add, e3], hj, h5, e3⟩
theorem mkmK {x : Option Value} (enc : β → Value) (hS : Sep w0 w L) (hT : MapT P t kt et z) (hx : x = none ∨ ∃ n : Int, x = some (I n))
    (k : ∀ r w', Sep w0 w' (mapC r enc (fun _ => none) :: L) → next (updO ρ d (.map (some r))) w') : SemK P (Instr.makeMap t x) w d ρ next := by
  have hrun : (Instr.makeMap t x).run P w = .ok (.map (some w.heap.size)) (w.alloc (.map #[] 0)) := by
    rcases hx with rfl | ⟨n, rfl⟩
    · simp [Instr.makeMap]
    · simp [Instr.makeMap, run_underlying hT.u, asInt, asIntOf]
  refine ⟨_, _, hrun, k _ _ ?_⟩
  exact hS.push ((Ext.refl w).alloc _) (F := fun b => b = w.heap.size) ⟨rfl, #[], 0, heap_alloc_new w _, stamped_empty 0, by simp, by simp⟩ (by intro b hb; subst hb; exact ⟨Nat.le_refl _, by simp⟩)
theorem MapRd.ext {w' : World} (h : MapRd w r enc m) (hx : Ext w w') : MapRd w' r enc m := by
  obtain ⟨es, clock, h1, h2⟩ := h
  have hlt : r < w.heap.size := by
    rcases Nat.lt_or_ge r w.heap.size with q | q
    · exact q
    · rw [Array.getElem?_eq_none q] at h1; cases h1
  exact ⟨es, clock, (hx.block r hlt).trans h1, h2⟩
theorem MapRd.old (h : MapRd w0 r enc m) (hS : Sep w0 w L) : MapRd w r enc m := h.ext hS.1
theorem Sep.mrd (h : Sep w0 w L) (he : Ex (mapC r enc m) L R) : MapRd w r enc m := by
  obtain ⟨F, ⟨_, h1⟩, _⟩ := h.get he
  exact h1
theorem lkpK {c : Bool} (hM : MapRd w r enc m) (hT : MapT P t kt et z)
    (k : next (updO ρ d (if c then .tuple #[mget enc z (m s), .bool (m s).isSome] else mget enc z (m s))) w) : SemK P (Instr.lookup t (.map (some r)) (S s) c) w d ρ next := by
  obtain ⟨es, clock, h1, h2, h3, h4⟩ := hM
  obtain ⟨i, hi, hz⟩ := hT.z
  have hc : ∀ b, (Instr.checkKey b 10000 kt (S s)).run P w = .ok () w := fun b => MapKept.run_checkKey hT.k isKey_S b 9999
  refine ⟨_, w, ?_, k⟩
  rcases find_m h3 h4 s with ⟨a1, a2, a3⟩ | ⟨b, j, e, a1, a2, a3, a4, a5⟩
  · rw [a1]
    cases c <;> simp [Instr.lookup, run_underlying hT.u, MapKept.run_getObj_map h1, hc, MapKept.run_findKey hT.k a2, zeroValue, typeInfo, hi, hz, mget]
  · rw [a1]
    cases c <;> simp [Instr.lookup, run_underlying hT.u, MapKept.run_getObj_map h1, hc, MapKept.run_findKey hT.k a2, mget]
theorem setObj_other {o : Obj} (b : Nat) (hb : b ≠ r) : ({ w with heap := w.heap.setIfInBounds r o } : World).heap[b]? = w.heap[b]? := by
  simp [Array.getElem?_setIfInBounds, Ne.symm hb]
theorem mupK {b : β} {v : Value} (hS : Sep w0 w L) (hu : Up (mapC r enc m) (mapC r enc (mput m s b)) L L') (hv : v = enc b) (hT : MapT P t kt et z)
    (k : ∀ w', Sep w0 w' L' → next (updO ρ d undef) w') : UnitK P (Instr.mapUpdate t (.map (some r)) (S s) v) w d ρ next := by
  subst hv
  obtain ⟨R, he, _⟩ := hu.split
  obtain ⟨F, ⟨hF, es, clock, h1, h2, h3, h4⟩, hFb⟩ := hS.get he
  have hc : (Instr.checkKey false 10000 kt (S s)).run P w = .ok () w := MapKept.run_checkKey hT.k isKey_S false 9999
  have hlt := hFb r hF
  rcases find_m h3 h4 s with ⟨a1, a2, a3⟩ | ⟨b', j, e, a1, a2, a3, a4, a5⟩
  · refine ⟨{ w with heap := w.heap.setIfInBounds r (.map (es.push { key := S s, val := enc b, born := clock }) (clock + 1)) }, ?_, k _ ?_⟩
    · simp [Instr.mapUpdate, run_underlying hT.u, MapKept.run_getObj_map h1, hc, MapKept.run_findKey hT.k a2, MapKept.run_setObj_map _ h1]
    · refine hS.change hu (by simp) rfl rfl rfl ?_
      rintro F' ⟨f1, _⟩ hF'
      refine ⟨F', ⟨f1, _, _, (MapKept.heap_set h1).1, stamped_push h2 a3, ?_, ?_⟩, fun b hb => ⟨by have := hF' b hb; simpa using this, .inl hb⟩, fun b' _ hb => setObj_other b' fun e => hb (by rw [e]; exact f1)⟩
      · intro x hx
        simp only [Array.toList_push, List.mem_append, List.mem_singleton] at hx
        rcases hx with hx | rfl
        · obtain ⟨k', c, e1, e2, e3⟩ := h3 x hx
          have : k' ≠ s := fun q => a3 x hx (by rw [e1, q])
          exact ⟨k', c, e1, by simp [mput, this, e2], e3⟩
        · exact ⟨s, b, rfl, by simp [mput], rfl⟩
      · intro k' c hk
        simp only [mput] at hk
        split at hk
        · rename_i q; subst q; exact ⟨{ key := S k', val := enc b, born := clock }, by simp, rfl⟩
        · obtain ⟨x, hx, e1⟩ := h4 k' c hk
          exact ⟨x, by simp only [Array.toList_push, List.mem_append]; exact .inl hx, e1⟩
  · have hkey : ∀ e', es[j]? = some e' → ({ e' with key := S s, val := enc b } : MapEntry).key = e'.key := fun e' he' => by rw [a3] at he'; cases he'; exact a4.symm
    refine ⟨{ w with heap := w.heap.setIfInBounds r (.map (es.modify j fun e => { e with key := S s, val := enc b }) clock) }, ?_, k _ ?_⟩
    · simp [Instr.mapUpdate, run_underlying hT.u, MapKept.run_getObj_map h1, hc, MapKept.run_findKey hT.k a2, a3, a4, MapKept.run_keyThatStays (isKey_S (s := s)), MapKept.run_setObj_map _ h1]
    · refine hS.change hu (by simp) rfl rfl rfl ?_
      rintro F' ⟨f1, _⟩ hF'
      have hmk := modify_keys j (fun e => { e with key := S s, val := enc b }) hkey
      refine ⟨F', ⟨f1, _, _, (MapKept.heap_set h1).1, stamped_modify h2 _ _ (fun _ _ => rfl) (fun e' _ he' => hkey e' he'), ?_, ?_⟩, fun b hb => ⟨by have := hF' b hb; simpa using this, .inl hb⟩, fun b' _ hb => setObj_other b' fun e => hb (by rw [e]; exact f1)⟩
      · intro x hx
        obtain ⟨i, hi⟩ := List.mem_iff_getElem?.1 hx
        rw [Array.getElem?_toList, Array.getElem?_modify] at hi
        by_cases hij : j = i
        · subst hij
          rw [if_pos rfl, a3] at hi
          simp at hi
          subst hi
          exact ⟨s, b, rfl, by simp [mput], rfl⟩
        · rw [if_neg hij] at hi
          have hx' : x ∈ es.toList := Array.mem_toList_iff.2 (Array.mem_of_getElem? hi)
          obtain ⟨k', c, e1, e2, e3⟩ := h3 x hx'
          have : k' ≠ s := fun q => by
            have hnd := ((stamped_iff es clock).1 h2).2.2
            have hp := List.pairwise_iff_getElem.1 hnd
            have li : i < es.toList.length := by
              rcases Nat.lt_or_ge i es.size with q | q
              · simpa using q
              · rw [Array.getElem?_eq_none q] at hi; cases hi
            have lj : j < es.toList.length := by
              rcases Nat.lt_or_ge j es.size with q | q
              · simpa using q
              · rw [Array.getElem?_eq_none q] at a3; cases a3
            have gi : es.toList[i] = x := by
              have : es.toList[i]? = some x := by simpa using hi
              rw [List.getElem?_eq_getElem li] at this; exact Option.some.inj this
            have gj : es.toList[j] = e := by
              have : es.toList[j]? = some e := by simpa using a3
              rw [List.getElem?_eq_getElem lj] at this; exact Option.some.inj this
            rcases Nat.lt_or_gt_of_ne hij with q2 | q2
            · exact hp j i lj li q2 (by rw [gi, gj, a4, e1, q])
            · exact hp i j li lj q2 (by rw [gi, gj, a4, e1, q])
          exact ⟨k', c, e1, by simp [mput, this, e2], e3⟩
      · intro k' c hk
        have hmem : ∃ x ∈ es.toList, x.key = S k' := by
          simp only [mput] at hk
          split at hk
          · rename_i q; subst q; exact ⟨e, Array.mem_toList_iff.2 (Array.mem_of_getElem? a3), a4⟩
          · exact h4 k' c hk
        obtain ⟨x, hx, e1⟩ := hmem
        have : S k' ∈ es.toList.map (·.key) := List.mem_map.2 ⟨x, hx, e1⟩
        rw [← hmk] at this
        obtain ⟨y, hy, e2⟩ := List.mem_map.1 this
        exact ⟨y, hy, e2⟩
end
end Go.Proofs.Ytdhieolfdlkeaaa
