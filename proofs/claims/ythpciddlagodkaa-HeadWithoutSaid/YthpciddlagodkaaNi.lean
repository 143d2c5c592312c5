/- The engine, part i: a slice of the call's own, turned in place. -/
import Derived.Test.YthpciddlagodkaaNf
import Derived.Lib.SliceRun
namespace Go.Proofs.Ythpciddlagodkaa
set_option linter.unusedSimpArgs false
set_option linter.unusedVariables false
open Go.RowKit
section
variable {P : Program} {ρ : Fr} {w w0 : World} {d : Option Nat} {next : Fr → World → Prop} {L L' R : List Chk} {g cap n : Nat} {t e ty : TypeId} {v : Value} {bt : Nat}
/-- A slice of the call's own that isn't empty has a block. -/
theorem Sep.shape {α : Type} {E : Enc α} {xs : List α} (hS : Sep w0 w L) (he : Ex (accC v e E xs) L R) (h0 : 0 < xs.length) : ∃ g cap, v = .slice (some ⟨g, 0, none⟩) xs.length cap ∧ xs.length ≤ cap ∧ cap ≤ 9223372036854775807 := by
  obtain ⟨F, ⟨h1, h2, h3, h4⟩, hF⟩ := hS.get he
  rcases h1.2 with ⟨rfl, h⟩ | ⟨g, cap, cur, rfl, hbg, hg, hnc, hcm, hcs, htake⟩
  · omega
  · exact ⟨g, cap, rfl, hnc, by unfold maxLen at hcm; omega⟩
/-- x[lo:hi:max], asked only whether it may be. -/
theorem sl3K {sz : Nat} {zs : List Value} (hT : SlT P t e sz bt zs) {a : Option Addr} {k1 k2 k3 : IntKind} {lo hi mx : Int} (hb : 0 ≤ lo ∧ lo ≤ hi ∧ hi ≤ mx ∧ mx ≤ (cap : Int)) (k : ∀ v, next (updO ρ d v) w) :
    SemK P (Instr.sliceAt t (.slice a n cap) (some (.int k1 lo)) (some (.int k2 hi)) (some (.int k3 mx))) w d ρ next := by
  obtain ⟨i, z, hi', hz, hsz, hby, hzs, hzl⟩ := hT.i
  have e1 : (hi.toNat : Int) = hi := Int.toNat_of_nonneg (by omega)
  have e2 : (mx.toNat : Int) = mx := Int.toNat_of_nonneg (by omega)
  have hr : ∃ v, (Instr.sliceAt t (.slice a n cap) (some (.int k1 lo)) (some (.int k2 hi)) (some (.int k3 mx))).run P w = .ok v w := by
    simp [Instr.sliceAt, Instr.slice, Instr.sliceBounds, run_underlying hT.u, run_sliceBound, sizeOf, typeInfo, hi', e1, e2, hb, (by omega : 0 ≤ hi), (by omega : 0 ≤ mx)]
  obtain ⟨v, hv⟩ := hr
  exact ⟨v, w, hv, k v⟩
/-- append(x[:k], ys...) where there is room. -/
theorem appIn {α : Type} {E : Enc α} {xs ys : List α} {x : Value} {k : Nat} {ik : IntKind} {zs : List Value} (hS : Sep w0 w L) (hr : Rd w E x ys)
    (hu : Up (accC (.slice (some ⟨g, 0, none⟩) n cap) e E xs) (accC (.slice (some ⟨g, 0, none⟩) (k + ys.length) cap) e E (xs.take k ++ ys)) L L')
    (hT : SlT P t e E.sz bt zs) (hk : k ≤ xs.length) (hroom : k + ys.length ≤ cap) (hm : 0 < cap)
    (next' : ∀ w', Sep w0 w' L' → next (updO ρ d (.slice (some ⟨g, 0, none⟩) (k + ys.length) cap)) w') :
    SemK P (Builtin.append_ #[t, t] ty #[slVV E.sz none (some (.int ik (k : Int))) (.slice (some ⟨g, 0, none⟩) n cap), x]) w d ρ next := by
  obtain ⟨i, z, hi, hz, hsz, hby, hzs, hzl⟩ := hT.i
  have hval : slVV E.sz none (some (.int ik (k : Int))) (.slice (some ⟨g, 0, none⟩) n cap) = .slice (some ⟨g, 0, none⟩) k cap := by
    have hc : ¬ cap = 0 := by omega
    simp [slVV, loN, hiN, hc, addg]
  rw [hval]
  obtain ⟨R0, he, _⟩ := hu.split
  obtain ⟨F, ⟨h1, h2, h3, h4⟩, hF⟩ := hS.get he
  have hs : Src P i.size t x ys.length (ys.flatMap E.f) w := by rw [hsz]; exact src_rd hr hT.u
  rcases h1.2 with ⟨hv, _⟩ | ⟨g', cap', cur, hv, hbg, hg, hnc, hcm, hcs, htake⟩
  · simp at hv
  simp only [Value.slice.injEq, Option.some.injEq, Addr.mk.injEq, and_true] at hv
  obtain ⟨rfl, rfl, rfl⟩ := hv
  have hly := flat_len E ys
  have hB : Blk w g e cur.toList.toArray := hg
  have hle : k * E.sz + (ys.flatMap E.f).length ≤ cur.size := by rw [hly, hcs, ← Nat.add_mul]; exact Nat.mul_le_mul_right _ hroom
  have hcell : ∀ j, j < (ys.flatMap E.f).length → (w.cell? ⟨g, 0 + k * i.size + j, none⟩).isSome = true := fun j hj => by
    rw [cell_of_row w g _ cur e (0, 0) hg, hsz]
    have h5 : 0 + k * E.sz + j < cur.size := by omega
    rw [Array.getElem?_eq_getElem h5]; rfl
  have hfz : ∀ j, j < (ys.flatMap E.f).length → w.frozen? ⟨g, 0 + k * i.size + j, none⟩ = false := fun j hj => Blk.frozen (show Blk w g e cur from hg) _
  have hrun := run_append_room_src (P := P) w t t ty e i hT.u hi g 0 k cap x ys.length (ys.flatMap E.f) hs hroom hcell hfz
  refine ⟨_, _, hrun, next' _ ?_⟩
  have e0 : w.setCells g (0 + k * i.size) (ys.flatMap E.f) = stL w ⟨g, k * E.sz, none⟩ (ys.flatMap E.f) 0 := by
    rw [Nat.zero_add, hsz]; exact setCells_stL g (k * E.sz) _ 0 w
  rw [e0]
  obtain ⟨s1, s2, s3, s4⟩ := stL_size (p := ⟨g, k * E.sz, none⟩) (ys.flatMap E.f) 0 w
  refine hS.change hu (by omega) s2 s3 s4 ?_
  rintro F' ⟨a1, a2, a3, a4⟩ hF'
  have hFg := a2 g rfl
  have hblk := stL_Blk (g := g) (o := k * E.sz) (t := e) (ys.flatMap E.f) 0 w cur.toList hB
  rw [Nat.add_zero, setL_eq _ _ _ (by simpa using hle)] at hblk
  have hlt : (xs.take k).length = k := by rw [List.length_take]; omega
  have hla : (xs.take k ++ ys).length = k + ys.length := by rw [List.length_append, hlt]
  have hkl : ((xs.take k).flatMap E.f).length = k * E.sz := by rw [flat_len, hlt]
  have hcur : cur.toList.take (k * E.sz) = (xs.take k).flatMap E.f := by
    have h5 : cur.toList.take (k * E.sz) = (cur.toList.take (xs.length * E.sz)).take (k * E.sz) := by
      rw [List.take_take, Nat.min_eq_left (Nat.mul_le_mul_right _ hk)]
    rw [h5, htake, ← hkl]
    conv => lhs; rw [← List.take_append_drop k xs, List.flatMap_append]
    rw [List.take_append_drop]
    exact List.take_left
  have hone : ∀ u ∈ (xs.take k ++ ys).flatMap E.f, One u := by
    intro u hm
    rw [List.flatMap_append, List.mem_append] at hm
    rcases hm with hm | hm
    · obtain ⟨y, hy, hu⟩ := List.mem_flatMap.1 hm
      exact h3 u (List.mem_flatMap.2 ⟨y, List.mem_of_mem_take hy, hu⟩)
    · exact hs.one u hm
  refine ⟨F', ⟨⟨flat_len E _, .inr ⟨g, cap, _, by rw [hla], Nat.zero_le _, hblk, by rw [hla]; exact hroom, hcm, ?_, ?_⟩⟩, fun k hk => a2 k hk, hone, by unfold maxLen at hcm; omega⟩, fun b hb => ⟨by have := hF' b hb; omega, .inl hb⟩, fun b _ hb => stL_far' b (fun e => hb (by rw [e]; exact hFg)) _ _ _⟩
  · simp only [List.size_toArray, List.length_append, List.length_take, List.length_drop, Array.length_toList]
    omega
  · rw [hla, Nat.add_mul, ← hly, List.flatMap_append, hcur, ← hkl, ← List.length_append]
    exact List.take_left
/-- clear behind the end of a slice of the call's own, of elements of one cell each. -/
theorem clrK {α : Type} {E : Enc α} {xs : List α} {u : Value} {m : Int} {k1 k2 : IntKind} (hS : Sep w0 w L) (he : Ex (accC (.slice (some ⟨g, 0, none⟩) n cap) e E xs) L R) (hE : E.sz = 1)
    (hT : SlT P t e 1 bt [u]) (hu1 : One u) (hb : (n : Int) < m ∧ m ≤ (cap : Int)) (k : ∀ v w', Sep w0 w' L → next (updO ρ d v) w') :
    SemK P (Builtin.clear_ #[t] ty #[slVV 1 (some (.int k1 (n : Int))) (some (.int k2 m)) (.slice (some ⟨g, 0, none⟩) n cap)]) w d ρ next := by
  obtain ⟨i, z, hi, hz, hsz, hby, hzs, hzl⟩ := hT.i
  obtain ⟨F, ⟨h1, h2, h3, h4⟩, hF⟩ := hS.get he
  rcases h1.2 with ⟨hv, _⟩ | ⟨g', cap', cur, hv, hbg, hg, hnc, hcm, hcs, htake⟩
  · simp at hv
  simp only [Value.slice.injEq, Option.some.injEq, Addr.mk.injEq, and_true] at hv
  obtain ⟨rfl, rfl, rfl⟩ := hv
  rw [hE, Nat.mul_one] at hcs htake
  have hval : slVV 1 (some (.int k1 (xs.length : Int))) (some (.int k2 m)) (.slice (some ⟨g, 0, none⟩) xs.length cap) = .slice (some ⟨g, xs.length, none⟩) (m.toNat - xs.length) (cap - xs.length) := by
    have hc : ¬ cap = xs.length := by omega
    simp [slVV, loN, hiN, hc, addg]
  rw [hval]
  obtain ⟨q, hq⟩ : ∃ q, q = m.toNat - xs.length := ⟨_, rfl⟩
  rw [← hq]
  have hB : Blk w g e cur.toList.toArray := hg
  have hzc : (Builtin.zeroCells z.cells q).toList = List.replicate q u := by
    rw [hzs]
    simp only [Builtin.zeroCells, List.size_toArray, List.length_cons, List.length_nil, Nat.zero_add, Nat.mul_one, Array.toList_map, Array.toList_range]
    apply List.ext_getElem
    · simp
    · intro i h1 h2
      simp [Nat.mod_one]
  have hst := run_storeCells_cells (P := P) g xs.length (List.replicate q u) 0 w (fun j hj => by
      rw [cell_of_row w g _ cur e (0, 0) hg]
      rw [List.length_replicate] at hj
      rw [Array.getElem?_eq_getElem (by omega)]; rfl) (fun j hj => Blk.frozen (show Blk w g e cur from hg) _) (by intro v hv'; rw [List.eq_of_mem_replicate hv']; exact hu1)
  rw [Nat.add_zero] at hst
  have hzv : ∀ w, (zeroValue e).run P w = .ok z w := fun w => by simp [zeroValue, typeInfo, hi, hz]
  refine ⟨.tuple #[], w.setCells g xs.length (List.replicate q u), ?_, k _ _ ?_⟩
  · obtain ⟨q', rfl⟩ : ∃ q', q = q' + 1 := ⟨q - 1, by omega⟩
    simp [Builtin.clear_, run_underlying hT.u, hzv, hzc, hst]
  · have e0 : w.setCells g xs.length (List.replicate q u) = stL w ⟨g, xs.length, none⟩ (List.replicate q u) 0 := setCells_stL g xs.length _ 0 w
    rw [e0]
    obtain ⟨s1, s2, s3, s4⟩ := stL_size (p := ⟨g, xs.length, none⟩) (List.replicate q u) 0 w
    have hup : Up (accC (.slice (some ⟨g, 0, none⟩) xs.length cap) e E xs) (accC (.slice (some ⟨g, 0, none⟩) xs.length cap) e E xs) L L := by
      clear hS h1 h2 h3 k
      induction he with
      | h => exact .h
      | t _ ih => exact .t ih
    refine hS.change hup (by omega) s2 s3 s4 ?_
    rintro F' ⟨a1, a2, a3, a4⟩ hF'
    have hFg := a2 g rfl
    have hblk := stL_Blk (g := g) (o := xs.length) (t := e) (List.replicate q u) 0 w cur.toList hB
    rw [Nat.add_zero, setL_eq _ _ _ (by simp; omega)] at hblk
    refine ⟨F', ⟨⟨flat_len E _, .inr ⟨g, cap, _, rfl, Nat.zero_le _, hblk, hnc, hcm, ?_, ?_⟩⟩, fun k hk => a2 k hk, a3, a4⟩, fun b hb => ⟨by have := hF' b hb; omega, .inl hb⟩, fun b _ hb => stL_far' b (fun e => hb (by rw [e]; exact hFg)) _ _ _⟩
    · rw [hE]
      simp only [List.size_toArray, List.length_append, List.length_take, List.length_drop, Array.length_toList, List.length_replicate]
      omega
    · rw [hE, Nat.mul_one, ← htake, List.append_assoc, List.take_append_of_le_length (by simp; omega), List.take_take, Nat.min_self]
theorem isL_x {a : Option Addr} {m c : Nat} : isL (.slice a m c) = True := by simp [isL]
theorem lenV_x {a : Option Addr} {m c : Nat} : lenV (.slice a m c) = I m := rfl
theorem okSlV_xl {a : Option Addr} {m c : Nat} {k : IntKind} {x : Int} (h : 0 ≤ x ∧ x ≤ (m : Int)) (hm : m ≤ c) : okSlV (some (.int k x)) none (.slice a m c) = True := by
  simp only [okSlV, okI, loN, hiN, eq_iff_iff, iff_true, true_and]; omega
theorem okSlV_xh {a : Option Addr} {m c : Nat} {k : IntKind} {x : Int} (h : 0 ≤ x ∧ x ≤ (c : Int)) : okSlV none (some (.int k x)) (.slice a m c) = True := by
  simp only [okSlV, okI, loN, hiN, eq_iff_iff, iff_true, true_and]; omega
theorem okSlV_xb {a : Option Addr} {m c : Nat} {k k' : IntKind} {x y : Int} (h : 0 ≤ x ∧ x ≤ y ∧ y ≤ (c : Int)) : okSlV (some (.int k x)) (some (.int k' y)) (.slice a m c) = True := by
  simp only [okSlV, okI, loN, hiN, eq_iff_iff, iff_true, true_and]; omega
end
end Go.Proofs.Ythpciddlagodkaa
