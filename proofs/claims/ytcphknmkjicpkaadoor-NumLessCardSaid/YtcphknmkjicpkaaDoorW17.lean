/- Chapter 17: walks of cell. -/
import Derived.Test.YtcphknmkjicpkaaDoorP17
import Derived.Test.YtcphknmkjicpkaaDoorS02
import Derived.Test.YtcphknmkjicpkaaDoorR02
import Derived.Test.YtcphknmkjicpkaaDoorW02
import Derived.Test.YtcphknmkjicpkaaDoorBs
import Derived.Test.YtcphknmkjicpkaaDoorFi
namespace Go.Proofs.YtcphknmkjicpkaaDoor
set_option linter.unusedSimpArgs false
set_option linter.unusedVariables false
attribute [local irreducible] SemK UnitK StK AlcK BslK CallK Instr.box Builtin.append_ Instr.makeSlice Instr.makeMap Instr.lookup Instr.mapUpdate Instr.sliceAt convert
open Go.RowKit
theorem right_iff (v : Val) : rightM v = true ↔ (v.kind = 0 ∧ v.s = [] ∧ v.n = 0 ∧ v.b = false) ∨ (v.kind = 1 ∧ validM v.s = true ∧ v.n = 0 ∧ v.b = false) ∨ (v.kind = 2 ∧ v.s = [] ∧ v.b = false) ∨ (v.kind = 3 ∧ v.s = [] ∧ v.n = 0) := by
  constructor
  · intro h
    obtain ⟨⟨h0, h3, a1, a2, a3⟩, hv⟩ := right_of h
    have : v.kind = 0 ∨ v.kind = 1 ∨ v.kind = 2 ∨ v.kind = 3 := by omega
    rcases this with e | e | e | e
    · exact .inl ⟨e, a1.resolve_left (by omega), a2.resolve_left (by omega), a3.resolve_left (by omega)⟩
    · exact .inr (.inl ⟨e, hv, a2.resolve_left (by omega), a3.resolve_left (by omega)⟩)
    · exact .inr (.inr (.inl ⟨e, a1.resolve_left (by omega), a3.resolve_left (by omega)⟩))
    · exact .inr (.inr (.inr ⟨e, a1.resolve_left (by omega), a2.resolve_left (by omega)⟩))
  · have hn : validM [] = true := rfl
    rintro (⟨e, h1, h2, h3⟩ | ⟨e, h1, h2, h3⟩ | ⟨e, h1, h3⟩ | ⟨e, h1, h2⟩) <;> simp [rightM, *]
def c34 : MC := (.seq (.reg [qq 4 (.mv (kb false))]) (.seq (.reg [qm 5 0, qq 6 (.lenS (.tmp 5)), qm 7 1, qq 8 (.lenS (.tmp 7)), qq 9 (.bin .geq (.tmp 6) (.tmp 8)), qm 10 9, qmt 10 11 0, qmt 10 12 1, qt 10 13 (.lenS (.tmp 12)), qt 10 14 (.slS (.tmp 11) none (.some (.tmp 13))), qmt 10 15 1, qt 10 16 (.bin .eql (.tmp 14) (.tmp 15)), qq 17 (.pick (.tmp 10) (.tmp 16) (kb false)), qm 4 17]) .ret))
theorem k34 : conv Tryd.prog 18 (Tryd.f34.body.getD .skip) = c34 := by kernel_rfl
theorem in34 {a0 a1 : Value} {w : World} {R : Value → World → Prop} (h : G Tryd.prog Tryd.f34 18 [.c c34] R (frL 0 [a0, a1]) w) : Ret Tryd.prog 34 #[a0, a1] w R := G.enter (args := [a0, a1]) Tryd.func34 (c := Tryd.f34.body.getD .skip) (by kernel_rfl) (by kernel_rfl) (by simp) k34 h
theorem hpre0_spec (s : Str) (c : UInt8) (w : World) (hl : s.length ≤ 1000000000) : Pu Tryd.prog 34 #[S s, S [c]] w (.bool (decide (s.take 1 = [c]))) := by
  refine in34 ?_
  have hS := Sep.start w
  cases s with
  | nil =>
    repeat' (first | refine G.seq ?_ | refine G.blk ?_ | refine G.endb ?_ | refine G.skip ?_ | refine G.exit rfl ?_ | refine G.reg fun K hK => ?_ | (with_reducible (refine hK _ _ ?_); clear hK K) | (with_reducible (refine hK _ ?_); clear hK K; intro wd hxd; have hS := Sep.ext (by assumption) hxd) | (have hk := hK; clear hk; simp (disch := (first | exact dis | fail)) only [push_cast, ↓reduceIte, Nat.reduceAdd, Nat.reduceLeDiff, Nat.reduceEqDiff, Nat.reduceLT, Int.reduceToNat]) | ((first | refine brO_mk ?_ ?_ | refine brQ_mk ?_ ?_) <;> intro hb <;> (try simp only [Bool.not_eq_true', Bool.not_eq_false'] at hb) <;> have hc := hb <;> (try simp only [hcs, reduceCtorEq] at hc) <;> (try (exfalso; omega)) <;> simp only [hb] <;> clear hb) | (refine zalc ?_; intro gb wb hS) | (refine zbsl ?_; intro gb wb hS) | ((with_reducible (show SemK _ (Instr.box _ _) _ _ _ _)); refine zbox ?_; intro gb wb hS) | ((with_reducible (show StK _ _ (Value.pointer _) _ _ _ _ _)); refine zst ?_; intro wb hS; (try simp only [sets] at hS))  | (refine G.drt mixed fun K hK wd hxd => ?_; have hS := Sep.ext (by assumption) hxd) | with_reducible refine OT_leaf ?_ | (with_reducible refine OT_tail fun K2 hK2 => ?_) | (with_reducible (refine hK2 _ ?_); clear hK2 K2; intro wd hxd; have hS := Sep.ext (by assumption) hxd) | (have hk := hK2; clear hk; simp (disch := (first | exact dis | fail)) only [push_cast, ↓reduceIte, Nat.reduceAdd, Nat.reduceLeDiff, Nat.reduceEqDiff, Nat.reduceLT, Int.reduceToNat]) | with_reducible refine OT_br fun K2 hK2 => ?_ | (refine hK2 _ _ ?_ ?_ <;> clear hK2 K2) | refine G.drg mixed fun K hK => ?_ | (refine G.cond (by simp only [push_cast, ↓reduceIte, Nat.reduceAdd, Nat.reduceLeDiff, Nat.reduceEqDiff, Nat.reduceLT, Int.reduceToNat]; rfl) ?_ ?_ <;> intro hc <;> (try simp only [hcs, reduceCtorEq] at hc) <;> (try (exfalso; omega))))
    ((first | apply G.rv1 rfl | apply G.rv2 rfl | apply G.rv3 rfl | apply G.ret0 rfl) <;> (first | exact RV.tmp | exact zag (by simp only [push_cast, ↓reduceIte, Nat.reduceAdd, Nat.reduceLeDiff, Nat.reduceEqDiff, Nat.reduceLT, Int.reduceToNat]; rfl) | skip)); (try simp (disch := (first | exact dis | fail)) only [push_cast, ↓reduceIte, Nat.reduceAdd, Nat.reduceLeDiff, Nat.reduceEqDiff, Nat.reduceLT, Int.reduceToNat])
    exact ⟨rfl, Sep.xt (by assumption)⟩
  | cons x r =>
    repeat' (first | refine G.seq ?_ | refine G.blk ?_ | refine G.endb ?_ | refine G.skip ?_ | refine G.exit rfl ?_ | refine G.reg fun K hK => ?_ | (with_reducible (refine hK _ _ ?_); clear hK K) | (with_reducible (refine hK _ ?_); clear hK K; intro wd hxd; have hS := Sep.ext (by assumption) hxd) | (have hk := hK; clear hk; simp (disch := (first | exact dis | fail)) only [push_cast, ↓reduceIte, Nat.reduceAdd, Nat.reduceLeDiff, Nat.reduceEqDiff, Nat.reduceLT, Int.reduceToNat]) | ((first | refine brO_mk ?_ ?_ | refine brQ_mk ?_ ?_) <;> intro hb <;> (try simp only [Bool.not_eq_true', Bool.not_eq_false'] at hb) <;> have hc := hb <;> (try simp only [hcs, reduceCtorEq] at hc) <;> (try (exfalso; omega)) <;> simp only [hb] <;> clear hb) | (refine zalc ?_; intro gb wb hS) | (refine zbsl ?_; intro gb wb hS) | ((with_reducible (show SemK _ (Instr.box _ _) _ _ _ _)); refine zbox ?_; intro gb wb hS) | ((with_reducible (show StK _ _ (Value.pointer _) _ _ _ _ _)); refine zst ?_; intro wb hS; (try simp only [sets] at hS))  | (refine G.drt mixed fun K hK wd hxd => ?_; have hS := Sep.ext (by assumption) hxd) | with_reducible refine OT_leaf ?_ | (with_reducible refine OT_tail fun K2 hK2 => ?_) | (with_reducible (refine hK2 _ ?_); clear hK2 K2; intro wd hxd; have hS := Sep.ext (by assumption) hxd) | (have hk := hK2; clear hk; simp (disch := (first | exact dis | fail)) only [push_cast, ↓reduceIte, Nat.reduceAdd, Nat.reduceLeDiff, Nat.reduceEqDiff, Nat.reduceLT, Int.reduceToNat]) | with_reducible refine OT_br fun K2 hK2 => ?_ | (refine hK2 _ _ ?_ ?_ <;> clear hK2 K2) | refine G.drg mixed fun K hK => ?_ | (refine G.cond (by simp only [push_cast, ↓reduceIte, Nat.reduceAdd, Nat.reduceLeDiff, Nat.reduceEqDiff, Nat.reduceLT, Int.reduceToNat]; rfl) ?_ ?_ <;> intro hc <;> (try simp only [hcs, reduceCtorEq] at hc) <;> (try (exfalso; omega))))
    all_goals
      ((first | apply G.rv1 rfl | apply G.rv2 rfl | apply G.rv3 rfl | apply G.ret0 rfl) <;> (first | exact RV.tmp | exact zag (by simp only [push_cast, ↓reduceIte, Nat.reduceAdd, Nat.reduceLeDiff, Nat.reduceEqDiff, Nat.reduceLT, Int.reduceToNat]; rfl) | skip)); (try simp (disch := (first | exact dis | fail)) only [push_cast, ↓reduceIte, Nat.reduceAdd, Nat.reduceLeDiff, Nat.reduceEqDiff, Nat.reduceLT, Int.reduceToNat])
      refine ⟨?_, Sep.xt (by assumption)⟩
      congr 1
      rw [Bool.eq_iff_iff]; simp
def i64M (n : Int) : Prop := -9223372036854775808 ≤ n ∧ n ≤ 9223372036854775807
def c15 : MC := (.seq (.reg [qq 2 (.mv (.const (S [])))]) (.seq (.reg [qm 3 0, qq 4 (.call 22 [(.tmp 3), (ki 10)]), qm 2 4]) .ret))
theorem k15 : conv Tryd.prog 5 (Tryd.f15.body.getD .skip) = c15 := by kernel_rfl
theorem in15 {a0 : Value} {w : World} {R : Value → World → Prop} (h : G Tryd.prog Tryd.f15 5 [.c c15] R (frL 0 [a0]) w) : Ret Tryd.prog 15 #[a0] w R := G.enter (args := [a0]) Tryd.func15 (c := Tryd.f15.body.getD .skip) (by kernel_rfl) (by kernel_rfl) (by simp) k15 h
theorem print_spec (n : Int) (w : World) (hn : i64M n) (ht : Tab w) : Pu Tryd.prog 15 #[I n] w (S (Lib.itoa n)) := by
  refine in15 ?_
  have hS := Sep.start w
  repeat' (first | refine G.seq ?_ | refine G.blk ?_ | refine G.endb ?_ | refine G.skip ?_ | refine G.exit rfl ?_ | refine G.reg fun K hK => ?_ | (with_reducible (refine hK _ _ ?_); clear hK K) | (with_reducible (refine hK _ ?_); clear hK K; intro wd hxd; have hS := Sep.ext (by assumption) hxd) | (have hk := hK; clear hk; simp (disch := (first | exact dis | fail)) only [push_cast, ↓reduceIte, Nat.reduceAdd, Nat.reduceLeDiff, Nat.reduceEqDiff, Nat.reduceLT, Int.reduceToNat]) | ((first | refine brO_mk ?_ ?_ | refine brQ_mk ?_ ?_) <;> intro hb <;> (try simp only [Bool.not_eq_true', Bool.not_eq_false'] at hb) <;> have hc := hb <;> (try simp only [hcs, reduceCtorEq] at hc) <;> (try (exfalso; omega)) <;> simp only [hb] <;> clear hb) | (refine zalc ?_; intro gb wb hS) | (refine zbsl ?_; intro gb wb hS) | ((with_reducible (show SemK _ (Instr.box _ _) _ _ _ _)); refine zbox ?_; intro gb wb hS) | ((with_reducible (show StK _ _ (Value.pointer _) _ _ _ _ _)); refine zst ?_; intro wb hS; (try simp only [sets] at hS)) | (refine zcp 22 (fi_spec n _ hn.1 hn.2 (ht.ext hS.x)) ?_; intro wb hS) | (refine G.drt mixed fun K hK wd hxd => ?_; have hS := Sep.ext (by assumption) hxd) | with_reducible refine OT_leaf ?_ | (with_reducible refine OT_tail fun K2 hK2 => ?_) | (with_reducible (refine hK2 _ ?_); clear hK2 K2; intro wd hxd; have hS := Sep.ext (by assumption) hxd) | (have hk := hK2; clear hk; simp (disch := (first | exact dis | fail)) only [push_cast, ↓reduceIte, Nat.reduceAdd, Nat.reduceLeDiff, Nat.reduceEqDiff, Nat.reduceLT, Int.reduceToNat]) | with_reducible refine OT_br fun K2 hK2 => ?_ | (refine hK2 _ _ ?_ ?_ <;> clear hK2 K2) | refine G.drg mixed fun K hK => ?_ | (refine G.cond (by simp only [push_cast, ↓reduceIte, Nat.reduceAdd, Nat.reduceLeDiff, Nat.reduceEqDiff, Nat.reduceLT, Int.reduceToNat]; rfl) ?_ ?_ <;> intro hc <;> (try simp only [hcs, reduceCtorEq] at hc) <;> (try (exfalso; omega))))
  ((first | apply G.rv1 rfl | apply G.rv2 rfl | apply G.rv3 rfl | apply G.ret0 rfl) <;> (first | exact RV.tmp | exact zag (by simp only [push_cast, ↓reduceIte, Nat.reduceAdd, Nat.reduceLeDiff, Nat.reduceEqDiff, Nat.reduceLT, Int.reduceToNat]; rfl) | skip)); (try simp (disch := (first | exact dis | fail)) only [push_cast, ↓reduceIte, Nat.reduceAdd, Nat.reduceLeDiff, Nat.reduceEqDiff, Nat.reduceLT, Int.reduceToNat])
  (first | exact Sep.xt (by assumption) | exact ⟨rfl, Sep.xt (by assumption)⟩)
theorem enc_fin {a : Str} {n : Int} {p : Str × Int} (h : p = (a, n)) : Value.tuple #[S a, .int .i64 n] = .tuple #[S p.1, I p.2] := by rw [h]
theorem neq_self (a : Int) : (!(a == a)) = false := by simp
theorem neqS_self (a : Str) : (!(a == a)) = false := by simp
theorem bl_gt (a b : Str) : (Op.bytesLess b a = true) = (Op.bytesLess a b = false ∧ ¬ a = b) := by
  have h1 := ordS.anti a b
  have h2 := ordS.zero a b
  unfold cmpS at h1 h2
  apply propext
  constructor
  · intro h
    rw [if_pos h] at h1
    refine ⟨?_, fun e => ?_⟩
    · cases hl : Op.bytesLess a b with
      | false => rfl
      | true => rw [if_pos hl] at h1; omega
    · have := h2.2 e
      rw [this] at h1; omega
  · rintro ⟨h, hn⟩
    rw [if_neg (by rw [h]; simp)] at h2
    cases hl : Op.bytesLess b a with
    | true => rfl
    | false => rw [if_neg (by rw [hl]; simp)] at h2; exact absurd (h2.1 rfl) hn
theorem dropD17 (l : List Int) (k : Nat) (h : (k : Int) < l.length) : l.drop k = l.getD k default :: l.drop (k + 1) := by
  rw [List.drop_eq_getElem_cons (by omega)]; simp [List.getD, List.getElem?_eq_getElem (show k < l.length by omega)]
def orM : List Int → Int
  | [] => 0
  | a :: r => if a ≠ 0 then a else orM r
end Go.Proofs.YtcphknmkjicpkaaDoor
