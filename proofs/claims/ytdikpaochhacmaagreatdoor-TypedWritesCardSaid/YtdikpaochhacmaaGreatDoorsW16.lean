/- Texts of the proof, joined. -/
import Derived.Test.YtdikpaochhacmaaGreatDoorsP16
import Derived.Test.YtdikpaochhacmaaGreatDoorsW17
namespace Go.Proofs.YtdikpaochhacmaaGreatDoor
set_option linter.unusedSimpArgs false
set_option linter.unusedVariables false
attribute [local irreducible] SemK UnitK StK AlcK BslK CallK CallV Instr.box Builtin.append_ Instr.makeSlice Instr.makeMap Instr.lookup Instr.mapUpdate Instr.sliceAt convert
open Go.RowKit
theorem dropB16 (l : Str) (k : Nat) (h : (k : Int) < l.length) : l.drop k = l.getD k 0 :: l.drop (k + 1) := by
  rw [List.drop_eq_getElem_cons (by omega)]; simp [List.getD, List.getElem?_eq_getElem (show k < l.length by omega)]
theorem u8ne16 {b : UInt8} {c : UInt8} {n : Int} (hn : (c.toNat : Int) = n) (h : ¬ (b.toNat : Int) = n) : ¬ b = c := fun e => h (by rw [e]; exact hn)
theorem u8eq16 {b : UInt8} {c : UInt8} {n : Int} (hn : (c.toNat : Int) = n) (h : (b.toNat : Int) = n) : b = c := UInt8.toNat_inj.1 (by omega)
theorem dgB_t {b : UInt8} (h1 : 48 ≤ (b.toNat : Int)) (h2 : (b.toNat : Int) ≤ 57) : dgB b = true := by simp only [dgB, decide_eq_true_eq]; omega
theorem dgB_f {b : UInt8} (h : (b.toNat : Int) < 48 ∨ 57 < (b.toNat : Int)) : dgB b = false := by simp only [dgB, decide_eq_false_iff_not]; omega
theorem bod_at (b : UInt8) (r : Str) : bodM (b :: r) = (!(decide (b = 48)) && (b :: r).all dgB) := by
  simp only [bodM]
  by_cases h : b = 48 <;> simp [h]
theorem form_48 : formM [48] = true := by decide
theorem form_ne {s : Str} (h : ¬ s = [48]) : formM s = bodM (trM s) := by simp [formM, h]
def c140 : MC := (.seq (.reg [qq 4 (.mv (.const (S [])))]) (.seq (.seq (.reg [qm 5 0, qm 6 1, qq 7 (.call 99 [(.tmp 5), (.tmp 6)])]) (.cond (.tmp 7) (.seq (.reg [qm 8 0, qm 9 1, qq 10 (.lenS (.tmp 9)), qq 11 (.slS (.tmp 8) (.some (.tmp 10)) none), qm 4 11]) .ret) .skip)) (.seq (.reg [qm 12 0, qm 4 12]) .ret)))
theorem k140 : conv Tryz.prog 13 (Tryz.f140.body.getD .skip) = c140 := by kernel_rfl
theorem in140 {a0 a1 : Value} {w : World} {R : Value → World → Prop} (h : G Tryz.prog Tryz.f140 13 [.c c140] R (frL 0 [a0, a1]) w) : Ret Tryz.prog 140 #[a0, a1] w R := G.enter (args := [a0, a1]) Tryz.func140 (c := Tryz.f140.body.getD .skip) (by kernel_rfl) (by kernel_rfl) (by simp) k140 h
theorem trim0_spec (s : Str) (w : World) (hl : s.length ≤ 1000000000) : Pu Tryz.prog 140 #[S s, S [45]] w (S (trM s)) := by
  refine in140 ?_
  have hS := Sep.start w
  by_cases hc0 : s.take 1 = [45]
  · have hlen : 1 ≤ s.length := by
      cases s with
      | nil => simp at hc0
      | cons _ _ => simp
    have e : trM s = s.drop 1 := by simp [trM, negM, hc0]
    rw [e]
    repeat' (first | ((with_reducible apply G.a); exact rfl) | refine G.reg fun K hK => ?_ | (with_reducible (refine hK _ _ ?_); clear hK K) | (with_reducible (refine hK _ ?_); clear hK K; intro wd hxd; have hS := Sep.ext (by assumption) hxd) | ((first | have hk := hK | have hk := hK2); clear hk; simp (disch := (first | exact dis | fail)) only [push_cast, ↓reduceIte, Nat.reduceAdd, Nat.reduceLeDiff, Nat.reduceEqDiff, Nat.reduceLT, Int.reduceToNat, decide_eq_true hc0]) | ((first | refine brO_mk ?_ ?_ | refine brQ_mk ?_ ?_) <;> intro hb <;> (try simp only [Bool.not_eq_true', Bool.not_eq_false'] at hb) <;> have hc := hb <;> (try simp only [hcs, reduceCtorEq] at hc) <;> (try (exfalso; omega)) <;> simp only [hb] <;> clear hb) | (refine zalc ?_; intro gb wb hS) | (refine zbsl ?_; intro gb wb hS) | ((with_reducible (show SemK _ (Instr.box _ _) _ _ _ _)); refine zbox ?_; intro gb wb hS) | ((with_reducible (show StK _ _ (Value.pointer _) _ _ _ _ _)); refine zst ?_; intro wb hS; (try simp only [sets] at hS)) | (refine zcv ?_) | (refine zcp 99 (hpre0_spec s 45 _ hl) ?_; intro wb hS) | (refine G.drt mixed fun K hK wd hxd => ?_; have hS := Sep.ext (by assumption) hxd) | with_reducible refine OT_leaf ?_ | (with_reducible refine OT_tail fun K2 hK2 => ?_) | (with_reducible (refine hK2 _ ?_); clear hK2 K2; intro wd hxd; have hS := Sep.ext (by assumption) hxd) | with_reducible refine OT_br fun K2 hK2 => ?_ | (refine hK2 _ _ ?_ ?_ <;> clear hK2 K2) | refine G.drg mixed fun K hK => ?_ | (refine G.cond (by simp only [push_cast, ↓reduceIte, Nat.reduceAdd, Nat.reduceLeDiff, Nat.reduceEqDiff, Nat.reduceLT, Int.reduceToNat, decide_eq_true hc0]; rfl) ?_ ?_ <;> intro hc <;> (try simp only [hcs, reduceCtorEq] at hc) <;> (try (exfalso; omega))))
    (first | refine G.r1 ?_ | refine G.r2 ?_ | refine G.r3 ?_ | refine G.r0 ?_ | refine G.d0 ?_); (try simp (disch := first | exact dis | fail) only [push_cast, ↓reduceIte, Nat.reduceAdd, Nat.reduceLeDiff, Nat.reduceEqDiff, Nat.reduceLT, Int.reduceToNat, fct])
    (first | exact Sep.xt (by assumption) | exact ⟨rfl, Sep.xt (by assumption)⟩)
  · have e : trM s = s := by simp [trM, negM, hc0]
    rw [e]
    repeat' (first | ((with_reducible apply G.a); exact rfl) | refine G.reg fun K hK => ?_ | (with_reducible (refine hK _ _ ?_); clear hK K) | (with_reducible (refine hK _ ?_); clear hK K; intro wd hxd; have hS := Sep.ext (by assumption) hxd) | ((first | have hk := hK | have hk := hK2); clear hk; simp (disch := (first | exact dis | fail)) only [push_cast, ↓reduceIte, Nat.reduceAdd, Nat.reduceLeDiff, Nat.reduceEqDiff, Nat.reduceLT, Int.reduceToNat, decide_eq_false hc0]) | ((first | refine brO_mk ?_ ?_ | refine brQ_mk ?_ ?_) <;> intro hb <;> (try simp only [Bool.not_eq_true', Bool.not_eq_false'] at hb) <;> have hc := hb <;> (try simp only [hcs, reduceCtorEq] at hc) <;> (try (exfalso; omega)) <;> simp only [hb] <;> clear hb) | (refine zalc ?_; intro gb wb hS) | (refine zbsl ?_; intro gb wb hS) | ((with_reducible (show SemK _ (Instr.box _ _) _ _ _ _)); refine zbox ?_; intro gb wb hS) | ((with_reducible (show StK _ _ (Value.pointer _) _ _ _ _ _)); refine zst ?_; intro wb hS; (try simp only [sets] at hS)) | (refine zcv ?_) | (refine zcp 99 (hpre0_spec s 45 _ hl) ?_; intro wb hS) | (refine G.drt mixed fun K hK wd hxd => ?_; have hS := Sep.ext (by assumption) hxd) | with_reducible refine OT_leaf ?_ | (with_reducible refine OT_tail fun K2 hK2 => ?_) | (with_reducible (refine hK2 _ ?_); clear hK2 K2; intro wd hxd; have hS := Sep.ext (by assumption) hxd) | with_reducible refine OT_br fun K2 hK2 => ?_ | (refine hK2 _ _ ?_ ?_ <;> clear hK2 K2) | refine G.drg mixed fun K hK => ?_ | (refine G.cond (by simp only [push_cast, ↓reduceIte, Nat.reduceAdd, Nat.reduceLeDiff, Nat.reduceEqDiff, Nat.reduceLT, Int.reduceToNat, decide_eq_false hc0]; rfl) ?_ ?_ <;> intro hc <;> (try simp only [hcs, reduceCtorEq] at hc) <;> (try (exfalso; omega))))
    (first | refine G.r1 ?_ | refine G.r2 ?_ | refine G.r3 ?_ | refine G.r0 ?_ | refine G.d0 ?_); (try simp (disch := first | exact dis | fail) only [push_cast, ↓reduceIte, Nat.reduceAdd, Nat.reduceLeDiff, Nat.reduceEqDiff, Nat.reduceLT, Int.reduceToNat, fct])
    (first | exact Sep.xt (by assumption) | exact ⟨rfl, Sep.xt (by assumption)⟩)
def c124 : MC := (.seq (.reg [qq 4 (.mv (.const (S [])))]) (.seq (.reg [qm 5 0, qm 6 1, qq 7 (.call 140 [(.tmp 5), (.tmp 6)]), qm 4 7]) .ret))
theorem k124 : conv Tryz.prog 8 (Tryz.f124.body.getD .skip) = c124 := by kernel_rfl
theorem in124 {a0 a1 : Value} {w : World} {R : Value → World → Prop} (h : G Tryz.prog Tryz.f124 8 [.c c124] R (frL 0 [a0, a1]) w) : Ret Tryz.prog 124 #[a0, a1] w R := G.enter (args := [a0, a1]) Tryz.func124 (c := Tryz.f124.body.getD .skip) (by kernel_rfl) (by kernel_rfl) (by simp) k124 h
theorem trim_spec (s : Str) (w : World) (hl : s.length ≤ 1000000000) : Pu Tryz.prog 124 #[S s, S [45]] w (S (trM s)) := by
  refine in124 ?_
  have hS := Sep.start w
  repeat' (first | ((with_reducible apply G.a); exact rfl) | refine G.reg fun K hK => ?_ | (with_reducible (refine hK _ _ ?_); clear hK K) | (have hk := hK; clear hk; simp (disch := first | exact dis | fail) only [push_cast, ↓reduceIte, Nat.reduceAdd, Nat.reduceLeDiff, Nat.reduceEqDiff, Nat.reduceLT, Int.reduceToNat, fct]) | (refine zcp 140 (trim0_spec s _ hl) ?_; intro wb hS))
  (first | refine G.r1 ?_ | refine G.r2 ?_ | refine G.r3 ?_ | refine G.r0 ?_ | refine G.d0 ?_); (try simp (disch := first | exact dis | fail) only [push_cast, ↓reduceIte, Nat.reduceAdd, Nat.reduceLeDiff, Nat.reduceEqDiff, Nat.reduceLT, Int.reduceToNat, fct])
  (first | exact Sep.xt (by assumption) | exact ⟨rfl, Sep.xt (by assumption)⟩)
theorem tr_len (s : Str) : (trM s).length ≤ s.length := by unfold trM; split <;> simp
def c96l1 : MC := (.seq (.seq (.reg [qm 15 3, qm 16 0, qq 17 (.lenS (.tmp 16)), qq 18 (.bin .lss (.tmp 15) (.tmp 17))]) (.cond (.tmp 18) .skip (.exit 0))) (.seq (.blk 1 (.seq (.reg [qm 21 0, qm 22 3, qq 23 (.idxS (.tmp 21) (.tmp 22)), qq 24 (.bin .lss (.tmp 23) (.const (.int .u8 48))), qm 25 24, qmf 25 26 0, qmf 25 27 3, qf 25 28 (.idxS (.tmp 26) (.tmp 27)), qf 25 29 (.bin .gtr (.tmp 28) (.const (.int .u8 57))), qq 30 (.pick (.tmp 25) (kb true) (.tmp 29))]) (.cond (.tmp 30) (.seq (.reg [qq 2 (.mv (kb false))]) .ret) .skip))) (.reg [qm 19 3, qq 20 (.bin .add (.tmp 19) (ki 1)), qm 3 20])))
def c96 : MC := (.seq (.reg [qq 2 (.mv (kb false))]) (.seq (.seq (.reg [qm 4 0, qq 5 (.bin .eql (.tmp 4) (.const (S [48])))]) (.cond (.tmp 5) (.seq (.reg [qq 2 (.mv (kb true))]) .ret) .skip)) (.seq (.reg [qm 6 0, qq 7 (.call 124 [(.tmp 6), (.const (S [45]))]), qm 0 7]) (.seq (.seq (.reg [qm 8 0, qq 9 (.bin .eql (.tmp 8) (.const (S []))), qm 10 9, qmf 10 11 0, qf 10 12 (.idxS (.tmp 11) (ki 0)), qf 10 13 (.bin .eql (.tmp 12) (.const (.int .u8 48))), qq 14 (.pick (.tmp 10) (kb true) (.tmp 13))]) (.cond (.tmp 14) (.seq (.reg [qq 2 (.mv (kb false))]) .ret) .skip)) (.seq (.seq (.reg [qq 3 (.mv (ki 0))]) (.blk 0 (.loop c96l1))) (.seq (.reg [qq 2 (.mv (kb true))]) .ret))))))
theorem k96 : conv Tryz.prog 31 (Tryz.f96.body.getD .skip) = c96 := by kernel_rfl
theorem in96 {a0 : Value} {w : World} {R : Value → World → Prop} (h : G Tryz.prog Tryz.f96 31 [.c c96] R (frL 0 [a0]) w) : Ret Tryz.prog 96 #[a0] w R := G.enter (args := [a0]) Tryz.func96 (c := Tryz.f96.body.getD .skip) (by kernel_rfl) (by kernel_rfl) (by simp) k96 h
theorem form_spec (s : Str) (w : World) (hl : s.length ≤ 1000000) : Pu Tryz.prog 96 #[S s] w (.bool (formM s)) := by
  refine in96 ?_
  have hS := Sep.start w
  by_cases h0 : s = [48]
  · subst h0
    have hz : (([48] : Str) == [48]) = true := rfl
    (have fct := @hz; repeat' (first | ((with_reducible apply G.a); exact rfl) | refine G.reg fun K hK => ?_ | (with_reducible (refine hK _ _ ?_); clear hK K) | (have hk := hK; clear hk; simp (disch := first | exact dis | fail) only [push_cast, ↓reduceIte, Nat.reduceAdd, Nat.reduceLeDiff, Nat.reduceEqDiff, Nat.reduceLT, Int.reduceToNat, fct]) | (refine brO_n ?_ ?_ <;> intro hb hc <;> first | (with_reducible exact False.elim hc) | (exfalso; omega) | (simp only [hb]; clear hb)) | (refine G.cn ?_ ?_ <;> intro hc <;> first | (with_reducible exact False.elim hc) | (exfalso; omega) | skip))) <;> (try clear fct)
    (first | refine G.r1 ?_ | refine G.r2 ?_ | refine G.r3 ?_ | refine G.r0 ?_ | refine G.d0 ?_); (try simp (disch := first | exact dis | fail) only [push_cast, ↓reduceIte, Nat.reduceAdd, Nat.reduceLeDiff, Nat.reduceEqDiff, Nat.reduceLT, Int.reduceToNat, fct])
    rw [form_48]
    (first | exact Sep.xt (by assumption) | exact ⟨rfl, Sep.xt (by assumption)⟩)
  · have hz : (s == [48]) = false := by simpa using h0
    have hf := form_ne h0
    have htl := tr_len s
    generalize ht : trM s = t at hf htl
    cases t with
    | nil =>
      have hz2 : (([] : Str) == []) = true := rfl
      (have fct := (And.intro @hz (And.intro @ht @hz2)); repeat' (first | ((with_reducible apply G.a); exact rfl) | refine G.reg fun K hK => ?_ | (with_reducible (refine hK _ _ ?_); clear hK K) | (have hk := hK; clear hk; simp (disch := first | exact dis | fail) only [push_cast, ↓reduceIte, Nat.reduceAdd, Nat.reduceLeDiff, Nat.reduceEqDiff, Nat.reduceLT, Int.reduceToNat, fct]) | (refine brO_n ?_ ?_ <;> intro hb hc <;> first | (with_reducible exact False.elim hc) | (exfalso; omega) | (simp only [hb]; clear hb)) | (refine zcp 124 (trim_spec s _ (by omega)) ?_; intro wb hS) | (refine G.cn ?_ ?_ <;> intro hc <;> first | (with_reducible exact False.elim hc) | (exfalso; omega) | skip))) <;> (try clear fct)
      (first | refine G.r1 ?_ | refine G.r2 ?_ | refine G.r3 ?_ | refine G.r0 ?_ | refine G.d0 ?_); (try simp (disch := first | exact dis | fail) only [push_cast, ↓reduceIte, Nat.reduceAdd, Nat.reduceLeDiff, Nat.reduceEqDiff, Nat.reduceLT, Int.reduceToNat, fct])
      rw [hf]
      exact ⟨rfl, Sep.xt (by assumption)⟩
    | cons b r =>
      have hz2 : (b :: r == []) = false := by simp
      rw [bod_at] at hf
      (have fct := (And.intro @hz (And.intro @ht @hz2)); repeat' (first | ((with_reducible apply G.a); exact rfl) | refine G.reg fun K hK => ?_ | (with_reducible (refine hK _ _ ?_); clear hK K) | (have hk := hK; clear hk; simp (disch := first | exact dis | fail) only [push_cast, ↓reduceIte, Nat.reduceAdd, Nat.reduceLeDiff, Nat.reduceEqDiff, Nat.reduceLT, Int.reduceToNat, fct]) | (refine brO_n ?_ ?_ <;> intro hb hc <;> first | (with_reducible exact False.elim hc) | (exfalso; omega) | (simp only [hb]; clear hb)) | (refine zcp 124 (trim_spec s _ (by omega)) ?_; intro wb hS) | (refine G.cn ?_ ?_ <;> intro hc <;> first | (with_reducible exact False.elim hc) | (exfalso; omega) | skip))) <;> (try clear fct)
      · (first | refine G.r1 ?_ | refine G.r2 ?_ | refine G.r3 ?_ | refine G.r0 ?_ | refine G.d0 ?_); (try simp (disch := first | exact dis | fail) only [push_cast, ↓reduceIte, Nat.reduceAdd, Nat.reduceLeDiff, Nat.reduceEqDiff, Nat.reduceLT, Int.reduceToNat, fct])
        rw [hf, u8eq16 (c := 48) (n := 48) rfl hc]
        exact ⟨rfl, Sep.xt (by assumption)⟩
      · rw [decide_eq_false (u8ne16 (n := 48) rfl hc), Bool.not_false, Bool.true_and] at hf
        generalize b :: r = t at *
        refine G.loop (fun r w' => ∃ k : Nat, k ≤ t.length ∧ r 3 = I k ∧ r 0 = S t ∧ t.all dgB = (t.drop k).all dgB ∧ Sep w w' []) (fun r _ => t.length - toN (r 3)) ?_ ?_
        · refine ⟨0, ?_⟩
          ((repeat' apply And.intro) <;> first | exact dj | (simp only [push_cast, ↓reduceIte, Nat.reduceAdd, Nat.reduceLeDiff, Nat.reduceEqDiff, Nat.reduceLT, Int.reduceToNat] <;> omega) | skip)
          all_goals rfl
        · clear hS
          rintro u wl ⟨k, hk, h3, q0, e, hS⟩ ih
          by_cases hlt : (k : Int) < t.length
          · rw [dropB16 t k hlt, List.all_cons] at e
            (have fct := (And.intro @h3 @q0); repeat' (first | ((with_reducible apply G.a); exact rfl) | refine G.reg fun K hK => ?_ | (with_reducible (refine hK _ _ ?_); clear hK K) | (have hk := hK; clear hk; simp (disch := first | exact dis | fail) only [push_cast, ↓reduceIte, Nat.reduceAdd, Nat.reduceLeDiff, Nat.reduceEqDiff, Nat.reduceLT, Int.reduceToNat, fct]) | (refine brO_n ?_ ?_ <;> intro hb hc <;> first | (with_reducible exact False.elim hc) | (exfalso; omega) | (simp only [hb]; clear hb)) | (refine G.cn ?_ ?_ <;> intro hc <;> first | (with_reducible exact False.elim hc) | (exfalso; omega) | skip))) <;> (try clear fct)
            all_goals first
              | ((have fct := (And.intro @h3 @q0); (first | refine G.r1 ?_ | refine G.r2 ?_ | refine G.r3 ?_ | refine G.r0 ?_ | refine G.d0 ?_); (try simp (disch := first | exact dis | fail) only [push_cast, ↓reduceIte, Nat.reduceAdd, Nat.reduceLeDiff, Nat.reduceEqDiff, Nat.reduceLT, Int.reduceToNat, fct]); (try clear fct)); rw [hf, e, dgB_f (by omega), Bool.false_and]; exact Sep.xt (by assumption))
              | ((have fct := (And.intro @h3 @q0); (first | refine G.r1 ?_ | refine G.r2 ?_ | refine G.r3 ?_ | refine G.r0 ?_ | refine G.d0 ?_); (try simp (disch := first | exact dis | fail) only [push_cast, ↓reduceIte, Nat.reduceAdd, Nat.reduceLeDiff, Nat.reduceEqDiff, Nat.reduceLT, Int.reduceToNat, fct]); (try clear fct)); rw [hf, e, dgB_f (by omega), Bool.false_and]; exact ⟨rfl, Sep.xt (by assumption)⟩)
              | (rw [dgB_t (by omega) (by omega), Bool.true_and] at e; (refine ih _ _ ⟨k + 1, ?_⟩ ?_; rotate_left; (focus ((simp only [push_cast, ↓reduceIte, Nat.reduceAdd, Nat.reduceLeDiff, Nat.reduceEqDiff, Nat.reduceLT, Int.reduceToNat, toN_i, h3, q0] <;> omega))); ((repeat' apply And.intro) <;> first | exact dj | (simp only [push_cast, ↓reduceIte, Nat.reduceAdd, Nat.reduceLeDiff, Nat.reduceEqDiff, Nat.reduceLT, Int.reduceToNat, h3, q0] <;> omega) | skip)); done)
          · (have fct := (And.intro @h3 @q0); repeat' (first | ((with_reducible apply G.a); exact rfl) | refine G.reg fun K hK => ?_ | (with_reducible (refine hK _ _ ?_); clear hK K) | (have hk := hK; clear hk; simp (disch := first | exact dis | fail) only [push_cast, ↓reduceIte, Nat.reduceAdd, Nat.reduceLeDiff, Nat.reduceEqDiff, Nat.reduceLT, Int.reduceToNat, fct]) | (refine brO_n ?_ ?_ <;> intro hb hc <;> first | (with_reducible exact False.elim hc) | (exfalso; omega) | (simp only [hb]; clear hb)) | (refine G.cn ?_ ?_ <;> intro hc <;> first | (with_reducible exact False.elim hc) | (exfalso; omega) | skip))) <;> (try clear fct)
            (have fct := (And.intro @h3 @q0); (first | refine G.r1 ?_ | refine G.r2 ?_ | refine G.r3 ?_ | refine G.r0 ?_ | refine G.d0 ?_); (try simp (disch := first | exact dis | fail) only [push_cast, ↓reduceIte, Nat.reduceAdd, Nat.reduceLeDiff, Nat.reduceEqDiff, Nat.reduceLT, Int.reduceToNat, fct]); (try clear fct))
            rw [hf, e, List.drop_eq_nil_of_le (by omega)]
            exact ⟨rfl, Sep.xt (by assumption)⟩
end Go.Proofs.YtdikpaochhacmaaGreatDoor
namespace Go.Proofs.YtdikpaochhacmaaGreatDoor
set_option linter.unusedSimpArgs false
set_option linter.unusedVariables false
open Go.RowKit
theorem cpre_spec (s : Str) (c : UInt8) (w : World) (hl : s.length ≤ 1000000000) : Pu Tryz.prog 69 #[S s, S [c]] w (.tuple #[S (if s.take 1 = [c] then s.drop 1 else s), .bool (decide (s.take 1 = [c]))]) := by
  have h := cutp_spec s [c] w hl (by simp)
  have e : (s.take [c].length == [c]) = decide (s.take 1 = [c]) := by rw [Bool.eq_iff_iff]; simp
  rw [e] at h; simpa using h
end Go.Proofs.YtdikpaochhacmaaGreatDoor
