/- Texts of the proof, joined. -/
import Derived.Lib.ItoaLen
import Derived.Test.YtdikpaochhacmaaGreatDoorrW16
namespace Go.Proofs.YtdikpaochhacmaaGreatDoor
set_option linter.unusedSimpArgs false
set_option linter.unusedVariables false
attribute [local irreducible] SemK UnitK StK AlcK BslK CallK CallV Instr.box Builtin.append_ Instr.makeSlice Instr.makeMap Instr.lookup Instr.mapUpdate Instr.sliceAt convert
open Go.RowKit
def c66 : MC := (.seq (.reg [qq 2 (.mv (ki 0)), qq 3 (.mv (ki 0))]) (.seq (.seq (.reg [qm 6 0, qq 7 (.call 96 [(.tmp 6)]), qq 8 (.un .not (.tmp 7))]) (.cond (.tmp 8) (.seq (.reg [qq 2 (.mv (ki 0)), qq 3 (.mv (ki 17))]) .ret) .skip)) (.seq (.reg [qm 10 0, qq 11 (.call 97 [(.tmp 10), (ki 10), (ki 64)]), qm 9 11, qq 12 (.ext 0 (.tmp 9)), qq 13 (.ext 1 (.tmp 9)), qm 4 12, qm 5 13]) (.seq (.seq (.reg [qm 14 5, qq 15 (.raw (.binOp .neq 168 (.tmp 14) (.const .nilIface) 168) 4)]) (.cond (.tmp 15) (.seq (.reg [qq 2 (.mv (ki 0)), qq 3 (.mv (ki 18))]) .ret) .skip)) (.seq (.reg [qm 16 4, qm 2 16, qq 3 (.mv (ki 0))]) .ret)))))
theorem k66 : conv Tryz.prog 17 (Tryz.f66.body.getD .skip) = c66 := by kernel_rfl
theorem in66 {a0 : Value} {w : World} {R : Value → World → Prop} (h : G Tryz.prog Tryz.f66 17 [.c c66] R (frL 0 [a0]) w) : Ret Tryz.prog 66 #[a0] w R := G.enter (args := [a0]) Tryz.func66 (c := Tryz.f66.body.getD .skip) (by kernel_rfl) (by kernel_rfl) (by simp) k66 h
theorem parse16_spec (s : Str) (w : World) (hl : s.length ≤ 1000000) (hv : ErrV w) : Pu Tryz.prog 66 #[S s] w (.tuple #[I (pnM s).1, I (pnM s).2]) := by
  refine in66 ?_
  have hS := Sep.start w
  unfold pnM
  by_cases hf : formM s = true
  · rw [if_neg (by rw [hf]; simp)]
    by_cases hr : -9223372036854775808 ≤ numM s ∧ numM s ≤ 9223372036854775807
    · rw [if_pos hr]
      (have fct := @hf; repeat' (first | ((with_reducible apply G.a); exact rfl) | refine G.reg fun K hK => ?_ | (with_reducible (refine hK _ _ ?_); clear hK K) | (have hk := hK; clear hk; simp (disch := first | exact dis | fail) only [push_cast, ↓reduceIte, Nat.reduceAdd, Nat.reduceLeDiff, Nat.reduceEqDiff, Nat.reduceLT, Int.reduceToNat, fct]) | (refine zcp 96 (form_spec s _ hl) ?_; intro wb hS) | (refine zcp 97 (pi_ok s _ hl hf hr) ?_; intro wb hS) | (refine znn ?_) | (refine G.cn ?_ ?_ <;> intro hc <;> first | (with_reducible exact False.elim hc) | (exfalso; omega) | skip))) <;> (try clear fct)
      (first | refine G.r1 ?_ | refine G.r2 ?_ | refine G.r3 ?_ | refine G.r0 ?_ | refine G.d0 ?_); (try simp (disch := first | exact dis | fail) only [push_cast, ↓reduceIte, Nat.reduceAdd, Nat.reduceLeDiff, Nat.reduceEqDiff, Nat.reduceLT, Int.reduceToNat, fct])
      (first | exact Sep.xt (by assumption) | exact ⟨rfl, Sep.xt (by assumption)⟩)
    · rw [if_neg hr]
      (have fct := @hf; repeat' (first | ((with_reducible apply G.a); exact rfl) | refine G.reg fun K hK => ?_ | (with_reducible (refine hK _ _ ?_); clear hK K) | (have hk := hK; clear hk; simp (disch := first | exact dis | fail) only [push_cast, ↓reduceIte, Nat.reduceAdd, Nat.reduceLeDiff, Nat.reduceEqDiff, Nat.reduceLT, Int.reduceToNat, fct]) | (refine zcp 96 (form_spec s _ hl) ?_; intro wb hS) | (refine zco 97 (pi_range s _ hl hf hr (hv.ext hS.x)) ?_; rintro vb wb ⟨n, t, p, rfl, hx⟩; have hS := Sep.ext hS hx) | (refine zns ?_) | (refine G.cn ?_ ?_ <;> intro hc <;> first | (with_reducible exact False.elim hc) | (exfalso; omega) | skip))) <;> (try clear fct)
      (first | refine G.r1 ?_ | refine G.r2 ?_ | refine G.r3 ?_ | refine G.r0 ?_ | refine G.d0 ?_); (try simp (disch := first | exact dis | fail) only [push_cast, ↓reduceIte, Nat.reduceAdd, Nat.reduceLeDiff, Nat.reduceEqDiff, Nat.reduceLT, Int.reduceToNat, fct])
      (first | exact Sep.xt (by assumption) | exact ⟨rfl, Sep.xt (by assumption)⟩)
  · have hff : formM s = false := by simpa using hf
    rw [if_pos hff]
    (have fct := @hff; repeat' (first | ((with_reducible apply G.a); exact rfl) | refine G.reg fun K hK => ?_ | (with_reducible (refine hK _ _ ?_); clear hK K) | (have hk := hK; clear hk; simp (disch := first | exact dis | fail) only [push_cast, ↓reduceIte, Nat.reduceAdd, Nat.reduceLeDiff, Nat.reduceEqDiff, Nat.reduceLT, Int.reduceToNat, fct]) | (refine zcp 96 (form_spec s _ hl) ?_; intro wb hS) | (refine G.cn ?_ ?_ <;> intro hc <;> first | (with_reducible exact False.elim hc) | (exfalso; omega) | skip))) <;> (try clear fct)
    (first | refine G.r1 ?_ | refine G.r2 ?_ | refine G.r3 ?_ | refine G.r0 ?_ | refine G.d0 ?_); (try simp (disch := first | exact dis | fail) only [push_cast, ↓reduceIte, Nat.reduceAdd, Nat.reduceLeDiff, Nat.reduceEqDiff, Nat.reduceLT, Int.reduceToNat, fct])
    (first | exact Sep.xt (by assumption) | exact ⟨rfl, Sep.xt (by assumption)⟩)
def c102l1 : MC := (.seq (.seq (.reg [qm 24 3, qm 25 0, qq 26 (.lenS (.tmp 25)), qq 27 (.bin .lss (.tmp 24) (.tmp 26))]) (.cond (.tmp 27) .skip (.exit 0))) (.seq (.blk 1 (.seq (.reg [qm 30 0, qm 31 3, qq 32 (.idxS (.tmp 30) (.tmp 31)), qq 33 (.bin .lss (.tmp 32) (.const (.int .u8 48))), qm 34 33, qmf 34 35 0, qmf 34 36 3, qf 34 37 (.idxS (.tmp 35) (.tmp 36)), qf 34 38 (.bin .gtr (.tmp 37) (.const (.int .u8 57))), qq 39 (.pick (.tmp 34) (kb true) (.tmp 38))]) (.cond (.tmp 39) (.seq (.reg [qq 2 (.mv (kb false))]) .ret) .skip))) (.reg [qm 28 3, qq 29 (.bin .add (.tmp 28) (ki 1)), qm 3 29])))
def c102 : MC := (.seq (.reg [qq 2 (.mv (kb false))]) (.seq (.seq (.reg [qm 4 0, qq 5 (.bin .eql (.tmp 4) (.const (S [48])))]) (.cond (.tmp 5) (.seq (.reg [qq 2 (.mv (kb true))]) .ret) .skip)) (.seq (.seq (.reg [qm 6 0, qq 7 (.lenS (.tmp 6)), qq 8 (.bin .gtr (.tmp 7) (ki 0)), qm 9 8, qmt 9 10 0, qt 9 11 (.idxS (.tmp 10) (ki 0)), qt 9 12 (.bin .eql (.tmp 11) (.const (.int .u8 45))), qq 13 (.pick (.tmp 9) (.tmp 12) (kb false))]) (.cond (.tmp 13) (.reg [qm 14 0, qq 15 (.slS (.tmp 14) (.some (ki 1)) none), qm 0 15]) .skip)) (.seq (.seq (.reg [qm 16 0, qq 17 (.lenS (.tmp 16)), qq 18 (.bin .eql (.tmp 17) (ki 0)), qm 19 18, qmf 19 20 0, qf 19 21 (.idxS (.tmp 20) (ki 0)), qf 19 22 (.bin .eql (.tmp 21) (.const (.int .u8 48))), qq 23 (.pick (.tmp 19) (kb true) (.tmp 22))]) (.cond (.tmp 23) (.seq (.reg [qq 2 (.mv (kb false))]) .ret) .skip)) (.seq (.seq (.reg [qq 3 (.mv (ki 0))]) (.blk 0 (.loop c102l1))) (.seq (.reg [qq 2 (.mv (kb true))]) .ret))))))
theorem k102 : conv Tryz.prog 40 (Tryz.f102.body.getD .skip) = c102 := by kernel_rfl
theorem in102 {a0 : Value} {w : World} {R : Value → World → Prop} (h : G Tryz.prog Tryz.f102 40 [.c c102] R (frL 0 [a0]) w) : Ret Tryz.prog 102 #[a0] w R := G.enter (args := [a0]) Tryz.func102 (c := Tryz.f102.body.getD .skip) (by kernel_rfl) (by kernel_rfl) (by simp) k102 h
theorem rform_loop (t : Str) {w wl : World} {ρ : Fr} (hl : t.length ≤ 1000000) (hS : Sep w wl []) (q3 : ρ 3 = I 0) (q0 : ρ 0 = S t) :
    G Tryz.prog Tryz.f102 40 [.c (.loop c102l1), .b 0, .c (.seq (.reg [qq 2 (.mv (kb true))]) .ret)] (fun v w' => v = .bool (t.all dgB) ∧ Ext w w') ρ wl := by
  refine G.loop (fun r w' => ∃ k : Nat, k ≤ t.length ∧ r 3 = I k ∧ r 0 = S t ∧ t.all dgB = (t.drop k).all dgB ∧ Sep w w' []) (fun r _ => t.length - toN (r 3)) ?_ ?_
  · refine ⟨0, by omega, q3, q0, rfl, hS⟩
  · clear hS
    rintro u wl ⟨k, hk, h3, q0, e, hS⟩ ih
    by_cases hlt : (k : Int) < t.length
    · rw [dropB16 t k hlt, List.all_cons] at e
      (have fct := (And.intro @h3 @q0); repeat' (first | ((with_reducible apply G.a); exact rfl) | refine G.reg fun K hK => ?_ | (with_reducible (refine hK _ _ ?_); clear hK K) | (have hk := hK; clear hk; simp (disch := first | exact dis | fail) only [push_cast, ↓reduceIte, Nat.reduceAdd, Nat.reduceLeDiff, Nat.reduceEqDiff, Nat.reduceLT, Int.reduceToNat, fct]) | (refine brO_n ?_ ?_ <;> intro hb hc <;> first | (with_reducible exact False.elim hc) | (exfalso; omega) | (simp only [hb]; clear hb)) | (refine G.cn ?_ ?_ <;> intro hc <;> first | (with_reducible exact False.elim hc) | (exfalso; omega) | skip))) <;> (try clear fct)
      all_goals first
        | ((have fct := (And.intro @h3 @q0); (first | refine G.r1 ?_ | refine G.r2 ?_ | refine G.r3 ?_ | refine G.r0 ?_ | refine G.d0 ?_); (try simp (disch := first | exact dis | fail) only [push_cast, ↓reduceIte, Nat.reduceAdd, Nat.reduceLeDiff, Nat.reduceEqDiff, Nat.reduceLT, Int.reduceToNat, fct]); (try clear fct)); rw [e, dgB_f (by omega), Bool.false_and]; exact Sep.xt (by assumption))
        | ((have fct := (And.intro @h3 @q0); (first | refine G.r1 ?_ | refine G.r2 ?_ | refine G.r3 ?_ | refine G.r0 ?_ | refine G.d0 ?_); (try simp (disch := first | exact dis | fail) only [push_cast, ↓reduceIte, Nat.reduceAdd, Nat.reduceLeDiff, Nat.reduceEqDiff, Nat.reduceLT, Int.reduceToNat, fct]); (try clear fct)); rw [e, dgB_f (by omega), Bool.false_and]; exact ⟨rfl, Sep.xt (by assumption)⟩)
        | (rw [dgB_t (by omega) (by omega), Bool.true_and] at e; (refine ih _ _ ⟨k + 1, ?_⟩ ?_; rotate_left; (focus ((simp only [push_cast, ↓reduceIte, Nat.reduceAdd, Nat.reduceLeDiff, Nat.reduceEqDiff, Nat.reduceLT, Int.reduceToNat, toN_i, h3, q0] <;> omega))); ((repeat' apply And.intro) <;> first | exact dj | (simp only [push_cast, ↓reduceIte, Nat.reduceAdd, Nat.reduceLeDiff, Nat.reduceEqDiff, Nat.reduceLT, Int.reduceToNat, h3, q0] <;> omega) | skip)); done)
    · (have fct := (And.intro @h3 @q0); repeat' (first | ((with_reducible apply G.a); exact rfl) | refine G.reg fun K hK => ?_ | (with_reducible (refine hK _ _ ?_); clear hK K) | (have hk := hK; clear hk; simp (disch := first | exact dis | fail) only [push_cast, ↓reduceIte, Nat.reduceAdd, Nat.reduceLeDiff, Nat.reduceEqDiff, Nat.reduceLT, Int.reduceToNat, fct]) | (refine brO_n ?_ ?_ <;> intro hb hc <;> first | (with_reducible exact False.elim hc) | (exfalso; omega) | (simp only [hb]; clear hb)) | (refine G.cn ?_ ?_ <;> intro hc <;> first | (with_reducible exact False.elim hc) | (exfalso; omega) | skip))) <;> (try clear fct)
      (have fct := (And.intro @h3 @q0); (first | refine G.r1 ?_ | refine G.r2 ?_ | refine G.r3 ?_ | refine G.r0 ?_ | refine G.d0 ?_); (try simp (disch := first | exact dis | fail) only [push_cast, ↓reduceIte, Nat.reduceAdd, Nat.reduceLeDiff, Nat.reduceEqDiff, Nat.reduceLT, Int.reduceToNat, fct]); (try clear fct))
      rw [e, List.drop_eq_nil_of_le (by omega)]
      exact ⟨rfl, Sep.xt (by assumption)⟩
theorem rform_spec (s : Str) (w : World) (hl : s.length ≤ 1000000) : Pu Tryz.prog 102 #[S s] w (.bool (formM s)) := by
  refine in102 ?_
  have hS := Sep.start w
  by_cases h0 : s = [48]
  · subst h0
    have hz : (([48] : Str) == [48]) = true := rfl
    (have fct := @hz; repeat' (first | ((with_reducible apply G.a); exact rfl) | refine G.reg fun K hK => ?_ | (with_reducible (refine hK _ _ ?_); clear hK K) | (have hk := hK; clear hk; simp (disch := first | exact dis | fail) only [push_cast, ↓reduceIte, Nat.reduceAdd, Nat.reduceLeDiff, Nat.reduceEqDiff, Nat.reduceLT, Int.reduceToNat, fct]) | (refine brO_n ?_ ?_ <;> intro hb hc <;> first | (with_reducible exact False.elim hc) | (exfalso; omega) | (simp only [hb]; clear hb)) | (refine G.cn ?_ ?_ <;> intro hc <;> first | (with_reducible exact False.elim hc) | (exfalso; omega) | skip))) <;> (try clear fct)
    (first | refine G.r1 ?_ | refine G.r2 ?_ | refine G.r3 ?_ | refine G.r0 ?_ | refine G.d0 ?_); (try simp (disch := first | exact dis | fail) only [push_cast, ↓reduceIte, Nat.reduceAdd, Nat.reduceLeDiff, Nat.reduceEqDiff, Nat.reduceLT, Int.reduceToNat, fct])
    rw [form_48]
    (first | exact Sep.xt (by assumption) | exact ⟨rfl, Sep.xt (by assumption)⟩)
  · have hz : (s == [48]) = false := by simpa using h0
    have hf := form_ne h0
    have htl := tr_len s
    have hdrop : negM s = true → s.drop 1 = trM s := fun h => by simp [trM, h]
    have hsame : negM s = false → trM s = s := tr_pos
    cases s with
    | nil =>
      (have fct := @hz; repeat' (first | ((with_reducible apply G.a); exact rfl) | refine G.reg fun K hK => ?_ | (with_reducible (refine hK _ _ ?_); clear hK K) | (have hk := hK; clear hk; simp (disch := first | exact dis | fail) only [push_cast, ↓reduceIte, Nat.reduceAdd, Nat.reduceLeDiff, Nat.reduceEqDiff, Nat.reduceLT, Int.reduceToNat, fct]) | (refine brO_n ?_ ?_ <;> intro hb hc <;> first | (with_reducible exact False.elim hc) | (exfalso; omega) | (simp only [hb]; clear hb)) | (refine G.cn ?_ ?_ <;> intro hc <;> first | (with_reducible exact False.elim hc) | (exfalso; omega) | skip))) <;> (try clear fct)
      (first | refine G.r1 ?_ | refine G.r2 ?_ | refine G.r3 ?_ | refine G.r0 ?_ | refine G.d0 ?_); (try simp (disch := first | exact dis | fail) only [push_cast, ↓reduceIte, Nat.reduceAdd, Nat.reduceLeDiff, Nat.reduceEqDiff, Nat.reduceLT, Int.reduceToNat, fct])
      rw [hf]
      exact ⟨rfl, Sep.xt (by assumption)⟩
    | cons c r =>
      simp only [List.length_cons] at hl
      by_cases hc45 : (c.toNat : Int) = 45
      · have ec := u8eq16 (c := 45) (n := 45) rfl hc45
        have e : trM (c :: r) = r := by rw [ec]; rfl
        rw [e] at hf
        cases r with
        | nil =>
          repeat' (first | ((with_reducible apply G.a); exact rfl) | refine G.reg fun K hK => ?_ | (with_reducible (refine hK _ _ ?_); clear hK K) | (with_reducible (refine hK _ ?_); clear hK K; intro wd hxd; have hS := Sep.ext (by assumption) hxd) | ((first | have hk := hK | have hk := hK2); clear hk; simp (disch := (first | exact dis | fail)) only [push_cast, ↓reduceIte, Nat.reduceAdd, Nat.reduceLeDiff, Nat.reduceEqDiff, Nat.reduceLT, Int.reduceToNat, hz, List.drop_succ_cons, List.drop_zero]) | ((first | refine brO_mk ?_ ?_ | refine brQ_mk ?_ ?_) <;> intro hb <;> (try simp only [Bool.not_eq_true', Bool.not_eq_false'] at hb) <;> have hc := hb <;> (try simp only [hcs, reduceCtorEq] at hc) <;> (try (exfalso; omega)) <;> simp only [hb] <;> clear hb) | (refine zalc ?_; intro gb wb hS) | (refine zbsl ?_; intro gb wb hS) | ((with_reducible (show SemK _ (Instr.box _ _) _ _ _ _)); refine zbox ?_; intro gb wb hS) | ((with_reducible (show StK _ _ (Value.pointer _) _ _ _ _ _)); refine zst ?_; intro wb hS; (try simp only [sets] at hS)) | (refine zcv ?_)  | (refine G.drt mixed fun K hK wd hxd => ?_; have hS := Sep.ext (by assumption) hxd) | with_reducible refine OT_leaf ?_ | (with_reducible refine OT_tail fun K2 hK2 => ?_) | (with_reducible (refine hK2 _ ?_); clear hK2 K2; intro wd hxd; have hS := Sep.ext (by assumption) hxd) | with_reducible refine OT_br fun K2 hK2 => ?_ | (refine hK2 _ _ ?_ ?_ <;> clear hK2 K2) | refine G.drg mixed fun K hK => ?_ | (refine G.cond (by simp only [push_cast, ↓reduceIte, Nat.reduceAdd, Nat.reduceLeDiff, Nat.reduceEqDiff, Nat.reduceLT, Int.reduceToNat, hz, List.drop_succ_cons, List.drop_zero]; rfl) ?_ ?_ <;> intro hc <;> (try simp only [hcs, reduceCtorEq] at hc) <;> (try (exfalso; omega))))
          (first | refine G.r1 ?_ | refine G.r2 ?_ | refine G.r3 ?_ | refine G.r0 ?_ | refine G.d0 ?_); (try simp (disch := first | exact dis | fail) only [push_cast, ↓reduceIte, Nat.reduceAdd, Nat.reduceLeDiff, Nat.reduceEqDiff, Nat.reduceLT, Int.reduceToNat, fct])
          rw [hf]
          exact ⟨rfl, Sep.xt (by assumption)⟩
        | cons b r3 =>
          rw [bod_at] at hf
          simp only [List.length_cons] at hl
          repeat' (first | ((with_reducible apply G.a); exact rfl) | refine G.reg fun K hK => ?_ | (with_reducible (refine hK _ _ ?_); clear hK K) | (with_reducible (refine hK _ ?_); clear hK K; intro wd hxd; have hS := Sep.ext (by assumption) hxd) | ((first | have hk := hK | have hk := hK2); clear hk; simp (disch := (first | exact dis | fail)) only [push_cast, ↓reduceIte, Nat.reduceAdd, Nat.reduceLeDiff, Nat.reduceEqDiff, Nat.reduceLT, Int.reduceToNat, hz, List.drop_succ_cons, List.drop_zero]) | ((first | refine brO_mk ?_ ?_ | refine brQ_mk ?_ ?_) <;> intro hb <;> (try simp only [Bool.not_eq_true', Bool.not_eq_false'] at hb) <;> have hc := hb <;> (try simp only [hcs, reduceCtorEq] at hc) <;> (try (exfalso; omega)) <;> simp only [hb] <;> clear hb) | (refine zalc ?_; intro gb wb hS) | (refine zbsl ?_; intro gb wb hS) | ((with_reducible (show SemK _ (Instr.box _ _) _ _ _ _)); refine zbox ?_; intro gb wb hS) | ((with_reducible (show StK _ _ (Value.pointer _) _ _ _ _ _)); refine zst ?_; intro wb hS; (try simp only [sets] at hS)) | (refine zcv ?_)  | (refine G.drt mixed fun K hK wd hxd => ?_; have hS := Sep.ext (by assumption) hxd) | with_reducible refine OT_leaf ?_ | (with_reducible refine OT_tail fun K2 hK2 => ?_) | (with_reducible (refine hK2 _ ?_); clear hK2 K2; intro wd hxd; have hS := Sep.ext (by assumption) hxd) | with_reducible refine OT_br fun K2 hK2 => ?_ | (refine hK2 _ _ ?_ ?_ <;> clear hK2 K2) | refine G.drg mixed fun K hK => ?_ | (refine G.cond (by simp only [push_cast, ↓reduceIte, Nat.reduceAdd, Nat.reduceLeDiff, Nat.reduceEqDiff, Nat.reduceLT, Int.reduceToNat, hz, List.drop_succ_cons, List.drop_zero]; rfl) ?_ ?_ <;> intro hc <;> (try simp only [hcs, reduceCtorEq] at hc) <;> (try (exfalso; omega))))
          · (first | refine G.r1 ?_ | refine G.r2 ?_ | refine G.r3 ?_ | refine G.r0 ?_ | refine G.d0 ?_); (try simp (disch := first | exact dis | fail) only [push_cast, ↓reduceIte, Nat.reduceAdd, Nat.reduceLeDiff, Nat.reduceEqDiff, Nat.reduceLT, Int.reduceToNat, fct])
            rw [hf, u8eq16 (c := 48) (n := 48) rfl hc]
            exact ⟨rfl, Sep.xt (by assumption)⟩
          · rw [decide_eq_false (u8ne16 (n := 48) rfl hc), Bool.not_false, Bool.true_and] at hf
            rw [hf]
            exact rform_loop (b :: r3) (by simp; omega) hS rfl rfl
      · have hn : negM (c :: r) = false := by
          simp only [negM, List.take_succ_cons, List.take_zero, decide_eq_false_iff_not, List.cons.injEq, and_true]
          exact u8ne16 (n := 45) rfl hc45
        rw [tr_pos hn, bod_at] at hf
        repeat' (first | ((with_reducible apply G.a); exact rfl) | refine G.reg fun K hK => ?_ | (with_reducible (refine hK _ _ ?_); clear hK K) | (with_reducible (refine hK _ ?_); clear hK K; intro wd hxd; have hS := Sep.ext (by assumption) hxd) | ((first | have hk := hK | have hk := hK2); clear hk; simp (disch := (first | exact dis | fail)) only [push_cast, ↓reduceIte, Nat.reduceAdd, Nat.reduceLeDiff, Nat.reduceEqDiff, Nat.reduceLT, Int.reduceToNat, hz, List.drop_succ_cons, List.drop_zero]) | ((first | refine brO_mk ?_ ?_ | refine brQ_mk ?_ ?_) <;> intro hb <;> (try simp only [Bool.not_eq_true', Bool.not_eq_false'] at hb) <;> have hc := hb <;> (try simp only [hcs, reduceCtorEq] at hc) <;> (try (exfalso; omega)) <;> simp only [hb] <;> clear hb) | (refine zalc ?_; intro gb wb hS) | (refine zbsl ?_; intro gb wb hS) | ((with_reducible (show SemK _ (Instr.box _ _) _ _ _ _)); refine zbox ?_; intro gb wb hS) | ((with_reducible (show StK _ _ (Value.pointer _) _ _ _ _ _)); refine zst ?_; intro wb hS; (try simp only [sets] at hS)) | (refine zcv ?_)  | (refine G.drt mixed fun K hK wd hxd => ?_; have hS := Sep.ext (by assumption) hxd) | with_reducible refine OT_leaf ?_ | (with_reducible refine OT_tail fun K2 hK2 => ?_) | (with_reducible (refine hK2 _ ?_); clear hK2 K2; intro wd hxd; have hS := Sep.ext (by assumption) hxd) | with_reducible refine OT_br fun K2 hK2 => ?_ | (refine hK2 _ _ ?_ ?_ <;> clear hK2 K2) | refine G.drg mixed fun K hK => ?_ | (refine G.cond (by simp only [push_cast, ↓reduceIte, Nat.reduceAdd, Nat.reduceLeDiff, Nat.reduceEqDiff, Nat.reduceLT, Int.reduceToNat, hz, List.drop_succ_cons, List.drop_zero]; rfl) ?_ ?_ <;> intro hc <;> (try simp only [hcs, reduceCtorEq] at hc) <;> (try (exfalso; omega))))
        · (first | refine G.r1 ?_ | refine G.r2 ?_ | refine G.r3 ?_ | refine G.r0 ?_ | refine G.d0 ?_); (try simp (disch := first | exact dis | fail) only [push_cast, ↓reduceIte, Nat.reduceAdd, Nat.reduceLeDiff, Nat.reduceEqDiff, Nat.reduceLT, Int.reduceToNat, fct])
          rw [hf, u8eq16 (c := 48) (n := 48) rfl hc]
          exact ⟨rfl, Sep.xt (by assumption)⟩
        · rw [decide_eq_false (u8ne16 (n := 48) rfl hc), Bool.not_false, Bool.true_and] at hf
          rw [hf]
          exact rform_loop (c :: r) (by simp; omega) hS rfl rfl
theorem itoa_s0 {n : Int} (h : 0 ≤ n) (h2 : n < 10) : Lib.itoa n = [UInt8.ofNat (48 + n).toNat] := by
  unfold Lib.itoa
  rw [if_neg (by omega), Lib.decDigits, dif_pos (by omega)]
  congr 2; omega
theorem itoa_b0 {n : Int} (h : 10 ≤ n) : Lib.itoa n = Lib.itoa (n / 10) ++ [UInt8.ofNat (48 + n % 10).toNat] := by
  unfold Lib.itoa
  rw [if_neg (by omega), if_neg (by omega), Lib.decDigits, dif_neg (by omega)]
  have e1 : n.toNat / 10 = (n / 10).toNat := by omega
  have e2 : 48 + n.toNat % 10 = (48 + n % 10).toNat := by omega
  rw [e1, e2]
theorem itoa_s1 {n : Int} (h : -10 < n) (h2 : n < 0) : Lib.itoa n = [45] ++ [UInt8.ofNat (48 - n).toNat] := by
  unfold Lib.itoa
  rw [if_pos h2, Lib.decDigits, dif_pos (by omega)]
  have e2 : 48 + n.natAbs = (48 - n).toNat := by omega
  rw [e2]; rfl
theorem itoa_b1 {n : Int} (h : n ≤ -10) : Lib.itoa n = Lib.itoa (-((-n) / 10)) ++ [UInt8.ofNat (48 - -((-n) % 10)).toNat] := by
  unfold Lib.itoa
  rw [if_pos (by omega), if_pos (by omega), Lib.decDigits, dif_neg (by omega)]
  have e1 : n.natAbs / 10 = (-((-n) / 10)).natAbs := by omega
  have e2 : 48 + n.natAbs % 10 = (48 - -((-n) % 10)).toNat := by omega
  rw [e1, e2]; rfl
theorem tdiv_neg {n : Int} (h : n < 0) : n.tdiv 10 = -((-n) / 10) := by
  have : n = -(-n) := by omega
  rw [this, Int.neg_tdiv, Int.neg_neg, Int.tdiv_eq_ediv_of_nonneg (by omega)]
theorem tmod_neg {n : Int} (h : n < 0) : n.tmod 10 = -((-n) % 10) := by
  have : n = -(-n) := by omega
  rw [this, Int.neg_tmod, Int.neg_neg, Int.tmod_eq_emod_of_nonneg (by omega)]
def c100 : MC := (.seq (.reg [qq 2 (.mv (.const (S [])))]) (.seq (.seq (.reg [qm 4 0, qq 5 (.bin .lss (.tmp 4) (ki 0))]) (.cond (.tmp 5) (.seq (.seq (.reg [qm 6 0, qq 7 (.bin .quo (.tmp 6) (ki 10)), qq 8 (.bin .eql (.tmp 7) (ki 0))]) (.cond (.tmp 8) (.seq (.reg [qm 9 0, qq 10 (.bin .rem (.tmp 9) (ki 10)), qq 11 (.bin .sub (ki 48) (.tmp 10)), qq 12 (.cvi .u8 (.tmp 11)), qq 13 (.bsl 5 [(.int .u8 0)] 1 [⟨0, ⟨1, (.tmp 12)⟩⟩]), qq 14 (.b2s (.tmp 13)), qq 15 (.bin .add (.const (S [45])) (.tmp 14)), qm 2 15]) .ret) .skip)) (.seq (.drg [qm 16 0, qq 17 (.bin .quo (.tmp 16) (ki 10)), qq 18 (.call 100 [(.tmp 17)]), qm 19 0, qq 20 (.bin .rem (.tmp 19) (ki 10)), qq 21 (.bin .sub (ki 48) (.tmp 20)), qq 22 (.cvi .u8 (.tmp 21)), qq 23 (.bsl 5 [(.int .u8 0)] 1 [⟨0, ⟨1, (.tmp 22)⟩⟩]), qq 24 (.b2s (.tmp 23)), qq 25 (.bin .add (.tmp 18) (.tmp 24)), qm 2 25] (.some (.br [qm 16 0, qq 17 (.bin .quo (.tmp 16) (ki 10)), qm 19 0, qq 20 (.bin .rem (.tmp 19) (ki 10)), qq 21 (.bin .sub (ki 48) (.tmp 20)), qq 22 (.cvi .u8 (.tmp 21))] (.leaf [qq 18 (.call 100 [(.tmp 17)]), qq 23 (.bsl 5 [(.int .u8 0)] 1 [⟨0, ⟨1, (.tmp 22)⟩⟩]), qq 24 (.b2s (.tmp 23)), qq 25 (.bin .add (.tmp 18) (.tmp 24)), qm 2 25]) (.br [qq 23 (.bsl 5 [(.int .u8 0)] 1 [⟨0, ⟨1, (.tmp 22)⟩⟩])] (.leaf [qq 18 (.call 100 [(.tmp 17)]), qq 24 (.b2s (.tmp 23)), qq 25 (.bin .add (.tmp 18) (.tmp 24)), qm 2 25]) (.leaf [qq 24 (.b2s (.tmp 23)), qq 18 (.call 100 [(.tmp 17)]), qq 25 (.bin .add (.tmp 18) (.tmp 24)), qm 2 25]))))) .ret)) .skip)) (.seq (.reg [qm 26 0, qq 27 (.bin .rem (.tmp 26) (ki 10)), qq 28 (.bin .add (ki 48) (.tmp 27)), qq 29 (.cvi .u8 (.tmp 28)), qq 30 (.bsl 5 [(.int .u8 0)] 1 [⟨0, ⟨1, (.tmp 29)⟩⟩]), qq 31 (.b2s (.tmp 30)), qm 3 31]) (.seq (.seq (.reg [qm 32 0, qq 33 (.bin .lss (.tmp 32) (ki 10))]) (.cond (.tmp 33) (.seq (.reg [qm 34 3, qm 2 34]) .ret) .skip)) (.seq (.reg [qm 35 0, qq 36 (.bin .quo (.tmp 35) (ki 10)), qq 37 (.call 100 [(.tmp 36)]), qm 38 3, qq 39 (.bin .add (.tmp 37) (.tmp 38)), qm 2 39]) .ret)))))
theorem k100 : conv Tryz.prog 40 (Tryz.f100.body.getD .skip) = c100 := by kernel_rfl
theorem in100 {a0 : Value} {w : World} {R : Value → World → Prop} (h : G Tryz.prog Tryz.f100 40 [.c c100] R (frL 0 [a0]) w) : Ret Tryz.prog 100 #[a0] w R := G.enter (args := [a0]) Tryz.func100 (c := Tryz.f100.body.getD .skip) (by kernel_rfl) (by kernel_rfl) (by simp) k100 h
theorem rprint_spec : ∀ (m : Nat) (n : Int) (w : World), n.natAbs < m → i64M n → Pu Tryz.prog 100 #[I n] w (S (Lib.itoa n)) := by
  intro m
  induction m with
  | zero => intro n w h; omega
  | succ m ih =>
    intro n w hm hn
    obtain ⟨n0, n1⟩ := hn
    refine in100 ?_
    have hS := Sep.start w
    by_cases hneg : n < 0
    · have hd := tdiv_neg hneg
      have hr := tmod_neg hneg
      by_cases hs : -10 < n
      · have hq : -((-n) / 10) = 0 := by omega
        have hr2 : -((-n) % 10) = n := by omega
        rw [itoa_s1 hs hneg]
        (have fct := (And.intro @hd (And.intro @hr (And.intro @hq @hr2))); repeat' (first | ((with_reducible apply G.a); exact rfl) | refine G.reg fun K hK => ?_ | (with_reducible (refine hK _ _ ?_); clear hK K) | (with_reducible (refine hK _ ?_); clear hK K; intro wd hxd; have hS := Sep.xx hxd) | ((first | have hk := hK | have hk := hK2); clear hk; simp (disch := first | exact dis | fail) only [push_cast, ↓reduceIte, Nat.reduceAdd, Nat.reduceLeDiff, Nat.reduceEqDiff, Nat.reduceLT, Int.reduceToNat, fct]) | (refine zbsl ?_; intro gb wb hS) | (refine G.drt mixed fun K hK wd hxd => ?_; have hS := Sep.xx hxd) | with_reducible refine OT_leaf ?_ | (with_reducible (refine hK2 _ ?_); clear hK2 K2; intro wd hxd; have hS := Sep.xx hxd) | with_reducible refine OT_br fun K2 hK2 => ?_ | (refine hK2 _ _ ?_ ?_ <;> clear hK2 K2) | refine G.drg mixed fun K hK => ?_ | (refine G.cn ?_ ?_ <;> intro hc <;> first | (with_reducible exact False.elim hc) | (exfalso; omega) | skip))) <;> (try clear fct)
        all_goals
          (first | refine G.r1 ?_ | refine G.r2 ?_ | refine G.r3 ?_ | refine G.r0 ?_ | refine G.d0 ?_); (try simp (disch := first | exact dis | fail) only [push_cast, ↓reduceIte, Nat.reduceAdd, Nat.reduceLeDiff, Nat.reduceEqDiff, Nat.reduceLT, Int.reduceToNat, fct])
          (first | exact Sep.xt (by assumption) | exact ⟨rfl, Sep.xt (by assumption)⟩)
      · have hih := fun w => ih (-((-n) / 10)) w (by omega) ⟨by omega, by omega⟩
        have hlen := Lib.itoa_length_le (-((-n) / 10)) (by omega) (by omega)
        rw [itoa_b1 (show n ≤ -10 by omega)]
        (have fct := (And.intro @hd @hr); repeat' (first | ((with_reducible apply G.a); exact rfl) | refine G.reg fun K hK => ?_ | (with_reducible (refine hK _ _ ?_); clear hK K) | (with_reducible (refine hK _ ?_); clear hK K; intro wd hxd; have hS := Sep.xx hxd) | ((first | have hk := hK | have hk := hK2); clear hk; simp (disch := first | exact dis | fail) only [push_cast, ↓reduceIte, Nat.reduceAdd, Nat.reduceLeDiff, Nat.reduceEqDiff, Nat.reduceLT, Int.reduceToNat, fct]) | (refine zbsl ?_; intro gb wb hS) | (refine zcp 100 (hih _) ?_; intro wb hS) | (refine G.drt mixed fun K hK wd hxd => ?_; have hS := Sep.xx hxd) | with_reducible refine OT_leaf ?_ | (with_reducible (refine hK2 _ ?_); clear hK2 K2; intro wd hxd; have hS := Sep.xx hxd) | with_reducible refine OT_br fun K2 hK2 => ?_ | (refine hK2 _ _ ?_ ?_ <;> clear hK2 K2) | refine G.drg mixed fun K hK => ?_ | (refine G.cn ?_ ?_ <;> intro hc <;> first | (with_reducible exact False.elim hc) | (exfalso; omega) | skip))) <;> (try clear fct)
        all_goals
          (first | refine G.r1 ?_ | refine G.r2 ?_ | refine G.r3 ?_ | refine G.r0 ?_ | refine G.d0 ?_); (try simp (disch := first | exact dis | fail) only [push_cast, ↓reduceIte, Nat.reduceAdd, Nat.reduceLeDiff, Nat.reduceEqDiff, Nat.reduceLT, Int.reduceToNat, fct])
          (first | exact Sep.xt (by assumption) | exact ⟨rfl, Sep.xt (by assumption)⟩)
    · by_cases hs : n < 10
      · rw [itoa_s0 (show 0 ≤ n by omega) hs]
        have hr2 : n % 10 = n := by omega
        (have fct := @hr2; repeat' (first | ((with_reducible apply G.a); exact rfl) | refine G.reg fun K hK => ?_ | (with_reducible (refine hK _ _ ?_); clear hK K) | (with_reducible (refine hK _ ?_); clear hK K; intro wd hxd; have hS := Sep.xx hxd) | ((first | have hk := hK | have hk := hK2); clear hk; simp (disch := first | exact dis | fail) only [push_cast, ↓reduceIte, Nat.reduceAdd, Nat.reduceLeDiff, Nat.reduceEqDiff, Nat.reduceLT, Int.reduceToNat, fct]) | (refine zbsl ?_; intro gb wb hS) | (refine G.drt mixed fun K hK wd hxd => ?_; have hS := Sep.xx hxd) | with_reducible refine OT_leaf ?_ | (with_reducible (refine hK2 _ ?_); clear hK2 K2; intro wd hxd; have hS := Sep.xx hxd) | with_reducible refine OT_br fun K2 hK2 => ?_ | (refine hK2 _ _ ?_ ?_ <;> clear hK2 K2) | refine G.drg mixed fun K hK => ?_ | (refine G.cn ?_ ?_ <;> intro hc <;> first | (with_reducible exact False.elim hc) | (exfalso; omega) | skip))) <;> (try clear fct)
        all_goals
          (first | refine G.r1 ?_ | refine G.r2 ?_ | refine G.r3 ?_ | refine G.r0 ?_ | refine G.d0 ?_); (try simp (disch := first | exact dis | fail) only [push_cast, ↓reduceIte, Nat.reduceAdd, Nat.reduceLeDiff, Nat.reduceEqDiff, Nat.reduceLT, Int.reduceToNat, fct])
          (first | exact Sep.xt (by assumption) | exact ⟨rfl, Sep.xt (by assumption)⟩)
      · have hih := fun w => ih (n / 10) w (by omega) ⟨by omega, by omega⟩
        have hlen := Lib.itoa_length_le (n / 10) (by omega) (by omega)
        rw [itoa_b0 (show 10 ≤ n by omega)]
        repeat' (first | ((with_reducible apply G.a); exact rfl) | refine G.reg fun K hK => ?_ | (with_reducible (refine hK _ _ ?_); clear hK K) | (with_reducible (refine hK _ ?_); clear hK K; intro wd hxd; have hS := Sep.xx hxd) | ((first | have hk := hK | have hk := hK2); clear hk; simp (disch := first | exact dis | fail) only [push_cast, ↓reduceIte, Nat.reduceAdd, Nat.reduceLeDiff, Nat.reduceEqDiff, Nat.reduceLT, Int.reduceToNat, fct]) | (refine zbsl ?_; intro gb wb hS) | (refine zcp 100 (hih _) ?_; intro wb hS) | (refine G.drt mixed fun K hK wd hxd => ?_; have hS := Sep.xx hxd) | with_reducible refine OT_leaf ?_ | (with_reducible (refine hK2 _ ?_); clear hK2 K2; intro wd hxd; have hS := Sep.xx hxd) | with_reducible refine OT_br fun K2 hK2 => ?_ | (refine hK2 _ _ ?_ ?_ <;> clear hK2 K2) | refine G.drg mixed fun K hK => ?_ | (refine G.cn ?_ ?_ <;> intro hc <;> first | (with_reducible exact False.elim hc) | (exfalso; omega) | skip))
        all_goals
          (first | refine G.r1 ?_ | refine G.r2 ?_ | refine G.r3 ?_ | refine G.r0 ?_ | refine G.d0 ?_); (try simp (disch := first | exact dis | fail) only [push_cast, ↓reduceIte, Nat.reduceAdd, Nat.reduceLeDiff, Nat.reduceEqDiff, Nat.reduceLT, Int.reduceToNat, fct])
          (first | exact Sep.xt (by assumption) | exact ⟨rfl, Sep.xt (by assumption)⟩)
end Go.Proofs.YtdikpaochhacmaaGreatDoor
