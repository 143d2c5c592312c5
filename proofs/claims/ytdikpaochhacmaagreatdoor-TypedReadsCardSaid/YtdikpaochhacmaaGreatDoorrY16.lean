/- Texts of the proof, joined. -/
import Derived.Test.YtdikpaochhacmaaGreatDoorrX16
namespace Go.Proofs.YtdikpaochhacmaaGreatDoor
set_option linter.unusedSimpArgs false
set_option linter.unusedVariables false
attribute [local irreducible] SemK UnitK StK AlcK BslK CallK CallV Instr.box Builtin.append_ Instr.makeSlice Instr.makeMap Instr.lookup Instr.mapUpdate Instr.sliceAt convert
open Go.RowKit
theorem form_nn {s : Str} (h : formM s = true) : 1 ≤ s.length := by
  cases s with
  | nil => simp [formM, trM, negM, bodM] at h
  | cons _ _ => simp
theorem neg_at {s : Str} (h : 1 ≤ s.length) : (((s.getD 0 0).toNat : Int) == 45) = negM s := by
  cases s with
  | nil => simp at h
  | cons c r =>
    rw [Bool.eq_iff_iff]
    simp only [negM, List.take_succ_cons, List.take_zero, decide_eq_true_eq, List.cons.injEq, and_true, beq_iff_eq, List.getD_cons_zero]
    exact ⟨fun h => u8eq16 (c := 45) (n := 45) rfl h, fun h => by rw [h]; rfl⟩
theorem bl_at {t u : Str} (k : Nat) (h1 : (k : Int) < t.length) (h2 : (k : Int) < u.length) : Op.bytesLess (t.drop k) (u.drop k) = (decide (((t.getD k 0).toNat : Int) < (u.getD k 0).toNat) || (decide (((t.getD k 0).toNat : Int) = (u.getD k 0).toNat) && Op.bytesLess (t.drop (k + 1)) (u.drop (k + 1)))) := by
  rw [dropB16 t k h1, dropB16 u k h2, bl_cons]
  generalize t.getD k 0 = a
  generalize u.getD k 0 = b
  have e1 : (a < b) ↔ (a.toNat : Int) < b.toNat := by
    have : (a < b) ↔ a.toNat < b.toNat := Iff.rfl
    rw [this]; omega
  have e2 : (a = b) ↔ (a.toNat : Int) = b.toNat := by
    rw [← UInt8.toNat_inj]; omega
  rw [Bool.eq_iff_iff]
  simp only [Bool.or_eq_true, Bool.and_eq_true, decide_eq_true_eq, beq_iff_eq, e1, e2]
theorem cmpL_eq {t u : Str} (h : (t.length : Int) = u.length) : cmpL t u = Op.bytesLess t u := by unfold cmpL; rw [if_neg (by omega)]
theorem cmpL_ne {t u : Str} (h : ¬ (t.length : Int) = u.length) : cmpL t u = decide ((t.length : Int) < u.length) := by
  unfold cmpL; rw [if_pos (by omega), Bool.eq_iff_iff]; simp only [decide_eq_true_eq]; omega
def c103l1 : MC := (.seq (.seq (.reg [qm 47 7, qm 48 0, qq 49 (.lenS (.tmp 48)), qq 50 (.bin .lss (.tmp 47) (.tmp 49))]) (.cond (.tmp 50) .skip (.exit 0))) (.seq (.blk 1 (.seq (.drg [qm 53 0, qm 54 7, qq 55 (.idxS (.tmp 53) (.tmp 54)), qm 56 1, qm 57 7, qq 58 (.idxS (.tmp 56) (.tmp 57)), qq 59 (.bin .neq (.tmp 55) (.tmp 58))] none) (.cond (.tmp 59) (.seq (.drg [qm 60 0, qm 61 7, qq 62 (.idxS (.tmp 60) (.tmp 61)), qm 63 1, qm 64 7, qq 65 (.idxS (.tmp 63) (.tmp 64)), qq 66 (.bin .lss (.tmp 62) (.tmp 65)), qm 4 66] none) .ret) .skip))) (.reg [qm 51 7, qq 52 (.bin .add (.tmp 51) (ki 1)), qm 7 52])))
def c103 : MC := (.seq (.reg [qq 4 (.mv (kb false))]) (.seq (.seq (.reg [qm 8 0, qq 9 (.call 102 [(.tmp 8)]), qq 10 (.un .not (.tmp 9)), qm 11 10, qmf 11 12 1, qf 11 13 (.call 102 [(.tmp 12)]), qf 11 14 (.un .not (.tmp 13)), qq 15 (.pick (.tmp 11) (kb true) (.tmp 14))]) (.cond (.tmp 15) (.seq (.reg [qq 4 (.mv (kb false))]) .ret) .skip)) (.seq (.drg [qm 16 0, qq 17 (.idxS (.tmp 16) (ki 0)), qq 18 (.bin .eql (.tmp 17) (.const (.int .u8 45))), qm 19 1, qq 20 (.idxS (.tmp 19) (ki 0)), qq 21 (.bin .eql (.tmp 20) (.const (.int .u8 45))), qm 5 18, qm 6 21] none) (.seq (.seq (.reg [qm 22 5, qm 23 22, qmt 23 24 6, qt 23 25 (.un .not (.tmp 24)), qq 26 (.pick (.tmp 23) (.tmp 25) (kb false))]) (.cond (.tmp 26) (.seq (.reg [qq 4 (.mv (kb true))]) .ret) .skip)) (.seq (.seq (.reg [qm 27 6, qm 28 27, qmt 28 29 5, qt 28 30 (.un .not (.tmp 29)), qq 31 (.pick (.tmp 28) (.tmp 30) (kb false))]) (.cond (.tmp 31) (.seq (.reg [qq 4 (.mv (kb false))]) .ret) .skip)) (.seq (.seq (.reg [qm 32 5]) (.cond (.tmp 32) (.drg [qm 33 1, qq 34 (.slS (.tmp 33) (.some (ki 1)) none), qm 35 0, qq 36 (.slS (.tmp 35) (.some (ki 1)) none), qm 0 34, qm 1 36] none) .skip)) (.seq (.seq (.reg [qm 37 0, qq 38 (.lenS (.tmp 37)), qm 39 1, qq 40 (.lenS (.tmp 39)), qq 41 (.bin .neq (.tmp 38) (.tmp 40))]) (.cond (.tmp 41) (.seq (.reg [qm 42 0, qq 43 (.lenS (.tmp 42)), qm 44 1, qq 45 (.lenS (.tmp 44)), qq 46 (.bin .lss (.tmp 43) (.tmp 45)), qm 4 46]) .ret) .skip)) (.seq (.seq (.reg [qq 7 (.mv (ki 0))]) (.blk 0 (.loop c103l1))) (.seq (.reg [qq 4 (.mv (kb false))]) .ret)))))))))
theorem k103 : conv Tryz.prog 67 (Tryz.f103.body.getD .skip) = c103 := by kernel_rfl
theorem in103 {a0 a1 : Value} {w : World} {R : Value → World → Prop} (h : G Tryz.prog Tryz.f103 67 [.c c103] R (frL 0 [a0, a1]) w) : Ret Tryz.prog 103 #[a0, a1] w R := G.enter (args := [a0, a1]) Tryz.func103 (c := Tryz.f103.body.getD .skip) (by kernel_rfl) (by kernel_rfl) (by simp) k103 h
theorem rless_loop (t v : Str) {w wl : World} {ρ : Fr} (hl : t.length ≤ 1000000) (hlen : (t.length : Int) = v.length) (hS : Sep w wl []) (q7 : ρ 7 = I 0) (q0 : ρ 0 = S t) (q1 : ρ 1 = S v) :
    G Tryz.prog Tryz.f103 67 [.c (.loop c103l1), .b 0, .c (.seq (.reg [qq 4 (.mv (kb false))]) .ret)] (fun x w' => x = .bool (Op.bytesLess t v) ∧ Ext w w') ρ wl := by
  refine G.loop (fun r w' => ∃ k : Nat, k ≤ t.length ∧ r 7 = I k ∧ r 0 = S t ∧ r 1 = S v ∧ Op.bytesLess t v = Op.bytesLess (t.drop k) (v.drop k) ∧ Sep w w' []) (fun r _ => t.length - toN (r 7)) ?_ ?_
  · refine ⟨0, by omega, q7, q0, q1, rfl, hS⟩
  · clear hS
    rintro u wl ⟨k, hk, h7, h0, h1, e, hS⟩ ih
    by_cases hlt : (k : Int) < t.length
    · have hlt2 : (k : Int) < v.length := by omega
      rw [bl_at k hlt hlt2] at e
      (have fct := (And.intro @h7 (And.intro @h0 @h1)); repeat' (first | ((with_reducible apply G.a); exact rfl) | refine G.reg fun K hK => ?_ | (with_reducible (refine hK _ _ ?_); clear hK K) | (with_reducible (refine hK _ ?_); clear hK K; intro wd hxd; have hS := Sep.xx hxd) | (have hk := hK; clear hk; simp (disch := first | exact dis | fail) only [push_cast, ↓reduceIte, Nat.reduceAdd, Nat.reduceLeDiff, Nat.reduceEqDiff, Nat.reduceLT, Int.reduceToNat, fct]) | ((first | refine brO_n ?_ ?_ | refine brQ_n ?_ ?_) <;> intro hb hc <;> first | (with_reducible exact False.elim hc) | (exfalso; omega) | (simp only [hb]; clear hb)) | (refine G.drt mixed fun K hK wd hxd => ?_; have hS := Sep.xx hxd) | refine G.drg mixed fun K hK => ?_ | (refine G.cn ?_ ?_ <;> intro hc <;> first | (with_reducible exact False.elim hc) | (exfalso; omega) | skip))) <;> (try clear fct)
      · (have fct := (And.intro @h7 (And.intro @h0 @h1)); (first | refine G.r1 ?_ | refine G.r2 ?_ | refine G.r3 ?_ | refine G.r0 ?_ | refine G.d0 ?_); (try simp (disch := first | exact dis | fail) only [push_cast, ↓reduceIte, Nat.reduceAdd, Nat.reduceLeDiff, Nat.reduceEqDiff, Nat.reduceLT, Int.reduceToNat, fct]); (try clear fct))
        rw [e, decide_eq_false hc, Bool.false_and, Bool.or_false]
        (first | exact Sep.xt (by assumption) | exact ⟨rfl, Sep.xt (by assumption)⟩)
      · rw [decide_eq_false (show ¬ ((t.getD k 0).toNat : Int) < (v.getD k 0).toNat by omega), decide_eq_true hc, Bool.false_or, Bool.true_and] at e
        (refine ih _ _ ⟨k + 1, ?_⟩ ?_; rotate_left; (focus ((simp only [push_cast, ↓reduceIte, Nat.reduceAdd, Nat.reduceLeDiff, Nat.reduceEqDiff, Nat.reduceLT, Int.reduceToNat, toN_i, h7, h0, h1] <;> omega))); ((repeat' apply And.intro) <;> first | exact dj | (simp only [push_cast, ↓reduceIte, Nat.reduceAdd, Nat.reduceLeDiff, Nat.reduceEqDiff, Nat.reduceLT, Int.reduceToNat, h7, h0, h1] <;> omega) | skip))
    · (have fct := (And.intro @h7 (And.intro @h0 @h1)); repeat' (first | ((with_reducible apply G.a); exact rfl) | refine G.reg fun K hK => ?_ | (with_reducible (refine hK _ _ ?_); clear hK K) | (with_reducible (refine hK _ ?_); clear hK K; intro wd hxd; have hS := Sep.xx hxd) | (have hk := hK; clear hk; simp (disch := first | exact dis | fail) only [push_cast, ↓reduceIte, Nat.reduceAdd, Nat.reduceLeDiff, Nat.reduceEqDiff, Nat.reduceLT, Int.reduceToNat, fct]) | ((first | refine brO_n ?_ ?_ | refine brQ_n ?_ ?_) <;> intro hb hc <;> first | (with_reducible exact False.elim hc) | (exfalso; omega) | (simp only [hb]; clear hb)) | (refine G.drt mixed fun K hK wd hxd => ?_; have hS := Sep.xx hxd) | refine G.drg mixed fun K hK => ?_ | (refine G.cn ?_ ?_ <;> intro hc <;> first | (with_reducible exact False.elim hc) | (exfalso; omega) | skip))) <;> (try clear fct)
      (have fct := (And.intro @h7 (And.intro @h0 @h1)); (first | refine G.r1 ?_ | refine G.r2 ?_ | refine G.r3 ?_ | refine G.r0 ?_ | refine G.d0 ?_); (try simp (disch := first | exact dis | fail) only [push_cast, ↓reduceIte, Nat.reduceAdd, Nat.reduceLeDiff, Nat.reduceEqDiff, Nat.reduceLT, Int.reduceToNat, fct]); (try clear fct))
      rw [e, List.drop_eq_nil_of_le (by omega), List.drop_eq_nil_of_le (by omega)]
      exact ⟨rfl, Sep.xt (by assumption)⟩
theorem rless_spec (a b : Str) (w : World) (ha : a.length ≤ 1000000) (hb : b.length ≤ 1000000) : Pu Tryz.prog 103 #[S a, S b] w (.bool (lessM a b)) := by
  refine in103 ?_
  have hS := Sep.start w
  by_cases hf : formM a = true ∧ formM b = true
  · obtain ⟨fa, fb⟩ := hf
    have na := form_nn fa
    have nb := form_nn fb
    have ga := neg_at na
    have gb0 := neg_at nb
    have hl0 : lessM a b = if negM a ≠ negM b then negM a else if negM a = true then cmpL (trM b) (trM a) else cmpL (trM a) (trM b) := by unfold lessM; rw [if_neg (not_not_intro ⟨fa, fb⟩)]
    cases h1 : negM a <;> cases h2 : negM b <;> rw [h1] at ga hl0 <;> rw [h2] at gb0 hl0
    · have hl1 : lessM a b = cmpL a b := by rw [hl0, tr_pos h1, tr_pos h2]; simp
      clear hl0
      rw [hl1]
      (have fct := (And.intro @fa (And.intro @fb (And.intro @ga @gb0))); repeat' (first | ((with_reducible apply G.a); exact rfl) | refine G.reg fun K hK => ?_ | (with_reducible (refine hK _ _ ?_); clear hK K) | (with_reducible (refine hK _ ?_); clear hK K; intro wd hxd; have hS := Sep.xx hxd) | (have hk := hK; clear hk; simp (disch := first | exact dis | fail) only [push_cast, ↓reduceIte, Nat.reduceAdd, Nat.reduceLeDiff, Nat.reduceEqDiff, Nat.reduceLT, Int.reduceToNat, fct]) | ((first | refine brO_n ?_ ?_ | refine brQ_n ?_ ?_) <;> intro hb hc <;> first | (with_reducible exact False.elim hc) | (exfalso; omega) | (simp only [hb]; clear hb)) | ((with_reducible (show CallK _ 102 [S a] _ _ _ _)); refine zcp 102 (rform_spec a _ ha) ?_; intro wb hS) | ((with_reducible (show CallK _ 102 [S b] _ _ _ _)); refine zcp 102 (rform_spec b _ hb) ?_; intro wb hS) | (refine G.drt mixed fun K hK wd hxd => ?_; have hS := Sep.xx hxd) | refine G.drg mixed fun K hK => ?_ | (refine G.cn ?_ ?_ <;> intro hc <;> first | (with_reducible exact False.elim hc) | (exfalso; omega) | skip))) <;> (try clear fct)
      · (first | refine G.r1 ?_ | refine G.r2 ?_ | refine G.r3 ?_ | refine G.r0 ?_ | refine G.d0 ?_); (try simp (disch := first | exact dis | fail) only [push_cast, ↓reduceIte, Nat.reduceAdd, Nat.reduceLeDiff, Nat.reduceEqDiff, Nat.reduceLT, Int.reduceToNat, fct])
        rw [cmpL_ne hc]
        (first | exact Sep.xt (by assumption) | exact ⟨rfl, Sep.xt (by assumption)⟩)
      · rw [cmpL_eq hc]
        exact rless_loop a b ha hc hS rfl rfl rfl
    · have hl1 : lessM a b = false := by rw [hl0]; simp
      (have fct := (And.intro @fa (And.intro @fb (And.intro @ga @gb0))); repeat' (first | ((with_reducible apply G.a); exact rfl) | refine G.reg fun K hK => ?_ | (with_reducible (refine hK _ _ ?_); clear hK K) | (with_reducible (refine hK _ ?_); clear hK K; intro wd hxd; have hS := Sep.xx hxd) | (have hk := hK; clear hk; simp (disch := first | exact dis | fail) only [push_cast, ↓reduceIte, Nat.reduceAdd, Nat.reduceLeDiff, Nat.reduceEqDiff, Nat.reduceLT, Int.reduceToNat, fct]) | ((first | refine brO_n ?_ ?_ | refine brQ_n ?_ ?_) <;> intro hb hc <;> first | (with_reducible exact False.elim hc) | (exfalso; omega) | (simp only [hb]; clear hb)) | ((with_reducible (show CallK _ 102 [S a] _ _ _ _)); refine zcp 102 (rform_spec a _ ha) ?_; intro wb hS) | ((with_reducible (show CallK _ 102 [S b] _ _ _ _)); refine zcp 102 (rform_spec b _ hb) ?_; intro wb hS) | (refine G.drt mixed fun K hK wd hxd => ?_; have hS := Sep.xx hxd) | refine G.drg mixed fun K hK => ?_ | (refine G.cn ?_ ?_ <;> intro hc <;> first | (with_reducible exact False.elim hc) | (exfalso; omega) | skip))) <;> (try clear fct)
      (first | refine G.r1 ?_ | refine G.r2 ?_ | refine G.r3 ?_ | refine G.r0 ?_ | refine G.d0 ?_); (try simp (disch := first | exact dis | fail) only [push_cast, ↓reduceIte, Nat.reduceAdd, Nat.reduceLeDiff, Nat.reduceEqDiff, Nat.reduceLT, Int.reduceToNat, fct])
      rw [hl1]
      (first | exact Sep.xt (by assumption) | exact ⟨rfl, Sep.xt (by assumption)⟩)
    · have hl1 : lessM a b = true := by rw [hl0]; simp
      (have fct := (And.intro @fa (And.intro @fb (And.intro @ga @gb0))); repeat' (first | ((with_reducible apply G.a); exact rfl) | refine G.reg fun K hK => ?_ | (with_reducible (refine hK _ _ ?_); clear hK K) | (with_reducible (refine hK _ ?_); clear hK K; intro wd hxd; have hS := Sep.xx hxd) | (have hk := hK; clear hk; simp (disch := first | exact dis | fail) only [push_cast, ↓reduceIte, Nat.reduceAdd, Nat.reduceLeDiff, Nat.reduceEqDiff, Nat.reduceLT, Int.reduceToNat, fct]) | ((first | refine brO_n ?_ ?_ | refine brQ_n ?_ ?_) <;> intro hb hc <;> first | (with_reducible exact False.elim hc) | (exfalso; omega) | (simp only [hb]; clear hb)) | ((with_reducible (show CallK _ 102 [S a] _ _ _ _)); refine zcp 102 (rform_spec a _ ha) ?_; intro wb hS) | ((with_reducible (show CallK _ 102 [S b] _ _ _ _)); refine zcp 102 (rform_spec b _ hb) ?_; intro wb hS) | (refine G.drt mixed fun K hK wd hxd => ?_; have hS := Sep.xx hxd) | refine G.drg mixed fun K hK => ?_ | (refine G.cn ?_ ?_ <;> intro hc <;> first | (with_reducible exact False.elim hc) | (exfalso; omega) | skip))) <;> (try clear fct)
      (first | refine G.r1 ?_ | refine G.r2 ?_ | refine G.r3 ?_ | refine G.r0 ?_ | refine G.d0 ?_); (try simp (disch := first | exact dis | fail) only [push_cast, ↓reduceIte, Nat.reduceAdd, Nat.reduceLeDiff, Nat.reduceEqDiff, Nat.reduceLT, Int.reduceToNat, fct])
      rw [hl1]
      (first | exact Sep.xt (by assumption) | exact ⟨rfl, Sep.xt (by assumption)⟩)
    · have hl1 : lessM a b = cmpL (b.drop 1) (a.drop 1) := by rw [hl0]; simp [trM, h1, h2]
      rw [hl1]
      (have fct := (And.intro @fa (And.intro @fb (And.intro @ga @gb0))); repeat' (first | ((with_reducible apply G.a); exact rfl) | refine G.reg fun K hK => ?_ | (with_reducible (refine hK _ _ ?_); clear hK K) | (with_reducible (refine hK _ ?_); clear hK K; intro wd hxd; have hS := Sep.xx hxd) | (have hk := hK; clear hk; simp (disch := first | exact dis | fail) only [push_cast, ↓reduceIte, Nat.reduceAdd, Nat.reduceLeDiff, Nat.reduceEqDiff, Nat.reduceLT, Int.reduceToNat, fct]) | ((first | refine brO_n ?_ ?_ | refine brQ_n ?_ ?_) <;> intro hb hc <;> first | (with_reducible exact False.elim hc) | (exfalso; omega) | (simp only [hb]; clear hb)) | ((with_reducible (show CallK _ 102 [S a] _ _ _ _)); refine zcp 102 (rform_spec a _ ha) ?_; intro wb hS) | ((with_reducible (show CallK _ 102 [S b] _ _ _ _)); refine zcp 102 (rform_spec b _ hb) ?_; intro wb hS) | (refine G.drt mixed fun K hK wd hxd => ?_; have hS := Sep.xx hxd) | refine G.drg mixed fun K hK => ?_ | (refine G.cn ?_ ?_ <;> intro hc <;> first | (with_reducible exact False.elim hc) | (exfalso; omega) | skip))) <;> (try clear fct)
      · (first | refine G.r1 ?_ | refine G.r2 ?_ | refine G.r3 ?_ | refine G.r0 ?_ | refine G.d0 ?_); (try simp (disch := first | exact dis | fail) only [push_cast, ↓reduceIte, Nat.reduceAdd, Nat.reduceLeDiff, Nat.reduceEqDiff, Nat.reduceLT, Int.reduceToNat, fct])
        rw [cmpL_ne hc]
        (first | exact Sep.xt (by assumption) | exact ⟨rfl, Sep.xt (by assumption)⟩)
      · rw [cmpL_eq hc]
        exact rless_loop (b.drop 1) (a.drop 1) (by simp; omega) hc hS rfl rfl rfl
  · have hl1 : lessM a b = false := by unfold lessM; rw [if_pos hf]
    rw [hl1]
    repeat' (first | ((with_reducible apply G.a); exact rfl) | refine G.reg fun K hK => ?_ | (with_reducible (refine hK _ _ ?_); clear hK K) | (with_reducible (refine hK _ ?_); clear hK K; intro wd hxd; have hS := Sep.xx hxd) | (have hk := hK; clear hk; simp (disch := first | exact dis | fail) only [push_cast, ↓reduceIte, Nat.reduceAdd, Nat.reduceLeDiff, Nat.reduceEqDiff, Nat.reduceLT, Int.reduceToNat, fct]) | ((first | refine brO_n ?_ ?_ | refine brQ_n ?_ ?_) <;> intro hb hc <;> first | (with_reducible exact False.elim hc) | (exfalso; omega) | (simp only [hb]; clear hb)) | ((with_reducible (show CallK _ 102 [S a] _ _ _ _)); refine zcp 102 (rform_spec a _ ha) ?_; intro wb hS) | ((with_reducible (show CallK _ 102 [S b] _ _ _ _)); refine zcp 102 (rform_spec b _ hb) ?_; intro wb hS) | (refine G.drt mixed fun K hK wd hxd => ?_; have hS := Sep.xx hxd) | refine G.drg mixed fun K hK => ?_ | (refine G.cn ?_ ?_ <;> intro hc <;> first | (with_reducible exact False.elim hc) | (exfalso; omega) | skip))
    all_goals first
      | (exfalso; exact hf ⟨by assumption, by assumption⟩)
      | ((first | refine G.r1 ?_ | refine G.r2 ?_ | refine G.r3 ?_ | refine G.r0 ?_ | refine G.d0 ?_); (try simp (disch := first | exact dis | fail) only [push_cast, ↓reduceIte, Nat.reduceAdd, Nat.reduceLeDiff, Nat.reduceEqDiff, Nat.reduceLT, Int.reduceToNat, fct]); exact Sep.xt (by assumption))
end Go.Proofs.YtdikpaochhacmaaGreatDoor
