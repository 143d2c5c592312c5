/- Texts of the proof, joined. -/
import Derived.Test.YtcglgnbeliljoaawP15
import Derived.Test.YtcglgnbeliljoaawR02
import Derived.Test.YtcglgnbeliljoaawW02
namespace Go.Proofs.Ytcglgnbeliljoaa
set_option linter.unusedSimpArgs false
set_option linter.unusedVariables false
attribute [local irreducible] SemK UnitK StK AlcK BslK CallK CallV Instr.box Builtin.append_ Instr.makeSlice Instr.makeMap Instr.lookup Instr.mapUpdate Instr.sliceAt convert
open Go.RowKit
end Go.Proofs.Ytcglgnbeliljoaa
namespace Go.Proofs.Ytcglgnbeliljoaa
set_option linter.unusedSimpArgs false
set_option linter.unusedVariables false
attribute [local irreducible] SemK UnitK StK AlcK BslK CallK CallV Instr.box Builtin.append_ Instr.makeSlice Instr.makeMap Instr.lookup Instr.mapUpdate Instr.sliceAt convert
open Go.RowKit
theorem same_step {α : Type} [Inhabited α] (a b : List α) (k : Nat) (hl : a.length = b.length) (hk : (k : Int) < a.length) (h : a.take k = b.take k) (he : a.getD k default = b.getD k default) : a.take (k + 1) = b.take (k + 1) := by
  rw [takeD a k hk, takeD b k (by omega), h, he]
theorem same_no {α : Type} [Inhabited α] (a b : List α) (k : Nat) (he : ¬ a.getD k default = b.getD k default) : a ≠ b := fun h => he (by rw [h])
def c11l1 : MC := (.seq (.reg [qq 14 (.bin .lss (.tmp 13) (.tmp 12))]) (.seq (.cond (.tmp 14) .skip (.exit 0)) (.seq (.blk 1 (.seq (.reg [qm 15 13, qm 5 15]) (.seq (.drg [qm 16 0, qm 17 5, qq 18 (.adr 1 (.tmp 16) (.tmp 17)), qq 19 (.ld none (.tmp 18)), qm 20 1, qm 21 5, qq 22 (.adr 1 (.tmp 20) (.tmp 21)), qq 23 (.ld none (.tmp 22)), qq 24 (.bin .neq (.tmp 19) (.tmp 23))] none) (.cond (.tmp 24) (.seq (.reg [qq 4 (.mv (kb false))]) .ret) .skip)))) (.reg [qq 25 (.bin .add (.tmp 13) (ki 1)), qm 13 25]))))
def c11 : MC := (.seq (.reg [qq 4 (.mv (kb false))]) (.seq (.seq (.reg [qm 6 0, qq 7 (.len (.tmp 6)), qm 8 1, qq 9 (.len (.tmp 8)), qq 10 (.bin .neq (.tmp 7) (.tmp 9))]) (.cond (.tmp 10) (.seq (.reg [qq 4 (.mv (kb false))]) .ret) .skip)) (.seq (.seq (.reg [qm 11 0, qq 12 (.len (.tmp 11)), qq 13 (.mv (ki 0))]) (.blk 0 (.loop c11l1))) (.seq (.reg [qq 4 (.mv (kb true))]) .ret))))
theorem k11 : conv Try.prog 26 (Try.f11.body.getD .skip) = c11 := by kernel_rfl
theorem in11 {a0 a1 : Value} {w : World} {R : Value → World → Prop} (h : G Try.prog Try.f11 26 [.c c11] R (frL 0 [a0, a1]) w) : Ret Try.prog 11 #[a0, a1] w R := G.enter (args := [a0, a1]) Try.func11 (c := Try.f11.body.getD .skip) (by kernel_rfl) (by kernel_rfl) (by simp) k11 h
theorem same05_spec {va vb : Value} {a b : List Str} {w : World} (ha : Rd w eS va a) (hb : Rd w eS vb b) : Pu Try.prog 11 #[va, vb] w (.bool (decide (a = b))) := by
  refine in11 ?_
  have hS := Sep.start w
  have hbd := ha.bd
  repeat' (first | ((with_reducible apply G.a); exact rfl) | refine G.reg fun K hK => ?_ | (with_reducible (refine hK _ _ ?_); clear hK K) | (with_reducible (refine hK _ ?_); clear hK K; intro wd hxd; have hS := Sep.xx hxd) | (have hk := hK; clear hk; simp (disch := first | exact dis | fail) only [push_cast, ↓reduceIte, Nat.reduceAdd, Nat.reduceLeDiff, Nat.reduceEqDiff, Nat.reduceLT, Int.reduceToNat, fct]) | refine G.drg mixed fun K hK => ?_ | (refine G.cn ?_ ?_ <;> intro hc <;> first | (with_reducible exact False.elim hc) | (exfalso; omega) | skip))
  · (first | refine G.r1 ?_ | refine G.r2 ?_ | refine G.r3 ?_ | refine G.r0 ?_ | refine G.d0 ?_); (try simp (disch := first | exact dis | fail) only [push_cast, ↓reduceIte, Nat.reduceAdd, Nat.reduceLeDiff, Nat.reduceEqDiff, Nat.reduceLT, Int.reduceToNat, fct])
    (refine ⟨?_, Sep.xt (by assumption)⟩)
    rw [decide_eq_false (fun h => hc (by rw [h]))]
  · refine G.loop (fun r w' => ∃ k : Nat, k ≤ a.length ∧ r 13 = I k ∧ r 12 = I a.length ∧ r 0 = va ∧ r 1 = vb ∧ a.take k = b.take k ∧ Sep w w' []) (fun r _ => a.length - toN (r 13)) ?_ ?_
    · refine ⟨0, ?_⟩
      ((repeat' apply And.intro) <;> first | exact dj | (simp only [push_cast, ↓reduceIte, Nat.reduceAdd, Nat.reduceLeDiff, Nat.reduceEqDiff, Nat.reduceLT, Int.reduceToNat] <;> omega) | skip)
    · rintro u wl ⟨k, hk, h13, h12, h0, h1, e, hS⟩ ih
      (have fct := (And.intro @h13 (And.intro @h12 (And.intro @h0 @h1))); repeat' (first | ((with_reducible apply G.a); exact rfl) | refine G.reg fun K hK => ?_ | (with_reducible (refine hK _ _ ?_); clear hK K) | (with_reducible (refine hK _ ?_); clear hK K; intro wd hxd; have hS := Sep.xx hxd) | (have hk := hK; clear hk; simp (disch := first | exact dis | fail) only [push_cast, ↓reduceIte, Nat.reduceAdd, Nat.reduceLeDiff, Nat.reduceEqDiff, Nat.reduceLT, Int.reduceToNat, fct]) | refine G.drg mixed fun K hK => ?_ | (refine G.cn ?_ ?_ <;> intro hc <;> first | (with_reducible exact False.elim hc) | (exfalso; omega) | skip))) <;> (try clear fct)
      · (have fct := (And.intro @h13 (And.intro @h12 (And.intro @h0 @h1))); (first | refine G.r1 ?_ | refine G.r2 ?_ | refine G.r3 ?_ | refine G.r0 ?_ | refine G.d0 ?_); (try simp (disch := first | exact dis | fail) only [push_cast, ↓reduceIte, Nat.reduceAdd, Nat.reduceLeDiff, Nat.reduceEqDiff, Nat.reduceLT, Int.reduceToNat, fct]); (try clear fct))
        (refine ⟨?_, Sep.xt (by assumption)⟩)
        rw [decide_eq_false (same_no a b k hc)]
      · (refine ih _ _ ⟨k + 1, ?_⟩ ?_; rotate_left; (focus ((simp only [push_cast, ↓reduceIte, Nat.reduceAdd, Nat.reduceLeDiff, Nat.reduceEqDiff, Nat.reduceLT, Int.reduceToNat, toN_i, h13, h12, h0, h1] <;> omega))); ((repeat' apply And.intro) <;> first | exact dj | (simp only [push_cast, ↓reduceIte, Nat.reduceAdd, Nat.reduceLeDiff, Nat.reduceEqDiff, Nat.reduceLT, Int.reduceToNat, h13, h12, h0, h1] <;> omega) | skip))
        exact same_step a b k (by omega) (by assumption) e hc
      · (have fct := (And.intro @h13 (And.intro @h12 (And.intro @h0 @h1))); (first | refine G.r1 ?_ | refine G.r2 ?_ | refine G.r3 ?_ | refine G.r0 ?_ | refine G.d0 ?_); (try simp (disch := first | exact dis | fail) only [push_cast, ↓reduceIte, Nat.reduceAdd, Nat.reduceLeDiff, Nat.reduceEqDiff, Nat.reduceLT, Int.reduceToNat, fct]); (try clear fct))
        (refine ⟨?_, Sep.xt (by assumption)⟩)
        rw [List.take_of_length_le (by omega), List.take_of_length_le (by omega)] at e
        rw [decide_eq_true e]
end Go.Proofs.Ytcglgnbeliljoaa
namespace Go.Proofs.Ytcglgnbeliljoaa
set_option linter.unusedSimpArgs false
set_option linter.unusedVariables false
attribute [local irreducible] SemK UnitK StK AlcK BslK CallK CallV Instr.box Builtin.append_ Instr.makeSlice Instr.makeMap Instr.lookup Instr.mapUpdate Instr.sliceAt convert
open Go.RowKit
section
variable {v : Value} {w : World} {sz : List Int} {s : Str}
def c21 : MC := (.seq (.reg [qq 2 (.mv (kb false))]) (.seq (.reg [qm 3 0, qq 4 (.bin .gtr (.tmp 3) (ki 0)), qm 2 4]) .ret))
theorem k21 : conv Try.prog 5 (Try.f21.body.getD .skip) = c21 := by kernel_rfl
theorem in21 {a0 : Value} {w : World} {R : Value → World → Prop} (h : G Try.prog Try.f21 5 [.c c21] R (frL 0 [a0]) w) : Ret Try.prog 21 #[a0] w R := G.enter (args := [a0]) Try.func21 (c := Try.f21.body.getD .skip) (by kernel_rfl) (by kernel_rfl) (by simp) k21 h
theorem by1_spec (n : Int) (w : World) : Pu Try.prog 21 #[I n] w (.bool (decide (0 < n))) := by
  refine in21 ?_
  have hS := Sep.start w
  repeat' (first | ((with_reducible apply G.a); exact rfl) | refine G.reg fun K hK => ?_ | (with_reducible (refine hK _ _ ?_); clear hK K) | (have hk := hK; clear hk; simp (disch := first | exact dis | fail) only [push_cast, ↓reduceIte, Nat.reduceAdd, Nat.reduceLeDiff, Nat.reduceEqDiff, Nat.reduceLT, Int.reduceToNat, fct]))
  all_goals
    (first | refine G.r1 ?_ | refine G.r2 ?_ | refine G.r3 ?_ | refine G.r0 ?_ | refine G.d0 ?_); (try simp (disch := first | exact dis | fail) only [push_cast, ↓reduceIte, Nat.reduceAdd, Nat.reduceLeDiff, Nat.reduceEqDiff, Nat.reduceLT, Int.reduceToNat, fct])
    exact Sep.xt (by assumption)
def c24l1 : MC := (.seq (.reg [qq 9 (.bin .lss (.tmp 8) (.tmp 7))]) (.seq (.cond (.tmp 9) .skip (.exit 0)) (.seq (.blk 1 (.seq (.reg [qm 10 8, qm 5 10]) (.seq (.reg [qm 11 1, qm 12 0, qm 13 5, qq 14 (.adr 1 (.tmp 12) (.tmp 13)), qq 15 (.ld none (.tmp 14)), qq 16 (.raw (.call ⟨(.value (.tmp 11)), #[(.tmp 15)], #[3]⟩) 4)]) (.cond (.tmp 16) (.seq (.reg [qm 17 5, qm 4 17]) .ret) .skip)))) (.reg [qq 18 (.bin .add (.tmp 8) (ki 1)), qm 8 18]))))
def c24 : MC := (.seq (.reg [qq 4 (.mv (ki 0))]) (.seq (.seq (.reg [qm 6 0, qq 7 (.len (.tmp 6)), qq 8 (.mv (ki 0))]) (.blk 0 (.loop c24l1))) (.seq (.reg [qq 4 (.mv (ki (-1)))]) .ret)))
theorem k24 : conv Try.prog 19 (Try.f24.body.getD .skip) = c24 := by kernel_rfl
theorem in24 {a0 a1 : Value} {w : World} {R : Value → World → Prop} (h : G Try.prog Try.f24 19 [.c c24] R (frL 0 [a0, a1]) w) : Ret Try.prog 24 #[a0, a1] w R := G.enter (args := [a0, a1]) Try.func24 (c := Try.f24.body.getD .skip) (by kernel_rfl) (by kernel_rfl) (by simp) k24 h
theorem idxf_spec (hr : Rd w eI v sz) : Pu Try.prog 24 #[v, (.func (.func 21) #[] #[])] w (I (posF sz 0)) := by
  refine in24 ?_
  have hS := Sep.start w
  have hbd := hr.bd
  repeat' (first | ((with_reducible apply G.a); exact rfl) | refine G.reg fun K hK => ?_ | (with_reducible (refine hK _ _ ?_); clear hK K) | (have hk := hK; clear hk; simp (disch := first | exact dis | fail) only [push_cast, ↓reduceIte, Nat.reduceAdd, Nat.reduceLeDiff, Nat.reduceEqDiff, Nat.reduceLT, Int.reduceToNat, fct]) | (refine zcv ?_) | (refine G.cn ?_ ?_ <;> intro hc <;> first | (with_reducible exact False.elim hc) | (exfalso; omega) | skip))
  refine G.loop (fun r w' => ∃ k : Nat, k ≤ sz.length ∧ r 0 = v ∧ r 1 = (.func (.func 21) #[] #[]) ∧ r 7 = I sz.length ∧ r 8 = I k ∧ posF sz 0 = posF (sz.drop k) k ∧ Sep w w' []) (fun r _ => sz.length - toN (r 8)) ?_ ?_
  · exact ⟨0, Nat.zero_le _, by exact sf, by exact sf, by exact sf, by exact sf, rfl, hS⟩
  · rintro u wl ⟨k, hk, q0, q1, q7, q8, e, hS⟩ ih
    have hm : toN (u 8) = k := by rw [q8]; simp [toN]
    by_cases hkk : (k : Int) < sz.length
    · have hst := posF_step sz k hkk
      rw [← e] at hst
      by_cases hp : 0 < sz.getD k default
      · rw [if_pos hp] at hst
        (have fct := (And.intro @q0 (And.intro @q1 (And.intro @q7 @q8))); repeat' (first | ((with_reducible apply G.a); exact rfl) | refine G.reg fun K hK => ?_ | (with_reducible (refine hK _ _ ?_); clear hK K) | (have hk := hK; clear hk; simp (disch := first | exact dis | fail) only [push_cast, ↓reduceIte, Nat.reduceAdd, Nat.reduceLeDiff, Nat.reduceEqDiff, Nat.reduceLT, Int.reduceToNat, fct]) | (refine zcv ?_) | (refine zcp 21 (by1_spec _ _) ?_; intro wb hS) | (refine G.cn ?_ ?_ <;> intro hc <;> first | (with_reducible exact False.elim hc) | (exfalso; omega) | skip))) <;> (try clear fct)
        all_goals
          (have fct := (And.intro @q0 (And.intro @q1 (And.intro @q7 @q8))); (first | refine G.r1 ?_ | refine G.r2 ?_ | refine G.r3 ?_ | refine G.r0 ?_ | refine G.d0 ?_); (try simp (disch := first | exact dis | fail) only [push_cast, ↓reduceIte, Nat.reduceAdd, Nat.reduceLeDiff, Nat.reduceEqDiff, Nat.reduceLT, Int.reduceToNat, fct]); (try clear fct))
          exact ⟨by rw [hst], Sep.xt (by assumption)⟩
      · rw [if_neg hp] at hst
        (have fct := (And.intro @q0 (And.intro @q1 (And.intro @q7 @q8))); repeat' (first | ((with_reducible apply G.a); exact rfl) | refine G.reg fun K hK => ?_ | (with_reducible (refine hK _ _ ?_); clear hK K) | (have hk := hK; clear hk; simp (disch := first | exact dis | fail) only [push_cast, ↓reduceIte, Nat.reduceAdd, Nat.reduceLeDiff, Nat.reduceEqDiff, Nat.reduceLT, Int.reduceToNat, fct]) | (refine zcv ?_) | (refine zcp 21 (by1_spec _ _) ?_; intro wb hS) | (refine G.cn ?_ ?_ <;> intro hc <;> first | (with_reducible exact False.elim hc) | (exfalso; omega) | skip))) <;> (try clear fct)
        all_goals
          have fct := (And.intro @q0 (And.intro @q1 (And.intro @q7 @q8))); refine ih _ _ ⟨k + 1, by omega, by exact sf, by exact sf, by exact sf, by exact sf, hst, (Sep.sub hS (by repeat first | exact Sub.rfl' | exact Sub.n | (refine Sub.c (by repeat constructor) ?_) | refine Sub.skip ?_))⟩ ?_
          rw [hm]; simp only [push_cast, ↓reduceIte, Nat.reduceAdd, Nat.reduceLeDiff, Nat.reduceEqDiff, Nat.reduceLT, Int.reduceToNat, toN_i, q0, q1, q7, q8]; omega
    · (have fct := (And.intro @q0 (And.intro @q1 (And.intro @q7 @q8))); repeat' (first | ((with_reducible apply G.a); exact rfl) | refine G.reg fun K hK => ?_ | (with_reducible (refine hK _ _ ?_); clear hK K) | (have hk := hK; clear hk; simp (disch := first | exact dis | fail) only [push_cast, ↓reduceIte, Nat.reduceAdd, Nat.reduceLeDiff, Nat.reduceEqDiff, Nat.reduceLT, Int.reduceToNat, fct]) | (refine zcv ?_) | (refine G.cn ?_ ?_ <;> intro hc <;> first | (with_reducible exact False.elim hc) | (exfalso; omega) | skip))) <;> (try clear fct)
      all_goals
        (first | refine G.r1 ?_ | refine G.r2 ?_ | refine G.r3 ?_ | refine G.r0 ?_ | refine G.d0 ?_); (try simp (disch := first | exact dis | fail) only [push_cast, ↓reduceIte, Nat.reduceAdd, Nat.reduceLeDiff, Nat.reduceEqDiff, Nat.reduceLT, Int.reduceToNat, fct])
        rw [e, List.drop_eq_nil_of_le (by omega)]
        exact ⟨rfl, Sep.xt (by assumption)⟩
def c20 : MC := (.seq (.reg [qq 4 (.mv (kb false))]) (.seq (.reg [qm 5 0, qm 6 1, qq 7 (.call 24 [(.tmp 5), (.tmp 6)]), qq 8 (.bin .geq (.tmp 7) (ki 0)), qm 4 8]) .ret))
theorem k20 : conv Try.prog 9 (Try.f20.body.getD .skip) = c20 := by kernel_rfl
theorem in20 {a0 a1 : Value} {w : World} {R : Value → World → Prop} (h : G Try.prog Try.f20 9 [.c c20] R (frL 0 [a0, a1]) w) : Ret Try.prog 20 #[a0, a1] w R := G.enter (args := [a0, a1]) Try.func20 (c := Try.f20.body.getD .skip) (by kernel_rfl) (by kernel_rfl) (by simp) k20 h
theorem contf_spec (hr : Rd w eI v sz) : Pu Try.prog 20 #[v, (.func (.func 21) #[] #[])] w (.bool (anyP sz)) := by
  refine in20 ?_
  have hS := Sep.start w
  repeat' (first | ((with_reducible apply G.a); exact rfl) | refine G.reg fun K hK => ?_ | (with_reducible (refine hK _ _ ?_); clear hK K) | (have hk := hK; clear hk; simp (disch := first | exact dis | fail) only [push_cast, ↓reduceIte, Nat.reduceAdd, Nat.reduceLeDiff, Nat.reduceEqDiff, Nat.reduceLT, Int.reduceToNat, fct]) | (refine zcp 24 (idxf_spec (Rd.old hr hS)) ?_; intro wb hS))
  (first | refine G.r1 ?_ | refine G.r2 ?_ | refine G.r3 ?_ | refine G.r0 ?_ | refine G.d0 ?_); (try simp (disch := first | exact dis | fail) only [push_cast, ↓reduceIte, Nat.reduceAdd, Nat.reduceLeDiff, Nat.reduceEqDiff, Nat.reduceLT, Int.reduceToNat, fct])
  exact ⟨by rw [posF_any], Sep.xt (by assumption)⟩
def ByOut (s : Str) (sz : List Int) (out : List Str) : Prop := if s ≠ [] ∧ anyP sz = true then ∃ J, EndJ sz s.length J ∧ out = byL s sz J else out = [s]
theorem ByOut.one {a b : List Str} (ha : ByOut s sz a) (hb : ByOut s sz b) : a = b := by
  unfold ByOut at ha hb
  split at ha
  · rename_i h
    rw [if_pos h] at hb
    obtain ⟨i, h1, rfl⟩ := ha
    obtain ⟨j, h2, rfl⟩ := hb
    rw [h1.one h2]
  · rename_i h
    rw [if_neg h] at hb
    rw [ha, hb]
theorem drop_nil_iff {n : Int} (h : 0 ≤ n ∧ n ≤ s.length) : ((s.drop n.toNat == ([] : Str)) = true) ↔ n = s.length := by
  rw [beq_iff_eq, List.drop_eq_nil_iff]; omega
def mesV (v0 v6 : Value) (L q : Nat) : Nat := match v0 with
  | .string b => b.size * (2 * L) + (if toN v6 ≤ q then q - toN v6 else L - toN v6 + q)
  | _ => 0
theorem mesV_S (s : Str) (i L q : Nat) : mesV (S s) (I i) L q = s.length * (2 * L) + (if i ≤ q then q - i else L - i + q) := by
  simp only [mesV, S, sizeS, toN, Int.toNat_natCast]; rfl
def c16l1 : MC := (.seq (.seq (.reg [qm 17 0, qq 18 (.bin .neq (.tmp 17) (.const (S [])))]) (.cond (.tmp 18) .skip (.exit 0))) (.seq (.blk 1 (.seq (.reg [qm 24 1, qm 25 6, qq 26 (.adr 1 (.tmp 24) (.tmp 25)), qq 27 (.ld none (.tmp 26)), qq 28 (.raw (.call ⟨(.builtin .max), #[(.tmp 27), (ki 0)], #[3, 3]⟩) 3), qm 29 0, qq 30 (.lenS (.tmp 29)), qq 31 (.raw (.call ⟨(.builtin .min), #[(.tmp 28), (.tmp 30)], #[3, 3]⟩) 3), qm 7 31]) (.seq (.reg [qm 32 5, qm 33 0, qm 34 7, qq 35 (.slS (.tmp 33) none (.some (.tmp 34))), qq 36 (.bsl 9 [(S [])] 1 [⟨0, ⟨1, (.tmp 35)⟩⟩]), qq 37 (.raw (.call ⟨(.builtin .append), #[(.tmp 32), (.tmp 36)], #[37, 37]⟩) 37), qm 5 37]) (.reg [qm 38 0, qm 39 7, qq 40 (.slS (.tmp 38) (.some (.tmp 39)) none), qm 0 40])))) (.reg [qm 19 6, qq 20 (.bin .add (.tmp 19) (ki 1)), qm 21 1, qq 22 (.len (.tmp 21)), qq 23 (.bin .rem (.tmp 20) (.tmp 22)), qm 6 23])))
def c16 : MC := (.seq (.reg [qq 4 (.mv (.const (.slice none 0 0)))]) (.seq (.seq (.reg [qm 8 0, qq 9 (.bin .eql (.tmp 8) (.const (S []))), qm 10 9, qmf 10 11 1, qf 10 12 (.call 20 [(.tmp 11), (.func 21)]), qf 10 13 (.un .not (.tmp 12)), qq 14 (.pick (.tmp 10) (kb true) (.tmp 13))]) (.cond (.tmp 14) (.seq (.reg [qm 15 0, qq 16 (.bsl 9 [(S [])] 1 [⟨0, ⟨1, (.tmp 15)⟩⟩]), qm 4 16]) .ret) .skip)) (.seq (.reg [qq 5 (.mv (.const (.slice none 0 0)))]) (.seq (.seq (.reg [qq 6 (.mv (ki 0))]) (.blk 0 (.loop c16l1))) (.seq (.reg [qm 41 5, qm 4 41]) .ret)))))
theorem k16 : conv Try.prog 42 (Try.f16.body.getD .skip) = c16 := by kernel_rfl
theorem in16 {a0 a1 : Value} {w : World} {R : Value → World → Prop} (h : G Try.prog Try.f16 42 [.c c16] R (frL 0 [a0, a1]) w) : Ret Try.prog 16 #[a0, a1] w R := G.enter (args := [a0, a1]) Try.func16 (c := Try.f16.body.getD .skip) (by kernel_rfl) (by kernel_rfl) (by simp) k16 h
set_option maxHeartbeats 1000000 in
theorem by_spec (hr : Rd w eI v sz) (hs : s.length ≤ 100000) (hl : sz.length ≤ 1000) : Ret Try.prog 16 #[S s, v] w fun res w' => ∃ out, ByOut s sz out ∧ Sep w w' [accC res 9 eS out] := by
  refine in16 ?_
  have hS := Sep.start w
  by_cases h : s ≠ [] ∧ anyP sz = true
  · obtain ⟨h1, h2⟩ := h
    have hne : (s == ([] : Str)) = false := by simpa using h1
    obtain ⟨q, hq, hp⟩ := anyP_ex h2
    have hM := muJ_zero hq hs hl
    simp only [Nat.reduceMul, Nat.reduceAdd] at hM
    (have fct := (And.intro @hne @h2); repeat' (first | ((with_reducible apply G.a); exact rfl) | refine G.reg fun K hK => ?_ | (with_reducible (refine hK _ _ ?_); clear hK K) | (have hk := hK; clear hk; simp (disch := first | exact dis | fail) only [push_cast, ↓reduceIte, Nat.reduceAdd, Nat.reduceLeDiff, Nat.reduceEqDiff, Nat.reduceLT, Int.reduceToNat, fct]) | (refine brO_n ?_ ?_ <;> intro hb hc <;> first | (with_reducible exact False.elim hc) | (exfalso; omega) | (simp only [hb]; clear hb)) | (refine zbsl ?_; intro gb wb hS) | (refine zcp 20 (contf_spec (Rd.old hr hS)) ?_; intro wb hS) | (refine G.cn ?_ ?_ <;> intro hc <;> first | (with_reducible exact False.elim hc) | (exfalso; omega) | skip))) <;> (try clear fct)
    have hS := hS.nil 9 eS
    refine G.loop (fun r w' => ∃ (j : Nat) (lv : Value), r 0 = S (s.drop (atJ sz s.length j).toNat) ∧ r 1 = v ∧ r 5 = lv ∧ r 6 = I (j % sz.length : Nat) ∧ (∀ i, i < j → atJ sz s.length i < s.length) ∧ j + muJ sz s.length q j ≤ muJ sz s.length q 0 ∧ Sep w w' [accC lv 9 eS (byL s sz j)])
      (fun r _ => mesV (r 0) (r 6) sz.length q) ?_ ?_
    · exact ⟨0, _, by simp only [push_cast, ↓reduceIte, Nat.reduceAdd, Nat.reduceLeDiff, Nat.reduceEqDiff, Nat.reduceLT, Int.reduceToNat]; simp [atJ], by simp only [push_cast, ↓reduceIte, Nat.reduceAdd, Nat.reduceLeDiff, Nat.reduceEqDiff, Nat.reduceLT, Int.reduceToNat], by simp only [push_cast, ↓reduceIte, Nat.reduceAdd, Nat.reduceLeDiff, Nat.reduceEqDiff, Nat.reduceLT, Int.reduceToNat] <;> rfl, by simp only [push_cast, ↓reduceIte, Nat.reduceAdd, Nat.reduceLeDiff, Nat.reduceEqDiff, Nat.reduceLT, Int.reduceToNat, Nat.zero_mod] <;> rfl, by omega, by omega, hS⟩
    · clear hS
      rintro u wl ⟨j, lv, q0, q1, q5, q6, hlt, hmu, hS⟩ ih
      have hb := atJ_bd sz s.length (by omega) j
      have hdn := drop_nil_iff (s := s) hb
      have hj : j ≤ 1000000000 := by omega
      have hbl := byL_len s sz j
      by_cases he : atJ sz s.length j = s.length
      · have hz : (s.drop (atJ sz s.length j).toNat == ([] : Str)) = true := hdn.2 he
        (have fct := (And.intro @q0 (And.intro @q1 (And.intro @q5 (And.intro @q6 @hz)))); repeat' (first | ((with_reducible apply G.a); exact rfl) | refine G.reg fun K hK => ?_ | (with_reducible (refine hK _ _ ?_); clear hK K) | (have hk := hK; clear hk; simp (disch := first | exact dis | fail) only [push_cast, ↓reduceIte, Nat.reduceAdd, Nat.reduceLeDiff, Nat.reduceEqDiff, Nat.reduceLT, Int.reduceToNat, fct]) | (refine brO_n ?_ ?_ <;> intro hb hc <;> first | (with_reducible exact False.elim hc) | (exfalso; omega) | (simp only [hb]; clear hb)) | (refine zbsl ?_; intro gb wb hS) | (refine G.cn ?_ ?_ <;> intro hc <;> first | (with_reducible exact False.elim hc) | (exfalso; omega) | skip))) <;> (try clear fct)
        all_goals
          (have fct := (And.intro @q0 (And.intro @q1 (And.intro @q5 @q6))); (first | refine G.r1 ?_ | refine G.r2 ?_ | refine G.r3 ?_ | refine G.r0 ?_ | refine G.d0 ?_); (try simp (disch := first | exact dis | fail) only [push_cast, ↓reduceIte, Nat.reduceAdd, Nat.reduceLeDiff, Nat.reduceEqDiff, Nat.reduceLT, Int.reduceToNat, fct]); (try clear fct))
          refine ⟨_, ?_, hS⟩
          unfold ByOut
          rw [if_pos ⟨h1, h2⟩]
          exact ⟨j, ⟨he, hlt⟩, rfl⟩
      · have hz : (s.drop (atJ sz s.length j).toNat == ([] : Str)) = false := by cases h : (s.drop (atJ sz s.length j).toNat == ([] : Str)); rfl; exact absurd (hdn.1 h) he
        have hmj := muJ_step (by omega) hq hp (show atJ sz s.length j < s.length by omega)
        obtain ⟨g1, g2, g3, g4⟩ := by_step s sz j
        have hil : j % sz.length < sz.length := Nat.mod_lt _ (by omega)
        have hmod : (((j % sz.length : Nat) : Int) + 1) % (sz.length : Int) = (((j + 1) % sz.length : Nat) : Int) := by
          rw [← Nat.mod_add_mod]; rfl
        have hbs := byL_succ s sz j
        have hlt2 : ∀ i, i < j + 1 → atJ sz s.length i < s.length := fun i hi => by
          rcases Nat.lt_or_ge i j with h | h
          · exact hlt i h
          · rw [show i = j by omega]; omega
        have hmes : ∀ j, muJ sz s.length q j = (s.drop (atJ sz s.length j).toNat).length * (2 * sz.length) + (if j % sz.length ≤ q then q - j % sz.length else sz.length - j % sz.length + q) := fun j => by
          have := atJ_bd sz s.length (by omega) j
          unfold muJ; rw [List.length_drop]; congr 2; omega
        have hm1 := hmes j
        have hm2 := hmes (j + 1)
        generalize hsc : s.drop (atJ sz s.length j).toNat = sc at *
        generalize hsn : s.drop (atJ sz s.length (j + 1)).toNat = sn at *
        generalize (heldI (sz.getD (j % sz.length) default) (s.length - atJ sz s.length j)).toNat = c at *
        generalize j % sz.length = i at *
        generalize hi2 : (j + 1) % sz.length = i2 at *
        (have fct := (And.intro @q0 (And.intro @q1 (And.intro @q5 (And.intro @q6 (And.intro @hz (And.intro @g1 (And.intro @g3 @hmod))))))); repeat' (first | ((with_reducible apply G.a); exact rfl) | refine G.reg fun K hK => ?_ | (with_reducible (refine hK _ _ ?_); clear hK K) | (have hk := hK; clear hk; simp (disch := first | exact dis | fail) only [push_cast, ↓reduceIte, Nat.reduceAdd, Nat.reduceLeDiff, Nat.reduceEqDiff, Nat.reduceLT, Int.reduceToNat, fct]) | (refine brO_n ?_ ?_ <;> intro hb hc <;> first | (with_reducible exact False.elim hc) | (exfalso; omega) | (simp only [hb]; clear hb)) | (refine zbsl ?_; intro gb wb hS) | (refine zap (y := pcJ s sz j) ?_ (hy := by (rw [g2]; rfl)); intro vb wb hS) | (refine G.cn ?_ ?_ <;> intro hc <;> first | (with_reducible exact False.elim hc) | (exfalso; omega) | skip))) <;> (try clear fct)
        all_goals
          have fct := (And.intro @q0 (And.intro @q1 (And.intro @q5 @q6))); refine ih _ _ ⟨j + 1, _, by rw [hsn]; simp only [push_cast, ↓reduceIte, Nat.reduceAdd, Nat.reduceLeDiff, Nat.reduceEqDiff, Nat.reduceLT, Int.reduceToNat, q0, q1, q5, q6, g3], by exact sf, by exact sf, by rw [hi2]; simp only [push_cast, ↓reduceIte, Nat.reduceAdd, Nat.reduceLeDiff, Nat.reduceEqDiff, Nat.reduceLT, Int.reduceToNat, q0, q1, q5, q6, hmod], hlt2, by omega, by rw [hbs]; exact hS⟩ ?_
          simp only [push_cast, ↓reduceIte, Nat.reduceAdd, Nat.reduceLeDiff, Nat.reduceEqDiff, Nat.reduceLT, Int.reduceToNat, q0, q1, q5, q6, g3, hmod, mesV_S]
          omega
  · have hc0 : (s == ([] : Str)) = true ∨ anyP sz = false := by
      by_cases h1 : s = []
      · exact .inl (by simp [h1])
      · right; cases ha : anyP sz; rfl; exact absurd ⟨h1, ha⟩ h
    rcases hc0 with hc0 | hc0
    all_goals
      (have fct := @hc0; repeat' (first | ((with_reducible apply G.a); exact rfl) | refine G.reg fun K hK => ?_ | (with_reducible (refine hK _ _ ?_); clear hK K) | (have hk := hK; clear hk; simp (disch := first | exact dis | fail) only [push_cast, ↓reduceIte, Nat.reduceAdd, Nat.reduceLeDiff, Nat.reduceEqDiff, Nat.reduceLT, Int.reduceToNat, fct]) | (refine brO_n ?_ ?_ <;> intro hb hc <;> first | (with_reducible exact False.elim hc) | (exfalso; omega) | (simp only [hb]; clear hb)) | (refine zbsl ?_; intro gb wb hS) | (refine zcp 20 (contf_spec (Rd.old hr hS)) ?_; intro wb hS) | (refine G.cn ?_ ?_ <;> intro hc <;> first | (with_reducible exact False.elim hc) | (exfalso; omega) | skip))) <;> (try clear fct)
      all_goals
        have hS := Sep.toAcc (E := eS) [s] hS Up.h rfl rfl (by simp [eS, one_s]) (by simp)
        (first | refine G.r1 ?_ | refine G.r2 ?_ | refine G.r3 ?_ | refine G.r0 ?_ | refine G.d0 ?_); (try simp (disch := first | exact dis | fail) only [push_cast, ↓reduceIte, Nat.reduceAdd, Nat.reduceLeDiff, Nat.reduceEqDiff, Nat.reduceLT, Int.reduceToNat, fct])
        exact ⟨[s], by unfold ByOut; rw [if_neg h], hS⟩
def c18 : MC := (.seq (.reg [qq 4 (.mv (ki 0))]) (.seq (.seq (.reg [qm 5 0, qq 6 (.bin .lss (.tmp 5) (ki 0))]) (.cond (.tmp 6) (.seq (.reg [qq 4 (.mv (ki 0))]) .ret) .skip)) (.seq (.seq (.reg [qm 7 0, qm 8 1, qq 9 (.bin .gtr (.tmp 7) (.tmp 8))]) (.cond (.tmp 9) (.seq (.reg [qm 10 1, qm 4 10]) .ret) .skip)) (.seq (.reg [qm 11 0, qm 4 11]) .ret))))
theorem k18 : conv Try.prog 12 (Try.f18.body.getD .skip) = c18 := by kernel_rfl
theorem in18 {a0 a1 : Value} {w : World} {R : Value → World → Prop} (h : G Try.prog Try.f18 12 [.c c18] R (frL 0 [a0, a1]) w) : Ret Try.prog 18 #[a0, a1] w R := G.enter (args := [a0, a1]) Try.func18 (c := Try.f18.body.getD .skip) (by kernel_rfl) (by kernel_rfl) (by simp) k18 h
theorem held_spec (n m : Int) (w : World) : Pu Try.prog 18 #[I n, I m] w (I (heldI n m)) := by
  refine in18 ?_
  have hS := Sep.start w
  unfold heldI
  repeat' (first | ((with_reducible apply G.a); exact rfl) | refine G.reg fun K hK => ?_ | (with_reducible (refine hK _ _ ?_); clear hK K) | (have hk := hK; clear hk; simp (disch := first | exact dis | fail) only [push_cast, ↓reduceIte, Nat.reduceAdd, Nat.reduceLeDiff, Nat.reduceEqDiff, Nat.reduceLT, Int.reduceToNat, fct]) | (refine G.cn ?_ ?_ <;> intro hc <;> first | (with_reducible exact False.elim hc) | (exfalso; omega) | skip))
  all_goals
    (first | refine G.r1 ?_ | refine G.r2 ?_ | refine G.r3 ?_ | refine G.r0 ?_ | refine G.d0 ?_); (try simp (disch := first | exact dis | fail) only [push_cast, ↓reduceIte, Nat.reduceAdd, Nat.reduceLeDiff, Nat.reduceEqDiff, Nat.reduceLT, Int.reduceToNat, fct])
    first
    | (rw [if_pos (by omega)]; exact ⟨rfl, Sep.xt (by assumption)⟩)
    | (rw [if_neg (by omega), if_pos (by omega)]; exact ⟨rfl, Sep.xt (by assumption)⟩)
    | (rw [if_neg (by omega), if_neg (by omega)]; exact ⟨rfl, Sep.xt (by assumption)⟩)
def c13l1 : MC := (.seq (.reg [qq 9 (.bin .lss (.tmp 8) (.tmp 7))]) (.seq (.cond (.tmp 9) .skip (.exit 0)) (.seq (.blk 1 (.seq (.reg [qq 10 (.adr 1 (.tmp 6) (.tmp 8)), qq 11 (.ld none (.tmp 10)), qm 5 11]) (.reg [qm 12 3, qm 13 5, qq 14 (.bin .add (.tmp 12) (.tmp 13)), qm 3 14]))) (.reg [qq 15 (.bin .add (.tmp 8) (ki 1)), qm 8 15]))))
def c13 : MC := (.seq (.reg [qq 2 (.mv (.const (S [])))]) (.seq (.reg [qq 3 (.mv (.const (S [])))]) (.seq (.seq (.reg [qm 6 0, qq 7 (.len (.tmp 6)), qq 8 (.mv (ki 0))]) (.blk 0 (.loop c13l1))) (.seq (.reg [qm 16 3, qm 2 16]) .ret))))
theorem k13 : conv Try.prog 17 (Try.f13.body.getD .skip) = c13 := by kernel_rfl
theorem in13 {a0 : Value} {w : World} {R : Value → World → Prop} (h : G Try.prog Try.f13 17 [.c c13] R (frL 0 [a0]) w) : Ret Try.prog 13 #[a0] w R := G.enter (args := [a0]) Try.func13 (c := Try.f13.body.getD .skip) (by kernel_rfl) (by kernel_rfl) (by simp) k13 h
theorem joined_spec {l : List Str} (hr : Rd w eS v l) (hl : l.flatten.length ≤ 9223372036854775807) : Pu Try.prog 13 #[v] w (S l.flatten) := by
  refine in13 ?_
  have hS := Sep.start w
  have hbd := hr.bd
  repeat' (first | ((with_reducible apply G.a); exact rfl) | refine G.reg fun K hK => ?_ | (with_reducible (refine hK _ _ ?_); clear hK K) | (with_reducible (refine hK _ ?_); clear hK K; intro wd hxd; have hS := Sep.xx hxd) | ((first | have hk := hK | have hk := hK2); clear hk; simp (disch := first | exact dis | fail) only [push_cast, ↓reduceIte, Nat.reduceAdd, Nat.reduceLeDiff, Nat.reduceEqDiff, Nat.reduceLT, Int.reduceToNat, fct]) | ((first | refine brO_n ?_ ?_ | refine brQ_n ?_ ?_) <;> intro hb hc <;> first | (with_reducible exact False.elim hc) | (exfalso; omega) | (simp only [hb]; clear hb)) | ((first | refine zalc ?_ | refine zbsl ?_ | ((with_reducible refine gBox ?_); refine zbox ?_)); intro gb wb hS) | ((with_reducible refine gSt ?_); refine zs2 ?_; intro wb hS) | (refine zcv ?_) | (refine G.drt mixed fun K hK wd hxd => ?_; have hS := Sep.xx hxd) | with_reducible refine OT_leaf ?_ | (with_reducible refine OT_tail fun K2 hK2 => ?_) | (with_reducible (refine hK2 _ ?_); clear hK2 K2; intro wd hxd; have hS := Sep.xx hxd) | with_reducible refine OT_br fun K2 hK2 => ?_ | (refine hK2 _ _ ?_ ?_ <;> clear hK2 K2) | refine G.drg mixed fun K hK => ?_ | (refine G.cn ?_ ?_ <;> intro hc <;> first | (with_reducible exact False.elim hc) | (exfalso; omega) | skip))
  refine G.loop (fun r w' => ∃ k : Nat, k ≤ l.length ∧ r 3 = S (l.take k).flatten ∧ r 6 = v ∧ r 7 = I l.length ∧ r 8 = I k ∧ Sep w w' []) (fun r _ => l.length - toN (r 8)) ?_ ?_
  · exact ⟨0, Nat.zero_le _, by simp only [push_cast, ↓reduceIte, Nat.reduceAdd, Nat.reduceLeDiff, Nat.reduceEqDiff, Nat.reduceLT, Int.reduceToNat]; rfl, by exact sf, by exact sf, by exact sf, hS⟩
  · rintro u wl ⟨k, hk, q3, q6, q7, q8, hS⟩ ih
    have hm : toN (u 8) = k := by rw [q8]; simp [toN]
    by_cases hkk : (k : Int) < l.length
    · have hst : (l.take k).flatten ++ l.getD k default = (l.take (k + 1)).flatten := by rw [takeD l k hkk]; simp
      have hln : (l.take k).flatten.length + (l.getD k default).length ≤ l.flatten.length := by
        rw [← List.length_append, hst]
        have := List.take_append_drop (k + 1) l
        conv => rhs; rw [← this]
        rw [List.flatten_append, List.length_append]; omega
      (have fct := (And.intro @q3 (And.intro @q6 (And.intro @q7 (And.intro @q8 @hst)))); repeat' (first | ((with_reducible apply G.a); exact rfl) | refine G.reg fun K hK => ?_ | (with_reducible (refine hK _ _ ?_); clear hK K) | (with_reducible (refine hK _ ?_); clear hK K; intro wd hxd; have hS := Sep.xx hxd) | ((first | have hk := hK | have hk := hK2); clear hk; simp (disch := first | exact dis | fail) only [push_cast, ↓reduceIte, Nat.reduceAdd, Nat.reduceLeDiff, Nat.reduceEqDiff, Nat.reduceLT, Int.reduceToNat, fct]) | ((first | refine brO_n ?_ ?_ | refine brQ_n ?_ ?_) <;> intro hb hc <;> first | (with_reducible exact False.elim hc) | (exfalso; omega) | (simp only [hb]; clear hb)) | ((first | refine zalc ?_ | refine zbsl ?_ | ((with_reducible refine gBox ?_); refine zbox ?_)); intro gb wb hS) | ((with_reducible refine gSt ?_); refine zs2 ?_; intro wb hS) | (refine zcv ?_) | (refine G.drt mixed fun K hK wd hxd => ?_; have hS := Sep.xx hxd) | with_reducible refine OT_leaf ?_ | (with_reducible refine OT_tail fun K2 hK2 => ?_) | (with_reducible (refine hK2 _ ?_); clear hK2 K2; intro wd hxd; have hS := Sep.xx hxd) | with_reducible refine OT_br fun K2 hK2 => ?_ | (refine hK2 _ _ ?_ ?_ <;> clear hK2 K2) | refine G.drg mixed fun K hK => ?_ | (refine G.cn ?_ ?_ <;> intro hc <;> first | (with_reducible exact False.elim hc) | (exfalso; omega) | skip))) <;> (try clear fct)
      all_goals
        have fct := (And.intro @q3 (And.intro @q6 (And.intro @q7 (And.intro @q8 @hst)))); refine ih _ _ ⟨k + 1, by omega, by exact sf, by exact sf, by exact sf, by exact sf, (Sep.sub hS (by repeat first | exact Sub.rfl' | exact Sub.n | (refine Sub.c (by repeat constructor) ?_) | refine Sub.skip ?_))⟩ ?_
        rw [hm]; simp only [push_cast, ↓reduceIte, Nat.reduceAdd, Nat.reduceLeDiff, Nat.reduceEqDiff, Nat.reduceLT, Int.reduceToNat, toN_i, q3, q6, q7, q8]; omega
    · (have fct := (And.intro @q3 (And.intro @q6 (And.intro @q7 @q8))); repeat' (first | ((with_reducible apply G.a); exact rfl) | refine G.reg fun K hK => ?_ | (with_reducible (refine hK _ _ ?_); clear hK K) | (with_reducible (refine hK _ ?_); clear hK K; intro wd hxd; have hS := Sep.xx hxd) | ((first | have hk := hK | have hk := hK2); clear hk; simp (disch := first | exact dis | fail) only [push_cast, ↓reduceIte, Nat.reduceAdd, Nat.reduceLeDiff, Nat.reduceEqDiff, Nat.reduceLT, Int.reduceToNat, fct]) | ((first | refine brO_n ?_ ?_ | refine brQ_n ?_ ?_) <;> intro hb hc <;> first | (with_reducible exact False.elim hc) | (exfalso; omega) | (simp only [hb]; clear hb)) | ((first | refine zalc ?_ | refine zbsl ?_ | ((with_reducible refine gBox ?_); refine zbox ?_)); intro gb wb hS) | ((with_reducible refine gSt ?_); refine zs2 ?_; intro wb hS) | (refine zcv ?_) | (refine G.drt mixed fun K hK wd hxd => ?_; have hS := Sep.xx hxd) | with_reducible refine OT_leaf ?_ | (with_reducible refine OT_tail fun K2 hK2 => ?_) | (with_reducible (refine hK2 _ ?_); clear hK2 K2; intro wd hxd; have hS := Sep.xx hxd) | with_reducible refine OT_br fun K2 hK2 => ?_ | (refine hK2 _ _ ?_ ?_ <;> clear hK2 K2) | refine G.drg mixed fun K hK => ?_ | (refine G.cn ?_ ?_ <;> intro hc <;> first | (with_reducible exact False.elim hc) | (exfalso; omega) | skip))) <;> (try clear fct)
      all_goals
        (have fct := (And.intro @q3 (And.intro @q6 (And.intro @q7 @q8))); (first | refine G.r1 ?_ | refine G.r2 ?_ | refine G.r3 ?_ | refine G.r0 ?_ | refine G.d0 ?_); (try simp (disch := first | exact dis | fail) only [push_cast, ↓reduceIte, Nat.reduceAdd, Nat.reduceLeDiff, Nat.reduceEqDiff, Nat.reduceLT, Int.reduceToNat, fct]); (try clear fct))
        rw [List.take_of_length_le (by omega)]
        exact ⟨rfl, Sep.xt (by assumption)⟩
end
end Go.Proofs.Ytcglgnbeliljoaa
