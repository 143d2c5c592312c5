/- Texts of the proof, joined. -/
import Derived.Test.YtdikpaochhacmaaProg
import Derived.Test.YtdikpaochhacmaauMc
import Derived.Test.YtdikpaochhacmaauPa
namespace Go.Proofs.Ytdikpaochhacmaa
set_option linter.unusedSimpArgs false
set_option linter.unusedVariables false
attribute [local irreducible] SemK UnitK StK AlcK BslK CallK CallV Instr.box Builtin.append_ Instr.makeSlice Instr.makeMap Instr.lookup Instr.mapUpdate Instr.sliceAt convert
open Go.RowKit
theorem mixed : Try.prog.follows .mixedOrders = true := by kernel_rfl
end Go.Proofs.Ytdikpaochhacmaa
namespace Go.Proofs.Ytdikpaochhacmaa
set_option linter.unusedSimpArgs false
set_option linter.unusedVariables false
attribute [local irreducible] SemK UnitK StK AlcK BslK CallK CallV Instr.box Builtin.append_ Instr.makeSlice Instr.makeMap Instr.lookup Instr.mapUpdate Instr.sliceAt convert
open Go.RowKit
end Go.Proofs.Ytdikpaochhacmaa
namespace Go.Proofs.Ytdikpaochhacmaa
set_option linter.unusedSimpArgs false
set_option linter.unusedVariables false
attribute [local irreducible] SemK UnitK StK AlcK BslK CallK CallV Instr.box Builtin.append_ Instr.makeSlice Instr.makeMap Instr.lookup Instr.mapUpdate Instr.sliceAt convert
open Go.RowKit
def c67 : MC := (.seq (.reg [qq 4 (.mv (kb false))]) (.seq (.reg [qm 5 0, qq 6 (.lenS (.tmp 5)), qm 7 1, qq 8 (.lenS (.tmp 7)), qq 9 (.bin .geq (.tmp 6) (.tmp 8)), qm 10 9, qmt 10 11 0, qmt 10 12 1, qt 10 13 (.lenS (.tmp 12)), qt 10 14 (.slS (.tmp 11) none (.some (.tmp 13))), qmt 10 15 1, qt 10 16 (.bin .eql (.tmp 14) (.tmp 15)), qq 17 (.pick (.tmp 10) (.tmp 16) (kb false)), qm 4 17]) .ret))
theorem k67 : conv Try.prog 18 (Try.f67.body.getD .skip) = c67 := by kernel_rfl
theorem in67 {a0 a1 : Value} {w : World} {R : Value → World → Prop} (h : G Try.prog Try.f67 18 [.c c67] R (frL 0 [a0, a1]) w) : Ret Try.prog 67 #[a0, a1] w R := G.enter (args := [a0, a1]) Try.func67 (c := Try.f67.body.getD .skip) (by kernel_rfl) (by kernel_rfl) (by simp) k67 h
theorem hp_spec (s p : Str) (w : World) (hl : s.length ≤ 1000000000) (hp : p.length ≤ 1000000000) : Pu Try.prog 67 #[S s, S p] w (.bool (s.take p.length == p)) := by
  refine in67 ?_
  have hS := Sep.start w
  by_cases h : (p.length : Int) ≤ s.length
  · (have fct := @h; repeat' (first | ((with_reducible apply G.a); exact rfl) | refine G.reg fun K hK => ?_ | (with_reducible (refine hK _ _ ?_); clear hK K) | (have hk := hK; clear hk; simp (disch := first | exact dis | fail) only [push_cast, ↓reduceIte, Nat.reduceAdd, Nat.reduceLeDiff, Nat.reduceEqDiff, Nat.reduceLT, Int.reduceToNat, fct]) | (refine brO_n ?_ ?_ <;> intro hb hc <;> first | (with_reducible exact False.elim hc) | (exfalso; omega) | (simp only [hb]; clear hb)))) <;> (try clear fct)
    all_goals
      (have fct := @h; (first | refine G.r1 ?_ | refine G.r2 ?_ | refine G.r3 ?_ | refine G.r0 ?_ | refine G.d0 ?_); (try simp (disch := first | exact dis | fail) only [push_cast, ↓reduceIte, Nat.reduceAdd, Nat.reduceLeDiff, Nat.reduceEqDiff, Nat.reduceLT, Int.reduceToNat, fct]); (try clear fct))
      (first | exact Sep.xt (by assumption) | exact ⟨rfl, Sep.xt (by assumption)⟩)
  · have hne : (s.take p.length == p) = false := by
      rw [beq_eq_false_iff_ne]
      intro e
      have := congrArg List.length e
      simp at this; omega
    (have fct := @h; repeat' (first | ((with_reducible apply G.a); exact rfl) | refine G.reg fun K hK => ?_ | (with_reducible (refine hK _ _ ?_); clear hK K) | (have hk := hK; clear hk; simp (disch := first | exact dis | fail) only [push_cast, ↓reduceIte, Nat.reduceAdd, Nat.reduceLeDiff, Nat.reduceEqDiff, Nat.reduceLT, Int.reduceToNat, fct]) | (refine brO_n ?_ ?_ <;> intro hb hc <;> first | (with_reducible exact False.elim hc) | (exfalso; omega) | (simp only [hb]; clear hb)))) <;> (try clear fct)
    all_goals
      (have fct := @h; (first | refine G.r1 ?_ | refine G.r2 ?_ | refine G.r3 ?_ | refine G.r0 ?_ | refine G.d0 ?_); (try simp (disch := first | exact dis | fail) only [push_cast, ↓reduceIte, Nat.reduceAdd, Nat.reduceLeDiff, Nat.reduceEqDiff, Nat.reduceLT, Int.reduceToNat, fct]); (try clear fct))
      rw [hne]
      (first | exact Sep.xt (by assumption) | exact ⟨rfl, Sep.xt (by assumption)⟩)
def c50 : MC := (.seq (.reg [qq 4 (.mv (.const (S []))), qq 5 (.mv (kb false))]) (.seq (.seq (.reg [qm 6 0, qm 7 1, qq 8 (.call 67 [(.tmp 6), (.tmp 7)]), qq 9 (.un .not (.tmp 8))]) (.cond (.tmp 9) (.seq (.reg [qm 10 0, qm 4 10, qq 5 (.mv (kb false))]) .ret) .skip)) (.seq (.reg [qm 11 0, qm 12 1, qq 13 (.lenS (.tmp 12)), qq 14 (.slS (.tmp 11) (.some (.tmp 13)) none), qm 4 14, qq 5 (.mv (kb true))]) .ret)))
theorem k50 : conv Try.prog 15 (Try.f50.body.getD .skip) = c50 := by kernel_rfl
theorem in50 {a0 a1 : Value} {w : World} {R : Value → World → Prop} (h : G Try.prog Try.f50 15 [.c c50] R (frL 0 [a0, a1]) w) : Ret Try.prog 50 #[a0, a1] w R := G.enter (args := [a0, a1]) Try.func50 (c := Try.f50.body.getD .skip) (by kernel_rfl) (by kernel_rfl) (by simp) k50 h
theorem cutp0_spec (s p : Str) (w : World) (hl : s.length ≤ 1000000000) (hp : p.length ≤ 1000000000) : Pu Try.prog 50 #[S s, S p] w (.tuple #[S (if (s.take p.length == p) = true then s.drop p.length else s), .bool (s.take p.length == p)]) := by
  refine in50 ?_
  have hS := Sep.start w
  cases h : (s.take p.length == p)
  · rw [if_neg (by simp)]
    (have fct := @h; repeat' (first | ((with_reducible apply G.a); exact rfl) | refine G.reg fun K hK => ?_ | (with_reducible (refine hK _ _ ?_); clear hK K) | (have hk := hK; clear hk; simp (disch := first | exact dis | fail) only [push_cast, ↓reduceIte, Nat.reduceAdd, Nat.reduceLeDiff, Nat.reduceEqDiff, Nat.reduceLT, Int.reduceToNat, fct]) | (refine zcp 67 (hp_spec s p _ hl hp) ?_; intro wb hS) | (refine G.cn ?_ ?_ <;> intro hc <;> first | (with_reducible exact False.elim hc) | (exfalso; omega) | skip))) <;> (try clear fct)
    all_goals
      (have fct := @h; (first | refine G.r1 ?_ | refine G.r2 ?_ | refine G.r3 ?_ | refine G.r0 ?_ | refine G.d0 ?_); (try simp (disch := first | exact dis | fail) only [push_cast, ↓reduceIte, Nat.reduceAdd, Nat.reduceLeDiff, Nat.reduceEqDiff, Nat.reduceLT, Int.reduceToNat, fct]); (try clear fct))
      (first | exact Sep.xt (by assumption) | exact ⟨rfl, Sep.xt (by assumption)⟩)
  · rw [if_pos rfl]
    have hlen : (p.length : Int) ≤ s.length := by
      have e : s.take p.length = p := by simpa using h
      have := congrArg List.length e
      simp at this; omega
    (have fct := @h; repeat' (first | ((with_reducible apply G.a); exact rfl) | refine G.reg fun K hK => ?_ | (with_reducible (refine hK _ _ ?_); clear hK K) | (have hk := hK; clear hk; simp (disch := first | exact dis | fail) only [push_cast, ↓reduceIte, Nat.reduceAdd, Nat.reduceLeDiff, Nat.reduceEqDiff, Nat.reduceLT, Int.reduceToNat, fct]) | (refine zcp 67 (hp_spec s p _ hl hp) ?_; intro wb hS) | (refine G.cn ?_ ?_ <;> intro hc <;> first | (with_reducible exact False.elim hc) | (exfalso; omega) | skip))) <;> (try clear fct)
    all_goals
      (have fct := @h; (first | refine G.r1 ?_ | refine G.r2 ?_ | refine G.r3 ?_ | refine G.r0 ?_ | refine G.d0 ?_); (try simp (disch := first | exact dis | fail) only [push_cast, ↓reduceIte, Nat.reduceAdd, Nat.reduceLeDiff, Nat.reduceEqDiff, Nat.reduceLT, Int.reduceToNat, fct]); (try clear fct))
      (first | exact Sep.xt (by assumption) | exact ⟨rfl, Sep.xt (by assumption)⟩)
def c41 : MC := (.seq (.reg [qq 4 (.mv (.const (S []))), qq 5 (.mv (kb false))]) (.seq (.reg [qm 6 0, qm 7 1, qq 8 (.call 50 [(.tmp 6), (.tmp 7)]), qq 9 (.ext 0 (.tmp 8)), qq 10 (.ext 1 (.tmp 8)), qm 4 9, qm 5 10]) .ret))
theorem k41 : conv Try.prog 11 (Try.f41.body.getD .skip) = c41 := by kernel_rfl
theorem in41 {a0 a1 : Value} {w : World} {R : Value → World → Prop} (h : G Try.prog Try.f41 11 [.c c41] R (frL 0 [a0, a1]) w) : Ret Try.prog 41 #[a0, a1] w R := G.enter (args := [a0, a1]) Try.func41 (c := Try.f41.body.getD .skip) (by kernel_rfl) (by kernel_rfl) (by simp) k41 h
theorem cutp_spec (s p : Str) (w : World) (hl : s.length ≤ 1000000000) (hp : p.length ≤ 1000000000) : Pu Try.prog 41 #[S s, S p] w (.tuple #[S (if (s.take p.length == p) = true then s.drop p.length else s), .bool (s.take p.length == p)]) := by
  refine in41 ?_
  have hS := Sep.start w
  repeat' (first | ((with_reducible apply G.a); exact rfl) | refine G.reg fun K hK => ?_ | (with_reducible (refine hK _ _ ?_); clear hK K) | (have hk := hK; clear hk; simp (disch := first | exact dis | fail) only [push_cast, ↓reduceIte, Nat.reduceAdd, Nat.reduceLeDiff, Nat.reduceEqDiff, Nat.reduceLT, Int.reduceToNat, fct]) | (refine zcp 50 (cutp0_spec s p _ hl hp) ?_; intro wb hS))
  (first | refine G.r1 ?_ | refine G.r2 ?_ | refine G.r3 ?_ | refine G.r0 ?_ | refine G.d0 ?_); (try simp (disch := first | exact dis | fail) only [push_cast, ↓reduceIte, Nat.reduceAdd, Nat.reduceLeDiff, Nat.reduceEqDiff, Nat.reduceLT, Int.reduceToNat, fct])
  (first | exact Sep.xt (by assumption) | exact ⟨rfl, Sep.xt (by assumption)⟩)
end Go.Proofs.Ytdikpaochhacmaa
