/- Texts of the proof, joined. -/
import Derived.Test.YtdikpaochhacmaauP15
import Derived.Test.YtdikpaochhacmaauR02
import Derived.Test.YtdikpaochhacmaauW02
namespace Go.Proofs.Ytdikpaochhacmaa
set_option linter.unusedSimpArgs false
set_option linter.unusedVariables false
attribute [local irreducible] SemK UnitK StK AlcK BslK CallK CallV Instr.box Builtin.append_ Instr.makeSlice Instr.makeMap Instr.lookup Instr.mapUpdate Instr.sliceAt convert
open Go.RowKit
end Go.Proofs.Ytdikpaochhacmaa
namespace Go.Proofs.Ytdikpaochhacmaa
set_option linter.unusedSimpArgs false
set_option linter.unusedVariables false
attribute [local irreducible] SemK UnitK StK AlcK BslK CallK CallV Instr.box Builtin.append_ Instr.makeSlice Instr.makeMap Instr.lookup Instr.mapUpdate Instr.sliceAt convert
open Go.RowKit
theorem same_step {α : Type} [Inhabited α] (a b : List α) (k : Nat) (hl : a.length = b.length) (hk : (k : Int) < a.length) (h : a.take k = b.take k) (he : a.getD k default = b.getD k default) : a.take (k + 1) = b.take (k + 1) := by
  rw [takeD a k hk, takeD b k (by omega), h, he]
theorem same_no {α : Type} [Inhabited α] (a b : List α) (k : Nat) (he : ¬ a.getD k default = b.getD k default) : a ≠ b := fun h => he (by rw [h])
def c11l1 : MC := (.seq (.reg [qq 14 (.bin .lss (.tmp 13) (.tmp 12))]) (.seq (.cond (.tmp 14) .skip (.exit 0)) (.seq (.blk 1 (.seq (.reg [qm 15 13, qm 5 15]) (.seq (.drg [qm 16 0, qm 17 5, qq 18 (.adr 1 (.tmp 16) (.tmp 17)), qq 19 (.ld none (.tmp 18)), qm 20 1, qm 21 5, qq 22 (.adr 1 (.tmp 20) (.tmp 21)), qq 23 (.ld none (.tmp 22)), qq 24 (.bin .neq (.tmp 19) (.tmp 23))] none) (.cond (.tmp 24) (.seq (.reg [qq 4 (.mv (kb false))]) .ret) .skip)))) (.reg [qq 25 (.bin .add (.tmp 13) (ki 1)), qm 13 25]))))
def c11 : MC := (.seq (.reg [qq 4 (.mv (kb false))]) (.seq (.seq (.reg [qm 6 0, qq 7 (.len (.tmp 6)), qm 8 1, qq 9 (.len (.tmp 8)), qq 10 (.bin .neq (.tmp 7) (.tmp 9))]) (.cond (.tmp 10) (.seq (.reg [qq 4 (.mv (kb false))]) .ret) .skip)) (.seq (.seq (.reg [qm 11 0, qq 12 (.len (.tmp 11)), qq 13 (.mv (ki 0))]) (.blk 0 (.loop c11l1))) (.seq (.reg [qq 4 (.mv (kb true))]) .ret))))
theorem k11 : conv Try.prog 26 (Try.f11.body.getD .skip) = c11 := by kernel_rfl
theorem in11 {a0 a1 : Value} {w : World} {R : Value → World → Prop} (h : G Try.prog Try.f11 26 [.c c11] R (frL 0 [a0, a1]) w) : Ret Try.prog 11 #[a0, a1] w R := G.enter (args := [a0, a1]) Try.func11 (c := Try.f11.body.getD .skip) (by kernel_rfl) (by kernel_rfl) (by simp) k11 h
theorem same05_spec {va vb : Value} {a b : List Str} {w : World} (ha : Rd w eS va a) (hb : Rd w eS vb b) : Pu Try.prog 11 #[va, vb] w (.bool (decide (a = b))) := by
  refine in11 ?_
  have hS := Sep.start w
  have hbd := ha.bd
  repeat' (first | ((with_reducible apply G.a); exact rfl) | refine G.reg fun K hK => ?_ | (with_reducible (refine hK _ _ ?_); clear hK K) | (with_reducible (refine hK _ ?_); clear hK K; intro wd hxd; have hS := Sep.xx hxd) | (have hk := hK; clear hk; simp (disch := first | exact dis | fail) only [push_cast, ↓reduceIte, Nat.reduceAdd, Nat.reduceLeDiff, Nat.reduceEqDiff, Nat.reduceLT, Int.reduceToNat, fct]) | refine G.drg mixed fun K hK => ?_ | (refine G.cn ?_ ?_ <;> intro hc <;> first | (with_reducible exact False.elim hc) | (exfalso; omega) | skip))
  · (first | refine G.r1 ?_ | refine G.r2 ?_ | refine G.r3 ?_ | refine G.r0 ?_ | refine G.d0 ?_); (try simp (disch := first | exact dis | fail) only [push_cast, ↓reduceIte, Nat.reduceAdd, Nat.reduceLeDiff, Nat.reduceEqDiff, Nat.reduceLT, Int.reduceToNat, fct])
    (refine ⟨?_, Sep.xt (by assumption)⟩)
    rw [decide_eq_false (fun h => hc (by rw [h]))]
  · refine G.loop (fun r w' => ∃ k : Nat, k ≤ a.length ∧ r 13 = I k ∧ r 12 = I a.length ∧ r 0 = va ∧ r 1 = vb ∧ a.take k = b.take k ∧ Sep w w' []) (fun r _ => a.length - toN (r 13)) ?_ ?_
    · refine ⟨0, ?_⟩
      ((repeat' apply And.intro) <;> first | exact dj | (simp only [push_cast, ↓reduceIte, Nat.reduceAdd, Nat.reduceLeDiff, Nat.reduceEqDiff, Nat.reduceLT, Int.reduceToNat] <;> omega) | skip)
    · rintro u wl ⟨k, hk, h13, h12, h0, h1, e, hS⟩ ih
      (have fct := (And.intro @h13 (And.intro @h12 (And.intro @h0 @h1))); repeat' (first | ((with_reducible apply G.a); exact rfl) | refine G.reg fun K hK => ?_ | (with_reducible (refine hK _ _ ?_); clear hK K) | (with_reducible (refine hK _ ?_); clear hK K; intro wd hxd; have hS := Sep.xx hxd) | (have hk := hK; clear hk; simp (disch := first | exact dis | fail) only [push_cast, ↓reduceIte, Nat.reduceAdd, Nat.reduceLeDiff, Nat.reduceEqDiff, Nat.reduceLT, Int.reduceToNat, fct]) | refine G.drg mixed fun K hK => ?_ | (refine G.cn ?_ ?_ <;> intro hc <;> first | (with_reducible exact False.elim hc) | (exfalso; omega) | skip))) <;> (try clear fct)
      · (have fct := (And.intro @h13 (And.intro @h12 (And.intro @h0 @h1))); (first | refine G.r1 ?_ | refine G.r2 ?_ | refine G.r3 ?_ | refine G.r0 ?_ | refine G.d0 ?_); (try simp (disch := first | exact dis | fail) only [push_cast, ↓reduceIte, Nat.reduceAdd, Nat.reduceLeDiff, Nat.reduceEqDiff, Nat.reduceLT, Int.reduceToNat, fct]); (try clear fct))
        (refine ⟨?_, Sep.xt (by assumption)⟩)
        rw [decide_eq_false (same_no a b k hc)]
      · (refine ih _ _ ⟨k + 1, ?_⟩ ?_; rotate_left; (focus ((simp only [push_cast, ↓reduceIte, Nat.reduceAdd, Nat.reduceLeDiff, Nat.reduceEqDiff, Nat.reduceLT, Int.reduceToNat, toN_i, h13, h12, h0, h1] <;> omega))); ((repeat' apply And.intro) <;> first | exact dj | (simp only [push_cast, ↓reduceIte, Nat.reduceAdd, Nat.reduceLeDiff, Nat.reduceEqDiff, Nat.reduceLT, Int.reduceToNat, h13, h12, h0, h1] <;> omega) | skip))
        exact same_step a b k (by omega) (by assumption) e hc
      · (have fct := (And.intro @h13 (And.intro @h12 (And.intro @h0 @h1))); (first | refine G.r1 ?_ | refine G.r2 ?_ | refine G.r3 ?_ | refine G.r0 ?_ | refine G.d0 ?_); (try simp (disch := first | exact dis | fail) only [push_cast, ↓reduceIte, Nat.reduceAdd, Nat.reduceLeDiff, Nat.reduceEqDiff, Nat.reduceLT, Int.reduceToNat, fct]); (try clear fct))
        (refine ⟨?_, Sep.xt (by assumption)⟩)
        rw [List.take_of_length_le (by omega), List.take_of_length_le (by omega)] at e
        rw [decide_eq_true e]
end Go.Proofs.Ytdikpaochhacmaa
