/- Chapter 15: walks. -/
import Derived.Test.YtdhieolfdlkeaaaMc
import Derived.Test.YtdhieolfdlkeaaaP15
import Derived.Test.YtdhieolfdlkeaaaS02
import Derived.Test.YtdhieolfdlkeaaaW02
namespace Go.Proofs.Ytdhieolfdlkeaaa
set_option linter.unusedSimpArgs false
set_option linter.unusedVariables false
attribute [local irreducible] SemK UnitK StK AlcK BslK CallK CallV Instr.box Builtin.append_ Instr.makeSlice Instr.makeMap Instr.lookup Instr.mapUpdate Instr.sliceAt convert
open Go.RowKit
def c67 : MC := (.seq (.reg [qq 2 (.mv (.const (.slice none 0 0)))]) (.seq (.seq (.reg [qm 3 0, qq 4 (.raw (.binOp .eql 47 (.tmp 3) (.const (.slice none 0 0)) 47) 4)]) (.cond (.tmp 4) (.seq (.reg [qq 2 (.mv (.const (.slice none 0 0)))]) .ret) .skip)) (.seq (.reg [qq 5 (.bsl 9 [] 0 []), qm 6 0, qq 7 (.raw (.call ⟨(.builtin .append), #[(.tmp 5), (.tmp 6)], #[47, 47]⟩) 47), qm 2 7]) .ret)))
theorem k67 : conv Try.prog 8 (Try.f67.body.getD .skip) = c67 := by kernel_rfl
theorem in67 {a0 : Value} {w : World} {R : Value → World → Prop} (h : G Try.prog Try.f67 8 [.c c67] R (frL 0 [a0]) w) : Ret Try.prog 67 #[a0] w R := G.enter (args := [a0]) Try.func67 (c := Try.f67.body.getD .skip) (by kernel_rfl) (by kernel_rfl) (by simp) k67 h
theorem clone_spec {v : Value} {l : List Str} {w : World} (hr : Rd w eS v l) (hl : l.length ≤ 1000000000000) : Ret Try.prog 67 #[v] w fun v' w' => Sep w w' [accC v' 9 eS l] := by
  refine in67 ?_
  have hS := Sep.start w
  repeat' (first | ((with_reducible apply G.a); exact rfl) | refine G.reg fun K hK => ?_ | (with_reducible (refine hK _ _ ?_); clear hK K) | (have hk := hK; clear hk; simp (disch := first | exact dis | fail) only [push_cast, ↓reduceIte, Nat.reduceAdd, Nat.reduceLeDiff, Nat.reduceEqDiff, Nat.reduceLT, Int.reduceToNat, fct]) | (refine zbsl ?_; intro gb wb hS) | (refine zn1 ?_) | (refine zn2 ?_) | (refine zn3 ?_) | (refine zn4 ?_) | (refine G.cn ?_ ?_ <;> intro hc <;> first | (with_reducible exact False.elim hc) | (exfalso; omega) | skip))
  · obtain ⟨p, cap, rfl, h2, h3, h4, h5⟩ := hr
    have : l = [] := by
      rcases Nat.eq_zero_or_pos l.length with h | h
      · exact List.eq_nil_of_length_eq_zero h
      · obtain ⟨a, ha, _⟩ := h5 h; subst ha; simp [isNil] at hc
    subst this
    (first | refine G.r1 ?_ | refine G.r2 ?_ | refine G.r3 ?_ | refine G.r0 ?_ | refine G.d0 ?_); (try simp (disch := first | exact dis | fail) only [push_cast, ↓reduceIte, Nat.reduceAdd, Nat.reduceLeDiff, Nat.reduceEqDiff, Nat.reduceLT, Int.reduceToNat, fct])
    exact hS.nil _ _
  · have hS := Sep.toAcc (E := eS) ([] : List Str) hS Up.h rfl rfl (by simp) (by simp)
    ((refine zan ?_; intro vb wb hS))
    repeat' (first | ((with_reducible apply G.a); exact rfl) | refine G.reg fun K hK => ?_ | (with_reducible (refine hK _ _ ?_); clear hK K) | (have hk := hK; clear hk; simp (disch := first | exact dis | fail) only [push_cast, ↓reduceIte, Nat.reduceAdd, Nat.reduceLeDiff, Nat.reduceEqDiff, Nat.reduceLT, Int.reduceToNat, fct]) | (refine zbsl ?_; intro gb wb hS) | (refine G.cn ?_ ?_ <;> intro hc <;> first | (with_reducible exact False.elim hc) | (exfalso; omega) | skip))
    repeat' (first | ((with_reducible apply G.a); exact rfl) | refine G.reg fun K hK => ?_ | (with_reducible (refine hK _ _ ?_); clear hK K) | (have hk := hK; clear hk; simp (disch := first | exact dis | fail) only [push_cast, ↓reduceIte, Nat.reduceAdd, Nat.reduceLeDiff, Nat.reduceEqDiff, Nat.reduceLT, Int.reduceToNat, fct]) | (refine zbsl ?_; intro gb wb hS) | (refine G.cn ?_ ?_ <;> intro hc <;> first | (with_reducible exact False.elim hc) | (exfalso; omega) | skip))
    (first | refine G.r1 ?_ | refine G.r2 ?_ | refine G.r3 ?_ | refine G.r0 ?_ | refine G.d0 ?_); (try simp (disch := first | exact dis | fail) only [push_cast, ↓reduceIte, Nat.reduceAdd, Nat.reduceLeDiff, Nat.reduceEqDiff, Nat.reduceLT, Int.reduceToNat, fct])
    exact hS
end Go.Proofs.Ytdhieolfdlkeaaa
