/- Chapter 15: walks. -/
import Derived.Test.YtdhieolfdlkeaaaMc
import Derived.Test.YtdhieolfdlkeaaaP15
import Derived.Test.YtdhieolfdlkeaaaS02
import Derived.Test.YtdhieolfdlkeaaaW02
namespace Go.Proofs.Ytdhieolfdlkeaaa
set_option linter.unusedSimpArgs false
set_option linter.unusedVariables false
attribute [local irreducible] SemK UnitK StK AlcK BslK CallK CallV Instr.box Builtin.append_ Instr.makeSlice Instr.makeMap Instr.lookup Instr.mapUpdate Instr.sliceAt convert
open Go.RowKit
def c67 : MC := (.seq (.reg [qq 2 (.mv (.const (.slice none 0 0)))]) (.seq (.seq (.reg [qm 3 0, qq 4 (.raw (.binOp .eql 47 (.tmp 3) (.const (.slice none 0 0)) 47) 4)]) (.cond (.tmp 4) (.seq (.reg [qq 2 (.mv (.const (.slice none 0 0)))]) .ret) .skip)) (.seq (.reg [qq 5 (.bsl 9 [] 0 []), qm 6 0, qq 7 (.raw (.call ⟨(.builtin .append), #[(.tmp 5), (.tmp 6)], #[47, 47]⟩) 47), qm 2 7]) .ret)))
theorem k67 : conv Try.prog 8 (Try.f67.body.getD .skip) = c67 := by kernel_rfl
theorem in67 {a0 : Value} {w : World} {R : Value → World → Prop} (h : G Try.prog Try.f67 8 [.c c67] R (frL 0 [a0]) w) : Ret Try.prog 67 #[a0] w R := G.enter (args := [a0]) Try.func67 (c := Try.f67.body.getD .skip) (by kernel_rfl) (by kernel_rfl) (by simp) k67 h
theorem clone_spec {v : Value} {l : List Str} {w : World} (hr : Rd w eS v l) (hl : l.length ≤ 1000000000000) : Ret Try.prog 67 #[v] w fun v' w' => Sep w w' [accC v' 9 eS l] := by
  refine in67 ?_
  have hS := Sep.start w
  repeat' (first | ((with_reducible apply G.a); exact rfl) | refine G.reg fun K hK => ?_ | (with_reducible (refine hK _ _ ?_); clear hK K) | (have hk := hK; clear hk; simp (disch := (first | exact dis | fail)) only [push_cast, ↓reduceIte, Nat.reduceAdd, Nat.reduceLeDiff, Nat.reduceEqDiff, Nat.reduceLT, Int.reduceToNat, fct]) | (refine brO_n ?_ ?_ <;> intro hb hc <;> first | (with_reducible exact False.elim hc) | (exfalso; omega) | (simp only [hb]; clear hb)) | ((first | refine zalc ?_ | refine zbsl ?_ | ((with_reducible refine gBox ?_); refine zbox ?_)); intro gb wb hS) | ((with_reducible refine gSt ?_); refine zs2 ?_; intro wb hS) | (refine zcv ?_) | (refine zn1 ?_) | (refine zn2 ?_) | (refine zn3 ?_) | (refine zn4 ?_) | (refine G.cn ?_ ?_ <;> intro hc <;> first | (with_reducible exact False.elim hc) | (exfalso; omega) | skip))
  · obtain ⟨p, cap, rfl, h2, h3, h4, h5⟩ := hr
    have : l = [] := by
      rcases Nat.eq_zero_or_pos l.length with h | h
      · exact List.eq_nil_of_length_eq_zero h
      · obtain ⟨a, ha, _⟩ := h5 h; subst ha; simp [isNil] at hc
    subst this
    ((first | apply G.rv1 rfl | apply G.rv2 rfl | apply G.rv3 rfl | apply G.ret0 rfl) <;> first | exact RV.tmp | exact zag2 | skip); (try simp (disch := (first | exact dis | fail)) only [push_cast, ↓reduceIte, Nat.reduceAdd, Nat.reduceLeDiff, Nat.reduceEqDiff, Nat.reduceLT, Int.reduceToNat, fct])
    exact hS.nil _ _
  · have hS := Sep.toAcc (E := eS) ([] : List Str) hS Up.h rfl rfl (by simp) (by simp)
    ((refine zan ?_; intro vb wb hS))
    repeat' (first | ((with_reducible apply G.a); exact rfl) | refine G.reg fun K hK => ?_ | (with_reducible (refine hK _ _ ?_); clear hK K) | (with_reducible (refine hK _ ?_); clear hK K; intro wd hxd; have hS := Sep.xx hxd) | ((first | have hk := hK | have hk := hK2); clear hk; simp (disch := (first | exact dis | fail)) only [push_cast, ↓reduceIte, Nat.reduceAdd, Nat.reduceLeDiff, Nat.reduceEqDiff, Nat.reduceLT, Int.reduceToNat, fct]) | ((first | refine brO_n ?_ ?_ | refine brQ_n ?_ ?_) <;> intro hb hc <;> first | (with_reducible exact False.elim hc) | (exfalso; omega) | (simp only [hb]; clear hb)) | ((first | refine zalc ?_ | refine zbsl ?_ | ((with_reducible refine gBox ?_); refine zbox ?_)); intro gb wb hS) | ((with_reducible refine gSt ?_); refine zs2 ?_; intro wb hS) | (refine zcv ?_)  | (refine G.drt mixed fun K hK wd hxd => ?_; have hS := Sep.xx hxd) | with_reducible refine OT_leaf ?_ | (with_reducible refine OT_tail fun K2 hK2 => ?_) | (with_reducible (refine hK2 _ ?_); clear hK2 K2; intro wd hxd; have hS := Sep.xx hxd) | with_reducible refine OT_br fun K2 hK2 => ?_ | (refine hK2 _ _ ?_ ?_ <;> clear hK2 K2) | refine G.drg mixed fun K hK => ?_ | (refine G.cn ?_ ?_ <;> intro hc <;> first | (with_reducible exact False.elim hc) | (exfalso; omega) | skip))
    repeat' (first | ((with_reducible apply G.a); exact rfl) | refine G.reg fun K hK => ?_ | (with_reducible (refine hK _ _ ?_); clear hK K) | (have hk := hK; clear hk; simp (disch := (first | exact dis | fail)) only [push_cast, ↓reduceIte, Nat.reduceAdd, Nat.reduceLeDiff, Nat.reduceEqDiff, Nat.reduceLT, Int.reduceToNat, fct]) | (refine brO_n ?_ ?_ <;> intro hb hc <;> first | (with_reducible exact False.elim hc) | (exfalso; omega) | (simp only [hb]; clear hb)) | ((first | refine zalc ?_ | refine zbsl ?_ | ((with_reducible refine gBox ?_); refine zbox ?_)); intro gb wb hS) | ((with_reducible refine gSt ?_); refine zs2 ?_; intro wb hS) | (refine zcv ?_)  | (refine G.cn ?_ ?_ <;> intro hc <;> first | (with_reducible exact False.elim hc) | (exfalso; omega) | skip))
    ((first | apply G.rv1 rfl | apply G.rv2 rfl | apply G.rv3 rfl | apply G.ret0 rfl) <;> first | exact RV.tmp | exact zag2 | skip); (try simp (disch := (first | exact dis | fail)) only [push_cast, ↓reduceIte, Nat.reduceAdd, Nat.reduceLeDiff, Nat.reduceEqDiff, Nat.reduceLT, Int.reduceToNat, fct])
    exact hS
end Go.Proofs.Ytdhieolfdlkeaaa
