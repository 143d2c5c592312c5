/- Texts of the proof, joined. -/
import Derived.Test.YtjajihaeoolefaaDooryZ25
namespace Go.Proofs.YtjajihaeoolefaaDoor
set_option linter.unusedSimpArgs false
set_option linter.unusedVariables false
attribute [local irreducible] SemK UnitK StK AlcK BslK CallK CallV Instr.box Builtin.append_ Instr.makeSlice Instr.makeMap Instr.lookup Instr.mapUpdate Instr.sliceAt convert
open Go.RowKit
theorem nil_of_isNil {α : Type} {E : Enc α} {v : Value} {l : List α} {w : World} (hr : Rd w E v l) (hc : isNil v = true) : l = [] := by
  obtain ⟨p, cap, rfl, h2, h3, h4, h5⟩ := hr
  rcases Nat.eq_zero_or_pos l.length with h | h
  · exact List.eq_nil_of_length_eq_zero h
  · obtain ⟨a, ha, _⟩ := h5 h; subst ha; simp [isNil] at hc
def c29 : MC := (.seq (.reg [qq 2 (.mv (.const (.slice none 0 0)))]) (.seq (.seq (.reg [qm 3 0, qq 4 (.raw (.binOp .eql 32 (.tmp 3) (.const (.slice none 0 0)) 32) 4)]) (.cond (.tmp 4) (.seq (.reg [qq 2 (.mv (.const (.slice none 0 0)))]) .ret) .skip)) (.seq (.reg [qq 5 (.bsl 69 [] 0 []), qm 6 0, qq 7 (.raw (.call ⟨(.builtin .append), #[(.tmp 5), (.tmp 6)], #[32, 32]⟩) 32), qm 2 7]) .ret)))
theorem k29 : conv Tryd.prog 8 (Tryd.f29.body.getD .skip) = c29 := by kernel_rfl
theorem in29 {a0 : Value} {w : World} {R : Value → World → Prop} (h : G Tryd.prog Tryd.f29 8 [.c c29] R (frL 0 [a0]) w) : Ret Tryd.prog 29 #[a0] w R := G.enter (args := [a0]) Tryd.func29 (c := Tryd.f29.body.getD .skip) (by kernel_rfl) (by kernel_rfl) (by simp) k29 h
theorem cloneV_spec {v : Value} {l : List Val} {w : World} (hr : Rd w eVal v l) (hl : l.length ≤ 1000000000) : Ret Tryd.prog 29 #[v] w fun v' w' => Sep w w' [accC v' 69 eVal l] := by
  refine in29 ?_
  have hS := Sep.start w
  repeat' (first | ((with_reducible apply G.a); exact rfl) | refine G.reg fun K hK => ?_ | (with_reducible (refine hK _ _ ?_); clear hK K) | (with_reducible (refine hK _ ?_); clear hK K; intro wd hxd; have hS := Sep.xx hxd) | ((first | have hk := hK | have hk := hK2); clear hk; simp (disch := first | exact dis | fail) only [push_cast, ↓reduceIte, Nat.reduceAdd, Nat.reduceLeDiff, Nat.reduceEqDiff, Nat.reduceLT, Int.reduceToNat, fct]) | ((first | refine brO_n ?_ ?_ | refine brQ_n ?_ ?_) <;> intro hb hc <;> first | (with_reducible exact False.elim hc) | (exfalso; omega) | (simp only [hb]; clear hb)) | ((first | refine zalc ?_ | refine zbsl ?_ | ((with_reducible refine gBox ?_); refine zbox ?_)); intro gb wb hS) | ((with_reducible refine gSt ?_); refine zs2 ?_; intro wb hS) | (refine zcv ?_) | (refine zn1 ?_) | (refine zn2 ?_) | (refine zn3 ?_) | (refine zn4 ?_) | (refine G.drt mixed fun K hK wd hxd => ?_; have hS := Sep.xx hxd) | with_reducible refine OT_leaf ?_ | (with_reducible refine OT_tail fun K2 hK2 => ?_) | (with_reducible (refine hK2 _ ?_); clear hK2 K2; intro wd hxd; have hS := Sep.xx hxd) | with_reducible refine OT_br fun K2 hK2 => ?_ | (refine hK2 _ _ ?_ ?_ <;> clear hK2 K2) | refine G.drg mixed fun K hK => ?_ | (refine G.cn ?_ ?_ <;> intro hc <;> first | (with_reducible exact False.elim hc) | (exfalso; omega) | skip))
  · have : l = [] := nil_of_isNil hr hc
    subst this
    (first | refine G.r1 ?_ | refine G.r2 ?_ | refine G.r3 ?_ | refine G.r0 ?_ | refine G.d0 ?_); (try simp (disch := first | exact dis | fail) only [push_cast, ↓reduceIte, Nat.reduceAdd, Nat.reduceLeDiff, Nat.reduceEqDiff, Nat.reduceLT, Int.reduceToNat, fct])
    exact hS.nil _ _
  · have hS := Sep.toAcc (E := eVal) ([] : List Val) hS Up.h rfl rfl (by simp) (by simp)
    ((refine zan ?_; intro vb wb hS))
    repeat' (first | ((with_reducible apply G.a); exact rfl) | refine G.reg fun K hK => ?_ | (with_reducible (refine hK _ _ ?_); clear hK K) | (with_reducible (refine hK _ ?_); clear hK K; intro wd hxd; have hS := Sep.xx hxd) | ((first | have hk := hK | have hk := hK2); clear hk; simp (disch := first | exact dis | fail) only [push_cast, ↓reduceIte, Nat.reduceAdd, Nat.reduceLeDiff, Nat.reduceEqDiff, Nat.reduceLT, Int.reduceToNat, fct]) | ((first | refine brO_n ?_ ?_ | refine brQ_n ?_ ?_) <;> intro hb hc <;> first | (with_reducible exact False.elim hc) | (exfalso; omega) | (simp only [hb]; clear hb)) | ((first | refine zalc ?_ | refine zbsl ?_ | ((with_reducible refine gBox ?_); refine zbox ?_)); intro gb wb hS) | ((with_reducible refine gSt ?_); refine zs2 ?_; intro wb hS) | (refine zcv ?_) | (refine G.drt mixed fun K hK wd hxd => ?_; have hS := Sep.xx hxd) | with_reducible refine OT_leaf ?_ | (with_reducible refine OT_tail fun K2 hK2 => ?_) | (with_reducible (refine hK2 _ ?_); clear hK2 K2; intro wd hxd; have hS := Sep.xx hxd) | with_reducible refine OT_br fun K2 hK2 => ?_ | (refine hK2 _ _ ?_ ?_ <;> clear hK2 K2) | refine G.drg mixed fun K hK => ?_ | (refine G.cn ?_ ?_ <;> intro hc <;> first | (with_reducible exact False.elim hc) | (exfalso; omega) | skip))
    repeat' (first | ((with_reducible apply G.a); exact rfl) | refine G.reg fun K hK => ?_ | (with_reducible (refine hK _ _ ?_); clear hK K) | (with_reducible (refine hK _ ?_); clear hK K; intro wd hxd; have hS := Sep.xx hxd) | ((first | have hk := hK | have hk := hK2); clear hk; simp (disch := first | exact dis | fail) only [push_cast, ↓reduceIte, Nat.reduceAdd, Nat.reduceLeDiff, Nat.reduceEqDiff, Nat.reduceLT, Int.reduceToNat, fct]) | ((first | refine brO_n ?_ ?_ | refine brQ_n ?_ ?_) <;> intro hb hc <;> first | (with_reducible exact False.elim hc) | (exfalso; omega) | (simp only [hb]; clear hb)) | ((first | refine zalc ?_ | refine zbsl ?_ | ((with_reducible refine gBox ?_); refine zbox ?_)); intro gb wb hS) | ((with_reducible refine gSt ?_); refine zs2 ?_; intro wb hS) | (refine zcv ?_) | (refine G.drt mixed fun K hK wd hxd => ?_; have hS := Sep.xx hxd) | with_reducible refine OT_leaf ?_ | (with_reducible refine OT_tail fun K2 hK2 => ?_) | (with_reducible (refine hK2 _ ?_); clear hK2 K2; intro wd hxd; have hS := Sep.xx hxd) | with_reducible refine OT_br fun K2 hK2 => ?_ | (refine hK2 _ _ ?_ ?_ <;> clear hK2 K2) | refine G.drg mixed fun K hK => ?_ | (refine G.cn ?_ ?_ <;> intro hc <;> first | (with_reducible exact False.elim hc) | (exfalso; omega) | skip))
    (first | refine G.r1 ?_ | refine G.r2 ?_ | refine G.r3 ?_ | refine G.r0 ?_ | refine G.d0 ?_); (try simp (disch := first | exact dis | fail) only [push_cast, ↓reduceIte, Nat.reduceAdd, Nat.reduceLeDiff, Nat.reduceEqDiff, Nat.reduceLT, Int.reduceToNat, fct])
    exact hS
def c24 : MC := (.seq (.reg [qq 2 (.mv (.const (.slice none 0 0)))]) (.seq (.seq (.reg [qm 3 0, qq 4 (.raw (.binOp .eql 23 (.tmp 3) (.const (.slice none 0 0)) 23) 4)]) (.cond (.tmp 4) (.seq (.reg [qq 2 (.mv (.const (.slice none 0 0)))]) .ret) .skip)) (.seq (.reg [qq 5 (.bsl 32 [] 0 []), qm 6 0, qq 7 (.raw (.call ⟨(.builtin .append), #[(.tmp 5), (.tmp 6)], #[23, 23]⟩) 23), qm 2 7]) .ret)))
theorem k24 : conv Tryd.prog 8 (Tryd.f24.body.getD .skip) = c24 := by kernel_rfl
theorem in24 {a0 : Value} {w : World} {R : Value → World → Prop} (h : G Tryd.prog Tryd.f24 8 [.c c24] R (frL 0 [a0]) w) : Ret Tryd.prog 24 #[a0] w R := G.enter (args := [a0]) Tryd.func24 (c := Tryd.f24.body.getD .skip) (by kernel_rfl) (by kernel_rfl) (by simp) k24 h
theorem cloneT_spec {v : Value} {l : List Value} {w : World} (hr : Rd w eV v l) (hl : l.length ≤ 1000000000) : Ret Tryd.prog 24 #[v] w fun v' w' => Sep w w' [accC v' 32 eV l] := by
  refine in24 ?_
  have hS := Sep.start w
  repeat' (first | ((with_reducible apply G.a); exact rfl) | refine G.reg fun K hK => ?_ | (with_reducible (refine hK _ _ ?_); clear hK K) | (with_reducible (refine hK _ ?_); clear hK K; intro wd hxd; have hS := Sep.xx hxd) | ((first | have hk := hK | have hk := hK2); clear hk; simp (disch := first | exact dis | fail) only [push_cast, ↓reduceIte, Nat.reduceAdd, Nat.reduceLeDiff, Nat.reduceEqDiff, Nat.reduceLT, Int.reduceToNat, fct]) | ((first | refine brO_n ?_ ?_ | refine brQ_n ?_ ?_) <;> intro hb hc <;> first | (with_reducible exact False.elim hc) | (exfalso; omega) | (simp only [hb]; clear hb)) | ((first | refine zalc ?_ | refine zbsl ?_ | ((with_reducible refine gBox ?_); refine zbox ?_)); intro gb wb hS) | ((with_reducible refine gSt ?_); refine zs2 ?_; intro wb hS) | (refine zcv ?_) | (refine zn1 ?_) | (refine zn2 ?_) | (refine zn3 ?_) | (refine zn4 ?_) | (refine G.drt mixed fun K hK wd hxd => ?_; have hS := Sep.xx hxd) | with_reducible refine OT_leaf ?_ | (with_reducible refine OT_tail fun K2 hK2 => ?_) | (with_reducible (refine hK2 _ ?_); clear hK2 K2; intro wd hxd; have hS := Sep.xx hxd) | with_reducible refine OT_br fun K2 hK2 => ?_ | (refine hK2 _ _ ?_ ?_ <;> clear hK2 K2) | refine G.drg mixed fun K hK => ?_ | (refine G.cn ?_ ?_ <;> intro hc <;> first | (with_reducible exact False.elim hc) | (exfalso; omega) | skip))
  · have : l = [] := nil_of_isNil hr hc
    subst this
    (first | refine G.r1 ?_ | refine G.r2 ?_ | refine G.r3 ?_ | refine G.r0 ?_ | refine G.d0 ?_); (try simp (disch := first | exact dis | fail) only [push_cast, ↓reduceIte, Nat.reduceAdd, Nat.reduceLeDiff, Nat.reduceEqDiff, Nat.reduceLT, Int.reduceToNat, fct])
    exact hS.nil _ _
  · have hS := Sep.toAcc (E := eV) ([] : List Value) hS Up.h rfl rfl (by simp) (by simp)
    ((refine zan ?_; intro vb wb hS))
    repeat' (first | ((with_reducible apply G.a); exact rfl) | refine G.reg fun K hK => ?_ | (with_reducible (refine hK _ _ ?_); clear hK K) | (with_reducible (refine hK _ ?_); clear hK K; intro wd hxd; have hS := Sep.xx hxd) | ((first | have hk := hK | have hk := hK2); clear hk; simp (disch := first | exact dis | fail) only [push_cast, ↓reduceIte, Nat.reduceAdd, Nat.reduceLeDiff, Nat.reduceEqDiff, Nat.reduceLT, Int.reduceToNat, fct]) | ((first | refine brO_n ?_ ?_ | refine brQ_n ?_ ?_) <;> intro hb hc <;> first | (with_reducible exact False.elim hc) | (exfalso; omega) | (simp only [hb]; clear hb)) | ((first | refine zalc ?_ | refine zbsl ?_ | ((with_reducible refine gBox ?_); refine zbox ?_)); intro gb wb hS) | ((with_reducible refine gSt ?_); refine zs2 ?_; intro wb hS) | (refine zcv ?_) | (refine G.drt mixed fun K hK wd hxd => ?_; have hS := Sep.xx hxd) | with_reducible refine OT_leaf ?_ | (with_reducible refine OT_tail fun K2 hK2 => ?_) | (with_reducible (refine hK2 _ ?_); clear hK2 K2; intro wd hxd; have hS := Sep.xx hxd) | with_reducible refine OT_br fun K2 hK2 => ?_ | (refine hK2 _ _ ?_ ?_ <;> clear hK2 K2) | refine G.drg mixed fun K hK => ?_ | (refine G.cn ?_ ?_ <;> intro hc <;> first | (with_reducible exact False.elim hc) | (exfalso; omega) | skip))
    repeat' (first | ((with_reducible apply G.a); exact rfl) | refine G.reg fun K hK => ?_ | (with_reducible (refine hK _ _ ?_); clear hK K) | (with_reducible (refine hK _ ?_); clear hK K; intro wd hxd; have hS := Sep.xx hxd) | ((first | have hk := hK | have hk := hK2); clear hk; simp (disch := first | exact dis | fail) only [push_cast, ↓reduceIte, Nat.reduceAdd, Nat.reduceLeDiff, Nat.reduceEqDiff, Nat.reduceLT, Int.reduceToNat, fct]) | ((first | refine brO_n ?_ ?_ | refine brQ_n ?_ ?_) <;> intro hb hc <;> first | (with_reducible exact False.elim hc) | (exfalso; omega) | (simp only [hb]; clear hb)) | ((first | refine zalc ?_ | refine zbsl ?_ | ((with_reducible refine gBox ?_); refine zbox ?_)); intro gb wb hS) | ((with_reducible refine gSt ?_); refine zs2 ?_; intro wb hS) | (refine zcv ?_) | (refine G.drt mixed fun K hK wd hxd => ?_; have hS := Sep.xx hxd) | with_reducible refine OT_leaf ?_ | (with_reducible refine OT_tail fun K2 hK2 => ?_) | (with_reducible (refine hK2 _ ?_); clear hK2 K2; intro wd hxd; have hS := Sep.xx hxd) | with_reducible refine OT_br fun K2 hK2 => ?_ | (refine hK2 _ _ ?_ ?_ <;> clear hK2 K2) | refine G.drg mixed fun K hK => ?_ | (refine G.cn ?_ ?_ <;> intro hc <;> first | (with_reducible exact False.elim hc) | (exfalso; omega) | skip))
    (first | refine G.r1 ?_ | refine G.r2 ?_ | refine G.r3 ?_ | refine G.r0 ?_ | refine G.d0 ?_); (try simp (disch := first | exact dis | fail) only [push_cast, ↓reduceIte, Nat.reduceAdd, Nat.reduceLeDiff, Nat.reduceEqDiff, Nat.reduceLT, Int.reduceToNat, fct])
    exact hS
def c28 : MC := (.seq (.reg [qq 2 (.mv (.const (.slice none 0 0)))]) (.seq (.seq (.reg [qm 3 0, qq 4 (.raw (.binOp .eql 22 (.tmp 3) (.const (.slice none 0 0)) 22) 4)]) (.cond (.tmp 4) (.seq (.reg [qq 2 (.mv (.const (.slice none 0 0)))]) .ret) .skip)) (.seq (.reg [qq 5 (.bsl 88 [] 0 []), qm 6 0, qq 7 (.raw (.call ⟨(.builtin .append), #[(.tmp 5), (.tmp 6)], #[22, 22]⟩) 22), qm 2 7]) .ret)))
theorem k28 : conv Tryd.prog 8 (Tryd.f28.body.getD .skip) = c28 := by kernel_rfl
theorem in28 {a0 : Value} {w : World} {R : Value → World → Prop} (h : G Tryd.prog Tryd.f28 8 [.c c28] R (frL 0 [a0]) w) : Ret Tryd.prog 28 #[a0] w R := G.enter (args := [a0]) Tryd.func28 (c := Tryd.f28.body.getD .skip) (by kernel_rfl) (by kernel_rfl) (by simp) k28 h
theorem cloneC_spec {v : Value} {l : List Col} {w : World} (hr : Rd w eC v l) (hl : l.length ≤ 1000000000) : Ret Tryd.prog 28 #[v] w fun v' w' => Sep w w' [accC v' 88 eC l] := by
  refine in28 ?_
  have hS := Sep.start w
  repeat' (first | ((with_reducible apply G.a); exact rfl) | refine G.reg fun K hK => ?_ | (with_reducible (refine hK _ _ ?_); clear hK K) | (with_reducible (refine hK _ ?_); clear hK K; intro wd hxd; have hS := Sep.xx hxd) | ((first | have hk := hK | have hk := hK2); clear hk; simp (disch := first | exact dis | fail) only [push_cast, ↓reduceIte, Nat.reduceAdd, Nat.reduceLeDiff, Nat.reduceEqDiff, Nat.reduceLT, Int.reduceToNat, fct]) | ((first | refine brO_n ?_ ?_ | refine brQ_n ?_ ?_) <;> intro hb hc <;> first | (with_reducible exact False.elim hc) | (exfalso; omega) | (simp only [hb]; clear hb)) | ((first | refine zalc ?_ | refine zbsl ?_ | ((with_reducible refine gBox ?_); refine zbox ?_)); intro gb wb hS) | ((with_reducible refine gSt ?_); refine zs2 ?_; intro wb hS) | (refine zcv ?_) | (refine zn1 ?_) | (refine zn2 ?_) | (refine zn3 ?_) | (refine zn4 ?_) | (refine G.drt mixed fun K hK wd hxd => ?_; have hS := Sep.xx hxd) | with_reducible refine OT_leaf ?_ | (with_reducible refine OT_tail fun K2 hK2 => ?_) | (with_reducible (refine hK2 _ ?_); clear hK2 K2; intro wd hxd; have hS := Sep.xx hxd) | with_reducible refine OT_br fun K2 hK2 => ?_ | (refine hK2 _ _ ?_ ?_ <;> clear hK2 K2) | refine G.drg mixed fun K hK => ?_ | (refine G.cn ?_ ?_ <;> intro hc <;> first | (with_reducible exact False.elim hc) | (exfalso; omega) | skip))
  · have : l = [] := nil_of_isNil hr hc
    subst this
    (first | refine G.r1 ?_ | refine G.r2 ?_ | refine G.r3 ?_ | refine G.r0 ?_ | refine G.d0 ?_); (try simp (disch := first | exact dis | fail) only [push_cast, ↓reduceIte, Nat.reduceAdd, Nat.reduceLeDiff, Nat.reduceEqDiff, Nat.reduceLT, Int.reduceToNat, fct])
    exact hS.nil _ _
  · have hS := Sep.toAcc (E := eC) ([] : List Col) hS Up.h rfl rfl (by simp) (by simp)
    ((refine zan ?_; intro vb wb hS))
    repeat' (first | ((with_reducible apply G.a); exact rfl) | refine G.reg fun K hK => ?_ | (with_reducible (refine hK _ _ ?_); clear hK K) | (with_reducible (refine hK _ ?_); clear hK K; intro wd hxd; have hS := Sep.xx hxd) | ((first | have hk := hK | have hk := hK2); clear hk; simp (disch := first | exact dis | fail) only [push_cast, ↓reduceIte, Nat.reduceAdd, Nat.reduceLeDiff, Nat.reduceEqDiff, Nat.reduceLT, Int.reduceToNat, fct]) | ((first | refine brO_n ?_ ?_ | refine brQ_n ?_ ?_) <;> intro hb hc <;> first | (with_reducible exact False.elim hc) | (exfalso; omega) | (simp only [hb]; clear hb)) | ((first | refine zalc ?_ | refine zbsl ?_ | ((with_reducible refine gBox ?_); refine zbox ?_)); intro gb wb hS) | ((with_reducible refine gSt ?_); refine zs2 ?_; intro wb hS) | (refine zcv ?_) | (refine G.drt mixed fun K hK wd hxd => ?_; have hS := Sep.xx hxd) | with_reducible refine OT_leaf ?_ | (with_reducible refine OT_tail fun K2 hK2 => ?_) | (with_reducible (refine hK2 _ ?_); clear hK2 K2; intro wd hxd; have hS := Sep.xx hxd) | with_reducible refine OT_br fun K2 hK2 => ?_ | (refine hK2 _ _ ?_ ?_ <;> clear hK2 K2) | refine G.drg mixed fun K hK => ?_ | (refine G.cn ?_ ?_ <;> intro hc <;> first | (with_reducible exact False.elim hc) | (exfalso; omega) | skip))
    repeat' (first | ((with_reducible apply G.a); exact rfl) | refine G.reg fun K hK => ?_ | (with_reducible (refine hK _ _ ?_); clear hK K) | (with_reducible (refine hK _ ?_); clear hK K; intro wd hxd; have hS := Sep.xx hxd) | ((first | have hk := hK | have hk := hK2); clear hk; simp (disch := first | exact dis | fail) only [push_cast, ↓reduceIte, Nat.reduceAdd, Nat.reduceLeDiff, Nat.reduceEqDiff, Nat.reduceLT, Int.reduceToNat, fct]) | ((first | refine brO_n ?_ ?_ | refine brQ_n ?_ ?_) <;> intro hb hc <;> first | (with_reducible exact False.elim hc) | (exfalso; omega) | (simp only [hb]; clear hb)) | ((first | refine zalc ?_ | refine zbsl ?_ | ((with_reducible refine gBox ?_); refine zbox ?_)); intro gb wb hS) | ((with_reducible refine gSt ?_); refine zs2 ?_; intro wb hS) | (refine zcv ?_) | (refine G.drt mixed fun K hK wd hxd => ?_; have hS := Sep.xx hxd) | with_reducible refine OT_leaf ?_ | (with_reducible refine OT_tail fun K2 hK2 => ?_) | (with_reducible (refine hK2 _ ?_); clear hK2 K2; intro wd hxd; have hS := Sep.xx hxd) | with_reducible refine OT_br fun K2 hK2 => ?_ | (refine hK2 _ _ ?_ ?_ <;> clear hK2 K2) | refine G.drg mixed fun K hK => ?_ | (refine G.cn ?_ ?_ <;> intro hc <;> first | (with_reducible exact False.elim hc) | (exfalso; omega) | skip))
    (first | refine G.r1 ?_ | refine G.r2 ?_ | refine G.r3 ?_ | refine G.r0 ?_ | refine G.d0 ?_); (try simp (disch := first | exact dis | fail) only [push_cast, ↓reduceIte, Nat.reduceAdd, Nat.reduceLeDiff, Nat.reduceEqDiff, Nat.reduceLT, Int.reduceToNat, fct])
    exact hS
end Go.Proofs.YtjajihaeoolefaaDoor
namespace Go.Proofs.YtjajihaeoolefaaDoor
set_option linter.unusedSimpArgs false
set_option linter.unusedVariables false
attribute [local irreducible] SemK UnitK StK AlcK BslK CallK CallV Instr.box Builtin.append_ Instr.makeSlice Instr.makeMap Instr.lookup Instr.mapUpdate Instr.sliceAt convert
open Go.RowKit
theorem O1_ofT {P : Program} {m : ML} {J : Fr → World → Prop} {ρ : Fr} {w : World} (h : ∀ K : Fr → World → Prop, (∀ ρ w, J ρ w → K ρ w) → O P K [m] ρ w) : O1 P m J ρ w := h J fun _ _ h => h
end Go.Proofs.YtjajihaeoolefaaDoor
namespace Go.Proofs.YtjajihaeoolefaaDoor
set_option linter.unusedSimpArgs false
set_option linter.unusedVariables false
attribute [local irreducible] SemK UnitK StK AlcK BslK CallK CallV Instr.box Builtin.append_ Instr.makeSlice Instr.makeMap Instr.lookup Instr.mapUpdate Instr.sliceAt convert
open Go.RowKit
theorem checkM_nil : checkM ([] : List (Str × Int)) = (0, 13) := by unfold checkM; simp
theorem dchk_ne {l : List Col} {rows : List (List Val)} {keys : List Str} (h : (dchkM l rows keys).2 = 0) : l ≠ [] := by
  intro e
  subst e
  unfold dchkM at h
  rw [List.map_nil, checkM_nil] at h
  simp at h
theorem plc_fine {l : List Col} {keys : List Str} (hl : l ≠ []) (hk : keys.length ≤ 1000) : FineP (placesM l keys) l.length := by
  refine ⟨by unfold placesM; rw [List.length_map]; exact hk, fun p hp => ?_⟩
  unfold placesM at hp
  obtain ⟨k, _, rfl⟩ := List.mem_map.1 hp
  by_cases h : 0 ≤ atM (l.map (·.name)) k
  · have := plcM_lt l k h; omega
  · unfold plcM
    rw [if_neg h]
    have := List.length_pos_iff.2 hl
    omega
def FineC (cs : List Chg) : Prop := ∀ i, i < cs.length → FineV (cs.getD i default).old ∧ FineV (cs.getD i default).new
def c22l1 : MC := (.seq (.reg [qq 30 (.bin .lss (.tmp 29) (.tmp 28))]) (.seq (.cond (.tmp 30) .skip (.exit 0)) (.seq (.blk 1 (.seq (.reg [qm 31 29, qq 32 (.adr 3 (.tmp 27) (.tmp 29)), qq 33 (.ld (.some 3) (.tmp 32)), qq 12 (.alc 34 [(.int .i64 0), (.slice none 0 0), (.slice none 0 0)]), qm 11 31, qn (.st 3 (.tmp 12) (.tmp 33))]) (.seq (.reg [qm 34 0, qm 35 10, qq 36 (.ld (.some 3) (.tmp 12)), qq 37 (.call 46 [(.tmp 34), (.tmp 35), (.tmp 36)]), qm 13 37]) (.seq (.reg [qm 38 13, qq 39 (.bin .neq (.tmp 38) (ki 0))]) (.cond (.tmp 39) (.seq (.reg [qm 40 11, qm 41 13, qm 6 40, qm 7 41]) .ret) .skip))))) (.reg [qq 42 (.bin .add (.tmp 29) (ki 1)), qm 29 42]))))
def c22 : MC := (.seq (.reg [qq 6 (.mv (ki 0)), qq 7 (.mv (ki 0))]) (.seq (.seq (.reg [qm 15 0, qq 16 (.bld [(.slice none 0 0), (.slice none 0 0)] [⟨0, ⟨1, (.tmp 15)⟩⟩]), qm 17 1, qq 18 (.call 21 [(.tmp 16), (.tmp 17)]), qm 14 18, qq 19 (.ext 0 (.tmp 14)), qq 20 (.ext 1 (.tmp 14)), qm 8 19, qm 9 20]) (.seq (.reg [qm 21 9, qq 22 (.bin .neq (.tmp 21) (ki 0))]) (.cond (.tmp 22) (.seq (.reg [qm 23 9, qq 6 (.mv (ki 0)), qm 7 23]) .ret) .skip))) (.seq (.reg [qm 24 0, qm 25 1, qq 26 (.call 23 [(.tmp 24), (.tmp 25)]), qm 10 26]) (.seq (.seq (.reg [qm 27 2, qq 28 (.len (.tmp 27)), qq 29 (.mv (ki 0))]) (.blk 0 (.loop c22l1))) (.seq (.reg [qm 43 2, qq 44 (.len (.tmp 43)), qm 6 44, qq 7 (.mv (ki 0))]) .ret)))))
theorem k22 : conv Tryd.prog 45 (Tryd.f22.body.getD .skip) = c22 := by kernel_rfl
theorem in22 {a0 a1 a2 : Value} {w : World} {R : Value → World → Prop} (h : G Tryd.prog Tryd.f22 45 [.c c22] R (frL 0 [a0, a1, a2]) w) : Ret Tryd.prog 22 #[a0, a1, a2] w R := G.enter (args := [a0, a1, a2]) Tryd.func22 (c := Tryd.f22.body.getD .skip) (by kernel_rfl) (by kernel_rfl) (by simp) k22 h
set_option maxHeartbeats 1000000 in
theorem pchk_spec {vl vk vc : Value} {l : List Col} {keys : List Str} {cs : List Chg} {w : World} (h0 : Rd w eC vl l) (h1 : Rd w eS vk keys) (hc : RdCs w vc cs) (hl : ∀ c ∈ l, c.name.length ≤ 100000000000) (hk1 : keys.length ≤ 1000) (hf : FineC cs) (hT : Tab w) :
    Pu Tryd.prog 22 #[vl, vk, vc] w (.tuple #[I (pchkM l keys cs).1, I (pchkM l keys cs).2]) := by
  refine in22 ?_
  have hS := Sep.start w
  have hbd := h0.bd
  obtain ⟨vs, g1, l1, i1⟩ := hc
  have hbd2 := g1.bd
  have h00 : RdT w eVal (.slice none 0 0) ([] : List (List Val)) := ⟨[], ⟨none, 0, rfl, by simp, by simp, by simp, fun h0 => by simp at h0⟩, rfl, fun i hi => by simp at hi⟩
  have hdc := fun (w2 : World) (hx : Ext w w2) => dchk_spec (w := w2) (h0.ext hx) (h00.ext hx) (h1.ext hx) hl hk1 (fun i hi => by simp at hi) (hT.ext hx)
  have hpn := fun h => plc_fine (keys := keys) (dchk_ne (l := l) (rows := []) (keys := keys) h) hk1
  have hpd : pchkM l keys cs = if (dchkM l [] keys).2 ≠ 0 then (0, (dchkM l [] keys).2) else onesF l.length (placesM l keys) cs 0 := rfl
  rw [hpd]
  generalize dchkM l [] keys = dd at *
  obtain ⟨d1, d2⟩ := dd
  by_cases hd : d2 = 0
  rotate_left
  · rw [if_pos hd]
    repeat' (first | ((with_reducible apply G.a); exact rfl) | refine G.reg fun K hK => ?_ | (with_reducible (refine hK _ _ ?_); clear hK K) | (have hk := hK; clear hk; simp (disch := first | exact dis | fail) only [push_cast, ↓reduceIte, Nat.reduceAdd, Nat.reduceLeDiff, Nat.reduceEqDiff, Nat.reduceLT, Int.reduceToNat, fct]) | (refine zalc ?_; intro gb wb hS) | ((with_reducible refine gSt ?_); refine zs2 ?_; intro wb hS) | (refine zcp 21 (hdc _ hS.x) ?_; intro wb hS) | (refine G.cn ?_ ?_ <;> intro hc <;> first | (with_reducible exact False.elim hc) | (exfalso; omega) | skip))
    all_goals
      (first | refine G.r1 ?_ | refine G.r2 ?_ | refine G.r3 ?_ | refine G.r0 ?_ | refine G.d0 ?_); (try simp (disch := first | exact dis | fail) only [push_cast, ↓reduceIte, Nat.reduceAdd, Nat.reduceLeDiff, Nat.reduceEqDiff, Nat.reduceLT, Int.reduceToNat, fct])
      (first | exact Sep.xt (by assumption) | exact ⟨rfl, Sep.xt (by assumption)⟩)
  · subst hd
    rw [if_neg (by simp)]
    have hfp := hpn rfl
    repeat' (first | ((with_reducible apply G.a); exact rfl) | refine G.reg fun K hK => ?_ | (with_reducible (refine hK _ _ ?_); clear hK K) | (have hk := hK; clear hk; simp (disch := first | exact dis | fail) only [push_cast, ↓reduceIte, Nat.reduceAdd, Nat.reduceLeDiff, Nat.reduceEqDiff, Nat.reduceLT, Int.reduceToNat, fct]) | (refine zalc ?_; intro gb wb hS) | ((with_reducible refine gSt ?_); refine zs2 ?_; intro wb hS) | (refine zcp 21 (hdc _ hS.x) ?_; intro wb hS) | (refine zco 23 (pfind_spec (h0.ext hS.x) (h1.ext hS.x) hk1) ?_; rintro vb wb hS2; have hS := hS2.ap; simp only [apps] at hS) | (refine G.cn ?_ ?_ <;> intro hc <;> first | (with_reducible exact False.elim hc) | (exfalso; omega) | skip))
    all_goals
    generalize placesM l keys = ps at *
    refine G.loop (fun r w' => ∃ (k : Nat) (lv : Value), k ≤ vs.length ∧ r 29 = I k ∧ r 28 = I vs.length ∧ r 27 = vc ∧ r 2 = vc ∧ r 0 = vl ∧ r 10 = lv ∧ onesF l.length ps cs 0 = onesF l.length ps (cs.drop k) k ∧ Sep w w' [accC lv 3 eI ps]) (fun r _ => vs.length - toN (r 29)) ?_ ?_
    · exact ⟨0, _, Nat.zero_le _, by exact sf, by exact sf, by exact sf, by exact sf, by exact sf, by exact sf, rfl, (Sep.sub hS (by repeat first | exact Sub.rfl' | exact Sub.nil0 | (refine Sub.c (by repeat constructor) ?_) | refine Sub.skip ?_))⟩
    · clear hS
      rintro u wl ⟨k, lv, hk, q29, q28, q27, q2, q0, q10, e, hS⟩ ih
      have hm : toN (u 29) = k := by rw [q29]; simp [toN]
      have h1k := g1.ext hS.x
      by_cases hlt : (k : Int) < vs.length
      · rw [dropD _ _ (show (k : Int) < cs.length by omega), onesF] at e
        obtain ⟨i2, i3, i4⟩ := i1 k (by omega)
        obtain ⟨f1, f2⟩ := hf k (by omega)
        generalize cs.getD k default = c at e i2 i3 i4 f1 f2
        generalize hx : vs.getD k default = x at *
        obtain ⟨xk, xo, xn⟩ := x
        simp only [] at i2 i3 i4
        subst i2
        have ho := fun (w2 : World) (hx : Ext w w2) (hp : Rd w2 eI lv ps) => pone_spec (w := w2) (h0.ext hx) (i3.ext hx) (i4.ext hx) hp f1 f2 hfp (hT.ext hx)
        generalize oneM l.length ps c = o at e ho
        by_cases h : o = 0
        · rw [if_neg (not_not_intro h)] at e
          (have fct := (And.intro @q29 (And.intro @q28 (And.intro @q27 (And.intro @q2 (And.intro @q0 (And.intro @q10 (And.intro @hx @h))))))); repeat' (first | ((with_reducible apply G.a); exact rfl) | refine G.reg fun K hK => ?_ | (with_reducible (refine hK _ _ ?_); clear hK K) | (have hk := hK; clear hk; simp (disch := first | exact dis | fail) only [push_cast, ↓reduceIte, Nat.reduceAdd, Nat.reduceLeDiff, Nat.reduceEqDiff, Nat.reduceLT, Int.reduceToNat, fct]) | (refine zalc ?_; intro gb wb hS) | ((with_reducible refine gSt ?_); refine zs2 ?_; intro wb hS) | (refine zcp 46 (ho _ hS.x (Sep.rd hS (by repeat constructor))) ?_; intro wb hS) | (refine G.cn ?_ ?_ <;> intro hc <;> first | (with_reducible exact False.elim hc) | (exfalso; omega) | skip))) <;> (try clear fct)
          all_goals
            have fct := (And.intro @q29 (And.intro @q28 (And.intro @q27 (And.intro @q2 (And.intro @q0 @q10))))); refine ih _ _ ⟨k + 1, lv, by omega, by exact sf, by exact sf, by exact sf, by exact sf, by exact sf, by exact sf, e, (Sep.sub hS (by repeat first | exact Sub.rfl' | exact Sub.nil0 | (refine Sub.c (by repeat constructor) ?_) | refine Sub.skip ?_))⟩ ?_
            rw [hm]; simp only [push_cast, ↓reduceIte, Nat.reduceAdd, Nat.reduceLeDiff, Nat.reduceEqDiff, Nat.reduceLT, Int.reduceToNat, toN_i, q29, q28, q27, q2, q0, q10]; omega
        · rw [if_pos h] at e
          rw [e]
          (have fct := (And.intro @q29 (And.intro @q28 (And.intro @q27 (And.intro @q2 (And.intro @q0 (And.intro @q10 @hx)))))); repeat' (first | ((with_reducible apply G.a); exact rfl) | refine G.reg fun K hK => ?_ | (with_reducible (refine hK _ _ ?_); clear hK K) | (have hk := hK; clear hk; simp (disch := first | exact dis | fail) only [push_cast, ↓reduceIte, Nat.reduceAdd, Nat.reduceLeDiff, Nat.reduceEqDiff, Nat.reduceLT, Int.reduceToNat, fct]) | (refine zalc ?_; intro gb wb hS) | ((with_reducible refine gSt ?_); refine zs2 ?_; intro wb hS) | (refine zcp 46 (ho _ hS.x (Sep.rd hS (by repeat constructor))) ?_; intro wb hS) | (refine G.cn ?_ ?_ <;> intro hc <;> first | (with_reducible exact False.elim hc) | (exfalso; omega) | skip))) <;> (try clear fct)
          all_goals
            (have fct := (And.intro @q29 (And.intro @q28 (And.intro @q27 (And.intro @q2 (And.intro @q0 @q10))))); (first | refine G.r1 ?_ | refine G.r2 ?_ | refine G.r3 ?_ | refine G.r0 ?_ | refine G.d0 ?_); (try simp (disch := first | exact dis | fail) only [push_cast, ↓reduceIte, Nat.reduceAdd, Nat.reduceLeDiff, Nat.reduceEqDiff, Nat.reduceLT, Int.reduceToNat, fct]); (try clear fct))
            (first | exact Sep.xt (by assumption) | exact ⟨rfl, Sep.xt (by assumption)⟩)
      · rw [List.drop_eq_nil_of_le (by omega), onesF] at e
        rw [e]
        (have fct := (And.intro @q29 (And.intro @q28 (And.intro @q27 (And.intro @q2 (And.intro @q0 @q10))))); repeat' (first | ((with_reducible apply G.a); exact rfl) | refine G.reg fun K hK => ?_ | (with_reducible (refine hK _ _ ?_); clear hK K) | (have hk := hK; clear hk; simp (disch := first | exact dis | fail) only [push_cast, ↓reduceIte, Nat.reduceAdd, Nat.reduceLeDiff, Nat.reduceEqDiff, Nat.reduceLT, Int.reduceToNat, fct]) | (refine zalc ?_; intro gb wb hS) | ((with_reducible refine gSt ?_); refine zs2 ?_; intro wb hS) | (refine G.cn ?_ ?_ <;> intro hc <;> first | (with_reducible exact False.elim hc) | (exfalso; omega) | skip))) <;> (try clear fct)
        all_goals
          (have fct := (And.intro @q29 (And.intro @q28 (And.intro @q27 (And.intro @q2 (And.intro @q0 @q10))))); (first | refine G.r1 ?_ | refine G.r2 ?_ | refine G.r3 ?_ | refine G.r0 ?_ | refine G.d0 ?_); (try simp (disch := first | exact dis | fail) only [push_cast, ↓reduceIte, Nat.reduceAdd, Nat.reduceLeDiff, Nat.reduceEqDiff, Nat.reduceLT, Int.reduceToNat, fct]); (try clear fct))
          refine ⟨?_, Sep.xt (by assumption)⟩
          rw [show k = vs.length by omega]
end Go.Proofs.YtjajihaeoolefaaDoor
