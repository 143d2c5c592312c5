/- Texts of the proof, joined. -/
import Derived.Test.YtllanbmpacgigaaGreatDoorDL27
import Derived.Test.YtllanbmpacgigaaGreatDoorDZ10
import Derived.Test.YtllanbmpacgigaaGreatDoorDS10
namespace Go.Proofs.YtllanbmpacgigaaGreatDoor
open Nat renaming reduceAdd→zq1,reduceLeDiff→zq2,reduceEqDiff→zq3,reduceLT→zq4
open Int renaming reduceToNat→zq5
set_option linter.unusedSimpArgs false
set_option linter.unusedVariables false
attribute [local irreducible] SemK UnitK StK AlcK BslK CallK CallV Instr.box Builtin.append_ Instr.makeSlice Instr.makeMap Instr.lookup Instr.mapUpdate Instr.sliceAt convert
open Go.RowKit
section
variable {s a e:Str}
def c145:MC:=(.seq (.reg [qq 4 (.mv (kb false))]) (.seq (.reg [qm 5 0,qq 6 (.lenS (.tmp 5)),qm 7 1,qq 8 (.lenS (.tmp 7)),qq 9 (.bin .geq (.tmp 6) (.tmp 8)),qm 10 9,qmt 10 11 0,qmt 10 12 0,qt 10 13 (.lenS (.tmp 12)),qmt 10 14 1,qt 10 15 (.lenS (.tmp 14)),qt 10 16 (.bin .sub (.tmp 13) (.tmp 15)),qt 10 17 (.slS (.tmp 11) (.some (.tmp 16)) none),qmt 10 18 1,qt 10 19 (.bin .eql (.tmp 17) (.tmp 18)),qq 20 (.pick (.tmp 10) (.tmp 19) (kb false)),qm 4 20]) .ret))
theorem k145:conv Tryz.prog 21 (Tryz.f145.body.getD .skip)=c145:=by kernel_rfl
theorem in145 {a0 a1:Value} {w:World} {R:Value→World→Prop} (h:G Tryz.prog Tryz.f145 21 [.c c145] R (frL 0 [a0,a1]) w):Ret Tryz.prog 145 #[a0,a1] w R:=G.enter (args:=[a0,a1]) Tryz.func145 (c:=Tryz.f145.body.getD .skip) (by kernel_rfl) (by kernel_rfl) (by simp) k145 h
theorem hsfx_spec (w:World) (hl:s.length=a.length+e.length) (hb:s.length≤1000000000000) (hd:s.drop a.length=e):Pu Tryz.prog 145 #[S s,S e] w (.bool true):=by
  refine in145 ?_
  have hS:=Sep.start w
  have hT:((s.length:Int) - (e.length:Int)).toNat=a.length:=by omega
  have hT2:s.length - a.length=e.length:=by omega
  have hd2:(s.drop a.length).take e.length=e:=by rw [hd,List.take_length]
  (have fct:=(And.intro @hT (And.intro @hT2 (And.intro @hd @hd2)));repeat' (first|((with_reducible apply G.a);exact rfl)|refine G.reg fun K hK=>?_|(with_reducible (refine hK _ _ ?_);clear hK K)|(have hk:=hK;clear hk;simp (disch:=first|exact dis|fail) only [push_cast,↓reduceIte,zq1,zq2,zq3,zq4,zq5,fct])|(refine brO_n ?_ ?_<;>intro hb hc<;>first|(with_reducible exact False.elim hc)|(exfalso;omega)|(simp only [hb];clear hb))))<;>(try clear fct)
  all_goals
    (first|refine G.r1 ?_|refine G.r2 ?_|refine G.r3 ?_|refine G.r0 ?_|refine G.d0 ?_);(try simp (disch:=first|exact dis|fail) only [push_cast,↓reduceIte,zq1,zq2,zq3,zq4,zq5,fct])
    exact Sep.xt (by assumption)
def c106:MC:=(.seq (.reg [qq 4 (.mv (.const (S [])))]) (.seq (.seq (.reg [qm 5 0,qm 6 1,qq 7 (.call 145 [(.tmp 5),(.tmp 6)])]) (.cond (.tmp 7) (.seq (.reg [qm 8 0,qm 9 0,qq 10 (.lenS (.tmp 9)),qm 11 1,qq 12 (.lenS (.tmp 11)),qq 13 (.bin .sub (.tmp 10) (.tmp 12)),qq 14 (.slS (.tmp 8) none (.some (.tmp 13))),qm 4 14]) .ret) .skip)) (.seq (.reg [qm 15 0,qm 4 15]) .ret)))
theorem k106:conv Tryz.prog 16 (Tryz.f106.body.getD .skip)=c106:=by kernel_rfl
theorem in106 {a0 a1:Value} {w:World} {R:Value→World→Prop} (h:G Tryz.prog Tryz.f106 16 [.c c106] R (frL 0 [a0,a1]) w):Ret Tryz.prog 106 #[a0,a1] w R:=G.enter (args:=[a0,a1]) Tryz.func106 (c:=Tryz.f106.body.getD .skip) (by kernel_rfl) (by kernel_rfl) (by simp) k106 h
theorem tsuf0_spec (w:World) (hl:s.length=a.length+e.length) (hb:s.length≤1000000000000) (hd:s.drop a.length=e) (ha:s.take a.length=a):Pu Tryz.prog 106 #[S s,S e] w (S a):=by
  refine in106 ?_
  have hS:=Sep.start w
  have hT:((s.length:Int) - (e.length:Int)).toNat=a.length:=by omega
  (have fct:=(And.intro @hT @ha);repeat' (first|((with_reducible apply G.a);exact rfl)|refine G.reg fun K hK=>?_|(with_reducible (refine hK _ _ ?_);clear hK K)|(have hk:=hK;clear hk;simp (disch:=first|exact dis|fail) only [push_cast,↓reduceIte,zq1,zq2,zq3,zq4,zq5,fct])|(refine zcp 145 (hsfx_spec _ hl hb hd) ?_;intro wb hS)|(refine G.cn ?_ ?_<;>intro hc<;>first|(with_reducible exact False.elim hc)|(exfalso;omega)|skip)))<;>(try clear fct)
  all_goals
    (first|refine G.r1 ?_|refine G.r2 ?_|refine G.r3 ?_|refine G.r0 ?_|refine G.d0 ?_);(try simp (disch:=first|exact dis|fail) only [push_cast,↓reduceIte,zq1,zq2,zq3,zq4,zq5,fct])
    exact Sep.xt (by assumption)
def c70:MC:=(.seq (.reg [qq 4 (.mv (.const (S [])))]) (.seq (.reg [qm 5 0,qm 6 1,qq 7 (.call 106 [(.tmp 5),(.tmp 6)]),qm 4 7]) .ret))
theorem k70:conv Tryz.prog 8 (Tryz.f70.body.getD .skip)=c70:=by kernel_rfl
theorem in70 {a0 a1:Value} {w:World} {R:Value→World→Prop} (h:G Tryz.prog Tryz.f70 8 [.c c70] R (frL 0 [a0,a1]) w):Ret Tryz.prog 70 #[a0,a1] w R:=G.enter (args:=[a0,a1]) Tryz.func70 (c:=Tryz.f70.body.getD .skip) (by kernel_rfl) (by kernel_rfl) (by simp) k70 h
theorem tsuf_spec (w:World) (hl:s.length=a.length+e.length) (hb:s.length≤1000000000000) (hd:s.drop a.length=e) (ha:s.take a.length=a):Pu Tryz.prog 70 #[S s,S e] w (S a):=by
  refine in70 ?_
  have hS:=Sep.start w
  repeat' (first|((with_reducible apply G.a);exact rfl)|refine G.reg fun K hK=>?_|(with_reducible (refine hK _ _ ?_);clear hK K)|(with_reducible (refine hK _ ?_);clear hK K;intro wd hxd;have hS:=Sep.xx hxd)|((first|have hk:=hK|have hk:=hK2);clear hk;simp (disch:=first|exact dis|fail) only [push_cast,↓reduceIte,zq1,zq2,zq3,zq4,zq5,fct])|(refine zalc ?_;intro gb wb hS)|((with_reducible refine gSt ?_);refine zs2 ?_;intro wb hS)|(refine zcp 106 (tsuf0_spec _ hl hb hd ha) ?_;intro wb hS)|(refine G.drt mixed fun K hK wd hxd=>?_;have hS:=Sep.xx hxd)|with_reducible refine OT_leaf ?_|(with_reducible (refine hK2 _ ?_);clear hK2 K2;intro wd hxd;have hS:=Sep.xx hxd)|with_reducible refine OT_br fun K2 hK2=>?_|(refine hK2 _ _ ?_ ?_<;>clear hK2 K2)|refine G.drg mixed fun K hK=>?_|(refine G.cn ?_ ?_<;>intro hc<;>first|(with_reducible exact False.elim hc)|(exfalso;omega)|skip))
  all_goals
    (first|refine G.r1 ?_|refine G.r2 ?_|refine G.r3 ?_|refine G.r0 ?_|refine G.d0 ?_);(try simp (disch:=first|exact dis|fail) only [push_cast,↓reduceIte,zq1,zq2,zq3,zq4,zq5,fct])
    exact Sep.xt (by assumption)
end
end Go.Proofs.YtllanbmpacgigaaGreatDoor
