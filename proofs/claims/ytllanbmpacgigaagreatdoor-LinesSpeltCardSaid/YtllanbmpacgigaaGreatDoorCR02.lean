/- Texts of the proof, joined. -/
import Derived.Test.YtllanbmpacgigaaGreatDoorProg
import Derived.Test.YtllanbmpacgigaaGreatDoorCMc
import Derived.Test.YtllanbmpacgigaaGreatDoorCPa
namespace Go.Proofs.YtllanbmpacgigaaGreatDoor
open Nat renaming reduceAdd→zq1,reduceLeDiff→zq2,reduceEqDiff→zq3,reduceLT→zq4
open Int renaming reduceToNat→zq5
set_option linter.unusedSimpArgs false
set_option linter.unusedVariables false
attribute [local irreducible] SemK UnitK StK AlcK BslK CallK CallV Instr.box Builtin.append_ Instr.makeSlice Instr.makeMap Instr.lookup Instr.mapUpdate Instr.sliceAt convert
open Go.RowKit
theorem mixed:Tryz.prog.follows .mixedOrders=true:=by kernel_rfl
end Go.Proofs.YtllanbmpacgigaaGreatDoor
namespace Go.Proofs.YtllanbmpacgigaaGreatDoor
open Nat renaming reduceAdd→zq1,reduceLeDiff→zq2,reduceEqDiff→zq3,reduceLT→zq4
open Int renaming reduceToNat→zq5
set_option linter.unusedSimpArgs false
set_option linter.unusedVariables false
attribute [local irreducible] SemK UnitK StK AlcK BslK CallK CallV Instr.box Builtin.append_ Instr.makeSlice Instr.makeMap Instr.lookup Instr.mapUpdate Instr.sliceAt convert
open Go.RowKit
def c55:MC:=(.seq (.reg [qm 2 0,qq 3 (.nck (.tmp 2)),qq 4 (.fad 0 (.tmp 3)),qq 5 (.ld none (.tmp 4)),qq 6 (.raw (.binOp .eql 64 (.tmp 5) (.const (.pointer none)) 64) 4)]) (.cond (.tmp 6) (.reg [qm 7 0,qm 8 0,qq 9 (.raw (.convert 64 132 (.tmp 8)) 132),qq 10 (.raw (.call ⟨(.value (.func 84)),#[(.tmp 9)],#[132]⟩) 132),qq 11 (.raw (.convert 132 64 (.tmp 10)) 64),qq 12 (.nck (.tmp 7)),qq 13 (.fad 0 (.tmp 12)),qn (.st 1 (.tmp 13) (.tmp 11))]) (.seq (.reg [qm 14 0,qq 15 (.nck (.tmp 14)),qq 16 (.fad 0 (.tmp 15)),qq 17 (.ld none (.tmp 16)),qm 18 0,qq 19 (.raw (.binOp .neq 64 (.tmp 17) (.tmp 18) 64) 4)]) (.cond (.tmp 19) .bad .skip))))
theorem k55:conv Tryz.prog 20 (Tryz.f55.body.getD .skip)=c55:=by kernel_rfl
theorem in55 {a0:Value} {w:World} {R:Value→World→Prop} (h:G Tryz.prog Tryz.f55 20 [.c c55] R (frL 0 [a0]) w):Ret Tryz.prog 55 #[a0] w R:=G.enter (args:=[a0]) Tryz.func55 (c:=Tryz.f55.body.getD .skip) (by kernel_rfl) (by kernel_rfl) (by simp) k55 h
theorem bchk_spec {g:Nat} {p bv:Value} {M:List Chk} {w w0:World} (hS:Sep w0 w (boxC g 67 [p,bv] :: M)) (hp:p=.pointer none∨p=.pointer (some ⟨g,0,none⟩)) :
    Ret Tryz.prog 55 #[.pointer (some ⟨g,0,none⟩)] w fun res w'=>res=.tuple #[]∧Sep w0 w' (boxC g 67 [.pointer (some ⟨g,0,none⟩),bv] :: M):=by
  refine in55 ?_
  rcases hp with rfl|rfl
  · repeat' (first|((with_reducible apply G.a);exact rfl)|refine G.reg fun K hK=>?_|(with_reducible (refine hK _ _ ?_);clear hK K)|(with_reducible (refine hK _ ?_);clear hK K;intro wd hxd;have hS:=Sep.ext (by assumption) hxd)|((first|have hk:=hK|have hk:=hK2);clear hk;simp (disch:=(first|exact dis|fail)) only [push_cast,↓reduceIte,zq1,zq2,zq3,zq4,zq5,O_noe])|((first|refine brO_mk ?_ ?_|refine brQ_mk ?_ ?_)<;>intro hb<;>(try simp only [Bool.not_eq_true',Bool.not_eq_false'] at hb)<;>have hc:=hb<;>(try simp only [hcs,reduceCtorEq] at hc)<;>(try (exfalso;omega))<;>simp only [hb]<;>clear hb)|(refine zalc ?_;intro gb wb hS)|(refine zbsl ?_;intro gb wb hS)|((with_reducible (show SemK _ (Instr.box _ _) _ _ _ _));refine zbox ?_;intro gb wb hS)|((with_reducible (show StK _ _ (Value.pointer _) _ _ _ _ _));refine zst ?_;intro wb hS;(try simp only [sets] at hS))|(refine zcv ?_)|(refine zn3 ?_)|(refine zn4 ?_)|(refine cv_to (hS.blk .h) rfl ?_)|(refine cv_from (hS.blk .h) rfl ?_)|(refine pureK ?_)|(refine G.drt mixed fun K hK wd hxd=>?_;have hS:=Sep.ext (by assumption) hxd)|with_reducible refine OT_leaf ?_|(with_reducible refine OT_tail fun K2 hK2=>?_)|(with_reducible (refine hK2 _ ?_);clear hK2 K2;intro wd hxd;have hS:=Sep.ext (by assumption) hxd)|with_reducible refine OT_br fun K2 hK2=>?_|(refine hK2 _ _ ?_ ?_<;>clear hK2 K2)|refine G.drg mixed fun K hK=>?_|(refine G.cond (by simp only [push_cast,↓reduceIte,zq1,zq2,zq3,zq4,zq5,O_noe];rfl) ?_ ?_<;>intro hc<;>(try simp only [hcs,reduceCtorEq] at hc)<;>(try (exfalso;omega))))
    all_goals exact G.done0 rfl ⟨rfl,hS⟩
  · repeat' (first|((with_reducible apply G.a);exact rfl)|refine G.reg fun K hK=>?_|(with_reducible (refine hK _ _ ?_);clear hK K)|(have hk:=hK;clear hk;simp (disch:=first|exact dis|fail) only [push_cast,↓reduceIte,zq1,zq2,zq3,zq4,zq5,fct])|((with_reducible refine gSt ?_);refine zs2 ?_;intro wb hS)|(refine zcv ?_)|(refine zn3 ?_)|(refine zn4 ?_)|(refine eqSelf_n dpt bld_has ?_)|(refine G.cn ?_ ?_<;>intro hc<;>first|(with_reducible exact False.elim hc)|(exfalso;omega)|skip))
    all_goals exact G.done0 rfl ⟨rfl,hS⟩
def c35:MC:=(.seq (.reg [qq 4 (.mv (.const .nilIface))]) (.seq (.reg [qm 5 0,qq 6 (.call 55 [(.tmp 5)])]) (.seq (.reg [qm 7 0,qm 8 0,qq 9 (.nck (.tmp 8)),qq 10 (.fad 1 (.tmp 9)),qq 11 (.ld none (.tmp 10)),qm 12 1,qq 13 (.bsl 5 [(.int .u8 0)] 1 [⟨0,⟨1,(.tmp 12)⟩⟩]),qq 14 (.raw (.call ⟨(.builtin .append),#[(.tmp 11),(.tmp 13)],#[65,65]⟩) 65),qq 15 (.nck (.tmp 7)),qq 16 (.fad 1 (.tmp 15)),qn (.st 1 (.tmp 16) (.tmp 14))]) (.seq (.reg [qq 4 (.mv (.const .nilIface))]) .ret))))
theorem k35:conv Tryz.prog 17 (Tryz.f35.body.getD .skip)=c35:=by kernel_rfl
theorem in35 {a0 a1:Value} {w:World} {R:Value→World→Prop} (h:G Tryz.prog Tryz.f35 17 [.c c35] R (frL 0 [a0,a1]) w):Ret Tryz.prog 35 #[a0,a1] w R:=G.enter (args:=[a0,a1]) Tryz.func35 (c:=Tryz.f35.body.getD .skip) (by kernel_rfl) (by kernel_rfl) (by simp) k35 h
def c34:MC:=(.seq (.reg [qq 4 (.mv (ki 0)),qq 5 (.mv (.const .nilIface))]) (.seq (.reg [qm 6 0,qq 7 (.call 55 [(.tmp 6)])]) (.seq (.reg [qm 8 0,qm 9 0,qq 10 (.nck (.tmp 9)),qq 11 (.fad 1 (.tmp 10)),qq 12 (.ld none (.tmp 11)),qm 13 1,qq 14 (.raw (.call ⟨(.builtin .append),#[(.tmp 12),(.tmp 13)],#[65,9]⟩) 65),qq 15 (.nck (.tmp 8)),qq 16 (.fad 1 (.tmp 15)),qn (.st 1 (.tmp 16) (.tmp 14))]) (.seq (.reg [qm 17 1,qq 18 (.lenS (.tmp 17)),qm 4 18,qq 5 (.mv (.const .nilIface))]) .ret))))
theorem k34:conv Tryz.prog 19 (Tryz.f34.body.getD .skip)=c34:=by kernel_rfl
theorem in34 {a0 a1:Value} {w:World} {R:Value→World→Prop} (h:G Tryz.prog Tryz.f34 19 [.c c34] R (frL 0 [a0,a1]) w):Ret Tryz.prog 34 #[a0,a1] w R:=G.enter (args:=[a0,a1]) Tryz.func34 (c:=Tryz.f34.body.getD .skip) (by kernel_rfl) (by kernel_rfl) (by simp) k34 h
theorem bwb_spec {g:Nat} {xs:Str} {L R:List Chk} {w w0:World} (c:UInt8) (hS:Sep w0 w L) (he:Ex (bldC g 67 5 xs) L R) (hl:xs.length≤1000000000000) :
    Ret Tryz.prog 35 #[.pointer (some ⟨g,0,none⟩),U c.toNat] w fun res w'=>res=.nilIface∧Sep w0 w' (bldC g 67 5 (xs++[c]) :: R):=by
  refine in35 ?_
  obtain ⟨p,bv,hp,hS⟩:=hS.openB he
  repeat' (first|((with_reducible apply G.a);exact rfl)|refine G.reg fun K hK=>?_|(with_reducible (refine hK _ _ ?_);clear hK K)|(have hk:=hK;clear hk;simp (disch:=first|exact dis|fail) only [push_cast,↓reduceIte,zq1,zq2,zq3,zq4,zq5,fct])|(refine zbsl ?_;intro gb wb hS)|((with_reducible refine gSt ?_);refine zs2 ?_;intro wb hS)|((refine zco 55 (bchk_spec hS hp) ?_);rintro vb wb ⟨rfl,hS⟩)|(refine zap (E:=eU) (y:=c) ?_;intro vb wb hS))
  (first|refine G.r1 ?_|refine G.r2 ?_|refine G.r3 ?_|refine G.r0 ?_|refine G.d0 ?_);(try simp (disch:=first|exact dis|fail) only [push_cast,↓reduceIte,zq1,zq2,zq3,zq4,zq5,fct])
  exact hS.shutB (.inr rfl)
theorem bws_spec {g:Nat} {xs s:Str} {L R:List Chk} {w w0:World} (hS:Sep w0 w L) (he:Ex (bldC g 67 5 xs) L R) (hl:xs.length≤1000000000000) (hl2:s.length≤1000000000000) :
    Ret Tryz.prog 34 #[.pointer (some ⟨g,0,none⟩),S s] w fun res w'=>res=.tuple #[I s.length,.nilIface]∧Sep w0 w' (bldC g 67 5 (xs++s) :: R):=by
  refine in34 ?_
  obtain ⟨p,bv,hp,hS⟩:=hS.openB he
  repeat' (first|((with_reducible apply G.a);exact rfl)|refine G.reg fun K hK=>?_|(with_reducible (refine hK _ _ ?_);clear hK K)|(have hk:=hK;clear hk;simp (disch:=first|exact dis|fail) only [push_cast,↓reduceIte,zq1,zq2,zq3,zq4,zq5,fct])|((with_reducible refine gSt ?_);refine zs2 ?_;intro wb hS)|((refine zco 55 (bchk_spec hS hp) ?_);rintro vb wb ⟨rfl,hS⟩)|(refine zas ?_ Tryz.underlying9;intro vb wb hS))
  (first|refine G.r1 ?_|refine G.r2 ?_|refine G.r3 ?_|refine G.r0 ?_|refine G.d0 ?_);(try simp (disch:=first|exact dis|fail) only [push_cast,↓reduceIte,zq1,zq2,zq3,zq4,zq5,fct])
  exact hS.shutB (.inr rfl)
def c36:MC:=(.seq (.reg [qq 2 (.mv (.const (S [])))]) (.seq (.drg [qm 3 0,qq 4 (.nck (.tmp 3)),qq 5 (.fad 1 (.tmp 4)),qq 6 (.ld none (.tmp 5)),qq 7 (.raw (.call ⟨(.builtin .unsafeSliceData),#[(.tmp 6)],#[65]⟩) 90),qm 8 0,qq 9 (.nck (.tmp 8)),qq 10 (.fad 1 (.tmp 9)),qq 11 (.ld none (.tmp 10)),qq 12 (.len (.tmp 11)),qq 13 (.raw (.call ⟨(.builtin .unsafeString),#[(.tmp 7),(.tmp 12)],#[90,3]⟩) 9),qm 2 13] (.some (.br [qm 3 0,qq 4 (.nck (.tmp 3)),qq 5 (.fad 1 (.tmp 4)),qm 8 0,qq 9 (.nck (.tmp 8)),qq 10 (.fad 1 (.tmp 9))] (.br [qq 6 (.ld none (.tmp 5))] (.leaf [qq 7 (.raw (.call ⟨(.builtin .unsafeSliceData),#[(.tmp 6)],#[65]⟩) 90),qq 11 (.ld none (.tmp 10)),qq 12 (.len (.tmp 11)),qq 13 (.raw (.call ⟨(.builtin .unsafeString),#[(.tmp 7),(.tmp 12)],#[90,3]⟩) 9),qm 2 13]) (.leaf [qq 11 (.ld none (.tmp 10)),qq 12 (.len (.tmp 11)),qq 7 (.raw (.call ⟨(.builtin .unsafeSliceData),#[(.tmp 6)],#[65]⟩) 90),qq 13 (.raw (.call ⟨(.builtin .unsafeString),#[(.tmp 7),(.tmp 12)],#[90,3]⟩) 9),qm 2 13])) (.leaf [qq 11 (.ld none (.tmp 10)),qq 12 (.len (.tmp 11)),qq 6 (.ld none (.tmp 5)),qq 7 (.raw (.call ⟨(.builtin .unsafeSliceData),#[(.tmp 6)],#[65]⟩) 90),qq 13 (.raw (.call ⟨(.builtin .unsafeString),#[(.tmp 7),(.tmp 12)],#[90,3]⟩) 9),qm 2 13])))) .ret))
theorem k36:conv Tryz.prog 14 (Tryz.f36.body.getD .skip)=c36:=by kernel_rfl
theorem in36 {a0:Value} {w:World} {R:Value→World→Prop} (h:G Tryz.prog Tryz.f36 14 [.c c36] R (frL 0 [a0]) w):Ret Tryz.prog 36 #[a0] w R:=G.enter (args:=[a0]) Tryz.func36 (c:=Tryz.f36.body.getD .skip) (by kernel_rfl) (by kernel_rfl) (by simp) k36 h
theorem bst_spec {g:Nat} {xs:Str} {L R:List Chk} {w w0:World} (hS:Sep w0 w L) (he:Ex (bldC g 67 5 xs) L R) :
    Ret Tryz.prog 36 #[.pointer (some ⟨g,0,none⟩)] w fun res w'=>res=S xs∧Sep w0 w' R:=by
  refine in36 ?_
  obtain ⟨p,bv,hp,hS⟩:=hS.openB he
  repeat' (first|((with_reducible apply G.a);exact rfl)|refine G.reg fun K hK=>?_|(with_reducible (refine hK _ _ ?_);clear hK K)|(with_reducible (refine hK _ ?_);clear hK K;intro wd hxd;have hS:=Sep.ext (by assumption) hxd)|((first|have hk:=hK|have hk:=hK2);clear hk;simp (disch:=(first|exact dis|fail)) only [push_cast,↓reduceIte,zq1,zq2,zq3,zq4,zq5,O_usd,O_ust])|((first|refine brO_mk ?_ ?_|refine brQ_mk ?_ ?_)<;>intro hb<;>(try simp only [Bool.not_eq_true',Bool.not_eq_false'] at hb)<;>have hc:=hb<;>(try simp only [hcs,reduceCtorEq] at hc)<;>(try (exfalso;omega))<;>simp only [hb]<;>clear hb)|(refine zalc ?_;intro gb wb hS)|(refine zbsl ?_;intro gb wb hS)|((with_reducible (show SemK _ (Instr.box _ _) _ _ _ _));refine zbox ?_;intro gb wb hS)|((with_reducible (show StK _ _ (Value.pointer _) _ _ _ _ _));refine zst ?_;intro wb hS;(try simp only [sets] at hS))|(refine zcv ?_)|(refine zusd ?_ (by assumption) (by repeat constructor) u8_ptr;intro q wb hS hq)|(refine zust ?_ (by assumption) (by repeat constructor) (by assumption) u8_ptr u8_cells;intro wb hS)|(refine G.drt mixed fun K hK wd hxd=>?_;have hS:=Sep.ext (by assumption) hxd)|with_reducible refine OT_leaf ?_|(with_reducible refine OT_tail fun K2 hK2=>?_)|(with_reducible (refine hK2 _ ?_);clear hK2 K2;intro wd hxd;have hS:=Sep.ext (by assumption) hxd)|with_reducible refine OT_br fun K2 hK2=>?_|(refine hK2 _ _ ?_ ?_<;>clear hK2 K2)|refine G.drg mixed fun K hK=>?_|(refine G.cond (by simp only [push_cast,↓reduceIte,zq1,zq2,zq3,zq4,zq5,O_usd,O_ust];rfl) ?_ ?_<;>intro hc<;>(try simp only [hcs,reduceCtorEq] at hc)<;>(try (exfalso;omega))))
  all_goals
    (first|refine G.r1 ?_|refine G.r2 ?_|refine G.r3 ?_|refine G.r0 ?_|refine G.d0 ?_);(try simp (disch:=first|exact dis|fail) only [push_cast,↓reduceIte,zq1,zq2,zq3,zq4,zq5,fct])
    exact Sep.drop hS .h
end Go.Proofs.YtllanbmpacgigaaGreatDoor
namespace Go.Proofs.YtllanbmpacgigaaGreatDoor
open Nat renaming reduceAdd→zq1,reduceLeDiff→zq2,reduceEqDiff→zq3,reduceLT→zq4
open Int renaming reduceToNat→zq5
set_option linter.unusedSimpArgs false
set_option linter.unusedVariables false
attribute [local irreducible] SemK UnitK StK AlcK BslK CallK CallV Instr.box Builtin.append_ Instr.makeSlice Instr.makeMap Instr.lookup Instr.mapUpdate Instr.sliceAt convert
open Go.RowKit
end Go.Proofs.YtllanbmpacgigaaGreatDoor
namespace Go.Proofs.YtllanbmpacgigaaGreatDoor
open Nat renaming reduceAdd→zq1,reduceLeDiff→zq2,reduceEqDiff→zq3,reduceLT→zq4
open Int renaming reduceToNat→zq5
set_option linter.unusedSimpArgs false
set_option linter.unusedVariables false
attribute [local irreducible] SemK UnitK StK AlcK BslK CallK CallV Instr.box Builtin.append_ Instr.makeSlice Instr.makeMap Instr.lookup Instr.mapUpdate Instr.sliceAt convert
open Go.RowKit
def c157:MC:=(.seq (.reg [qq 4 (.mv (kb false))]) (.seq (.reg [qm 5 0,qq 6 (.lenS (.tmp 5)),qm 7 1,qq 8 (.lenS (.tmp 7)),qq 9 (.bin .geq (.tmp 6) (.tmp 8)),qm 10 9,qmt 10 11 0,qmt 10 12 1,qt 10 13 (.lenS (.tmp 12)),qt 10 14 (.slS (.tmp 11) none (.some (.tmp 13))),qmt 10 15 1,qt 10 16 (.bin .eql (.tmp 14) (.tmp 15)),qq 17 (.pick (.tmp 10) (.tmp 16) (kb false)),qm 4 17]) .ret))
theorem k157:conv Tryz.prog 18 (Tryz.f157.body.getD .skip)=c157:=by kernel_rfl
theorem in157 {a0 a1:Value} {w:World} {R:Value→World→Prop} (h:G Tryz.prog Tryz.f157 18 [.c c157] R (frL 0 [a0,a1]) w):Ret Tryz.prog 157 #[a0,a1] w R:=G.enter (args:=[a0,a1]) Tryz.func157 (c:=Tryz.f157.body.getD .skip) (by kernel_rfl) (by kernel_rfl) (by simp) k157 h
theorem hp_spec (s p:Str) (w:World) (hl:s.length≤1000000000) (hp:p.length≤1000000000):Pu Tryz.prog 157 #[S s,S p] w (.bool (s.take p.length == p)):=by
  refine in157 ?_
  have hS:=Sep.start w
  by_cases h:(p.length:Int)≤s.length
  · (have fct:=@h;repeat' (first|((with_reducible apply G.a);exact rfl)|refine G.reg fun K hK=>?_|(with_reducible (refine hK _ _ ?_);clear hK K)|(have hk:=hK;clear hk;simp (disch:=first|exact dis|fail) only [push_cast,↓reduceIte,zq1,zq2,zq3,zq4,zq5,fct])|(refine brO_n ?_ ?_<;>intro hb hc<;>first|(with_reducible exact False.elim hc)|(exfalso;omega)|(simp only [hb];clear hb))))<;>(try clear fct)
    all_goals
      (have fct:=@h;(first|refine G.r1 ?_|refine G.r2 ?_|refine G.r3 ?_|refine G.r0 ?_|refine G.d0 ?_);(try simp (disch:=first|exact dis|fail) only [push_cast,↓reduceIte,zq1,zq2,zq3,zq4,zq5,fct]);(try clear fct))
      (first|exact Sep.xt (by assumption)|exact ⟨rfl,Sep.xt (by assumption)⟩)
  · have hne:(s.take p.length == p)=false:=by
      rw [beq_eq_false_iff_ne]
      intro e
      have:=congrArg List.length e
      simp at this;omega
    (have fct:=@h;repeat' (first|((with_reducible apply G.a);exact rfl)|refine G.reg fun K hK=>?_|(with_reducible (refine hK _ _ ?_);clear hK K)|(have hk:=hK;clear hk;simp (disch:=first|exact dis|fail) only [push_cast,↓reduceIte,zq1,zq2,zq3,zq4,zq5,fct])|(refine brO_n ?_ ?_<;>intro hb hc<;>first|(with_reducible exact False.elim hc)|(exfalso;omega)|(simp only [hb];clear hb))))<;>(try clear fct)
    all_goals
      (have fct:=@h;(first|refine G.r1 ?_|refine G.r2 ?_|refine G.r3 ?_|refine G.r0 ?_|refine G.d0 ?_);(try simp (disch:=first|exact dis|fail) only [push_cast,↓reduceIte,zq1,zq2,zq3,zq4,zq5,fct]);(try clear fct))
      rw [hne]
      (first|exact Sep.xt (by assumption)|exact ⟨rfl,Sep.xt (by assumption)⟩)
def c116:MC:=(.seq (.reg [qq 4 (.mv (kb false))]) (.seq (.reg [qm 5 0,qm 6 1,qq 7 (.call 157 [(.tmp 5),(.tmp 6)]),qm 4 7]) .ret))
theorem k116:conv Tryz.prog 8 (Tryz.f116.body.getD .skip)=c116:=by kernel_rfl
theorem in116 {a0 a1:Value} {w:World} {R:Value→World→Prop} (h:G Tryz.prog Tryz.f116 8 [.c c116] R (frL 0 [a0,a1]) w):Ret Tryz.prog 116 #[a0,a1] w R:=G.enter (args:=[a0,a1]) Tryz.func116 (c:=Tryz.f116.body.getD .skip) (by kernel_rfl) (by kernel_rfl) (by simp) k116 h
theorem shp_spec (s p:Str) (w:World) (hl:s.length≤1000000000) (hp:p.length≤1000000000):Pu Tryz.prog 116 #[S s,S p] w (.bool (s.take p.length == p)):=by
  refine in116 ?_
  have hS:=Sep.start w
  repeat' (first|((with_reducible apply G.a);exact rfl)|refine G.reg fun K hK=>?_|(with_reducible (refine hK _ _ ?_);clear hK K)|(have hk:=hK;clear hk;simp (disch:=first|exact dis|fail) only [push_cast,↓reduceIte,zq1,zq2,zq3,zq4,zq5,fct])|(refine zcp 157 (hp_spec s p _ hl hp) ?_;intro wb hS))
  (first|refine G.r1 ?_|refine G.r2 ?_|refine G.r3 ?_|refine G.r0 ?_|refine G.d0 ?_);(try simp (disch:=first|exact dis|fail) only [push_cast,↓reduceIte,zq1,zq2,zq3,zq4,zq5,fct])
  exact Sep.xt (by assumption)
def c167:MC:=(.seq (.reg [qq 4 (.mv (.const (S []))),qq 5 (.mv (kb false))]) (.seq (.seq (.reg [qm 6 0,qm 7 1,qq 8 (.call 157 [(.tmp 6),(.tmp 7)]),qq 9 (.un .not (.tmp 8))]) (.cond (.tmp 9) (.seq (.reg [qm 10 0,qm 4 10,qq 5 (.mv (kb false))]) .ret) .skip)) (.seq (.reg [qm 11 0,qm 12 1,qq 13 (.lenS (.tmp 12)),qq 14 (.slS (.tmp 11) (.some (.tmp 13)) none),qm 4 14,qq 5 (.mv (kb true))]) .ret)))
theorem k167:conv Tryz.prog 15 (Tryz.f167.body.getD .skip)=c167:=by kernel_rfl
theorem in167 {a0 a1:Value} {w:World} {R:Value→World→Prop} (h:G Tryz.prog Tryz.f167 15 [.c c167] R (frL 0 [a0,a1]) w):Ret Tryz.prog 167 #[a0,a1] w R:=G.enter (args:=[a0,a1]) Tryz.func167 (c:=Tryz.f167.body.getD .skip) (by kernel_rfl) (by kernel_rfl) (by simp) k167 h
theorem cutp0_spec (s p:Str) (w:World) (hl:s.length≤1000000000) (hp:p.length≤1000000000):Pu Tryz.prog 167 #[S s,S p] w (.tuple #[S (if (s.take p.length == p)=true then s.drop p.length else s),.bool (s.take p.length == p)]):=by
  refine in167 ?_
  have hS:=Sep.start w
  cases h:(s.take p.length == p)
  · rw [if_neg (by simp)]
    (have fct:=@h;repeat' (first|((with_reducible apply G.a);exact rfl)|refine G.reg fun K hK=>?_|(with_reducible (refine hK _ _ ?_);clear hK K)|(have hk:=hK;clear hk;simp (disch:=first|exact dis|fail) only [push_cast,↓reduceIte,zq1,zq2,zq3,zq4,zq5,fct])|(refine zcp 157 (hp_spec s p _ hl hp) ?_;intro wb hS)|(refine G.cn ?_ ?_<;>intro hc<;>first|(with_reducible exact False.elim hc)|(exfalso;omega)|skip)))<;>(try clear fct)
    all_goals
      (have fct:=@h;(first|refine G.r1 ?_|refine G.r2 ?_|refine G.r3 ?_|refine G.r0 ?_|refine G.d0 ?_);(try simp (disch:=first|exact dis|fail) only [push_cast,↓reduceIte,zq1,zq2,zq3,zq4,zq5,fct]);(try clear fct))
      (first|exact Sep.xt (by assumption)|exact ⟨rfl,Sep.xt (by assumption)⟩)
  · rw [if_pos rfl]
    have hlen:(p.length:Int)≤s.length:=by
      have e:s.take p.length=p:=by simpa using h
      have:=congrArg List.length e
      simp at this;omega
    (have fct:=@h;repeat' (first|((with_reducible apply G.a);exact rfl)|refine G.reg fun K hK=>?_|(with_reducible (refine hK _ _ ?_);clear hK K)|(have hk:=hK;clear hk;simp (disch:=first|exact dis|fail) only [push_cast,↓reduceIte,zq1,zq2,zq3,zq4,zq5,fct])|(refine zcp 157 (hp_spec s p _ hl hp) ?_;intro wb hS)|(refine G.cn ?_ ?_<;>intro hc<;>first|(with_reducible exact False.elim hc)|(exfalso;omega)|skip)))<;>(try clear fct)
    all_goals
      (have fct:=@h;(first|refine G.r1 ?_|refine G.r2 ?_|refine G.r3 ?_|refine G.r0 ?_|refine G.d0 ?_);(try simp (disch:=first|exact dis|fail) only [push_cast,↓reduceIte,zq1,zq2,zq3,zq4,zq5,fct]);(try clear fct))
      (first|exact Sep.xt (by assumption)|exact ⟨rfl,Sep.xt (by assumption)⟩)
def cf128:MC:=(.seq (.reg [qq 4 (.mv (.const (S []))),qq 5 (.mv (kb false))]) (.seq (.reg [qm 6 0,qm 7 1,qq 8 (.call 167 [(.tmp 6),(.tmp 7)]),qq 9 (.ext 0 (.tmp 8)),qq 10 (.ext 1 (.tmp 8)),qm 4 9,qm 5 10]) .ret))
theorem k128:conv Tryz.prog 11 (Tryz.f128.body.getD .skip)=cf128:=by kernel_rfl
theorem in128 {a0 a1:Value} {w:World} {R:Value→World→Prop} (h:G Tryz.prog Tryz.f128 11 [.c cf128] R (frL 0 [a0,a1]) w):Ret Tryz.prog 128 #[a0,a1] w R:=G.enter (args:=[a0,a1]) Tryz.func128 (c:=Tryz.f128.body.getD .skip) (by kernel_rfl) (by kernel_rfl) (by simp) k128 h
theorem cutp_spec (s p:Str) (w:World) (hl:s.length≤1000000000) (hp:p.length≤1000000000):Pu Tryz.prog 128 #[S s,S p] w (.tuple #[S (if (s.take p.length == p)=true then s.drop p.length else s),.bool (s.take p.length == p)]):=by
  refine in128 ?_
  have hS:=Sep.start w
  repeat' (first|((with_reducible apply G.a);exact rfl)|refine G.reg fun K hK=>?_|(with_reducible (refine hK _ _ ?_);clear hK K)|(have hk:=hK;clear hk;simp (disch:=first|exact dis|fail) only [push_cast,↓reduceIte,zq1,zq2,zq3,zq4,zq5,fct])|(refine zcp 167 (cutp0_spec s p _ hl hp) ?_;intro wb hS))
  (first|refine G.r1 ?_|refine G.r2 ?_|refine G.r3 ?_|refine G.r0 ?_|refine G.d0 ?_);(try simp (disch:=first|exact dis|fail) only [push_cast,↓reduceIte,zq1,zq2,zq3,zq4,zq5,fct])
  (first|exact Sep.xt (by assumption)|exact ⟨rfl,Sep.xt (by assumption)⟩)
end Go.Proofs.YtllanbmpacgigaaGreatDoor
