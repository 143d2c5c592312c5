/- Texts of the proof, joined. -/
import Derived.Test.YtllanbmpacgigaaGreatDoorProg
import Derived.Test.YtllanbmpacgigaaGreatDoorIMc
import Derived.Test.YtllanbmpacgigaaGreatDoorIPa
namespace Go.Proofs.YtllanbmpacgigaaGreatDoor
open Operand renaming tmp→Y,const→yc
open MC renaming seq→Z,reg→yr,skip→yk,cond→yd
open MO renaming call→yl,bin→yb
open Nat renaming reduceAdd→zq1,reduceLeDiff→zq2,reduceEqDiff→zq3,reduceLT→zq4
open Int renaming reduceToNat→zq5
set_option linter.unusedSimpArgs false
set_option linter.unusedVariables false
attribute [local irreducible] SemK UnitK StK AlcK BslK CallK CallV Instr.box Builtin.append_ Instr.makeSlice Instr.makeMap Instr.lookup Instr.mapUpdate Instr.sliceAt convert
open Go.RowKit
def c169:MC:=(Z (yr [qq 8 (.mv (ki 0)),qq 9 (.mv (kb false))]) (Z (Z (yr [qm 10 0,qm 11 1,qq 12 (yb .lss (Y 10) (Y 11)),qm 13 12,qmf 13 14 0,qmf 13 15 2,qf 13 16 (yb .gtr (Y 14) (Y 15)),qq 17 (.pick (Y 13) (kb true) (Y 16))]) (yd (Y 17) (Z (yr [qq 8 (.mv (ki 0)),qq 9 (.mv (kb false))]) .ret) yk)) (Z (yr [qm 18 3,qm 8 18,qq 9 (.mv (kb true))]) .ret)))
def c168:MC:=(Z (yr [qq 2 (.mv (ki 0)),qq 3 (.mv (kb false))]) (Z (.blk 0 (Z (yr [qm 5 0,qq 6 (yb .leq (Y 5) (yc (.int .u8 127))),qm 4 6]) (yd (Y 4) (Z (yr [qq 2 (.mv (ki 0)),qq 3 (.mv (kb true))]) .ret) (Z (yr [qm 8 0,qq 9 (yb .lss (Y 8) (yc (.int .u8 194))),qm 7 9]) (yd (Y 7) (Z (yr [qq 2 (.mv (ki 0)),qq 3 (.mv (kb false))]) .ret) (Z (yr [qm 11 0,qq 12 (yb .leq (Y 11) (yc (.int .u8 223))),qm 10 12]) (yd (Y 10) (Z (yr [qq 2 (.mv (ki 1)),qq 3 (.mv (kb true))]) .ret) (Z (yr [qm 14 0,qq 15 (yb .eql (Y 14) (yc (.int .u8 224))),qm 13 15]) (yd (Y 13) (Z (yr [qq 2 (.mv (ki 4)),qq 3 (.mv (kb true))]) .ret) (Z (yr [qm 17 0,qq 18 (yb .eql (Y 17) (yc (.int .u8 237))),qm 16 18]) (yd (Y 16) (Z (yr [qq 2 (.mv (ki 5)),qq 3 (.mv (kb true))]) .ret) (Z (yr [qm 20 0,qq 21 (yb .leq (Y 20) (yc (.int .u8 239))),qm 19 21]) (yd (Y 19) (Z (yr [qq 2 (.mv (ki 2)),qq 3 (.mv (kb true))]) .ret) (Z (yr [qm 23 0,qq 24 (yb .eql (Y 23) (yc (.int .u8 240))),qm 22 24]) (yd (Y 22) (Z (yr [qq 2 (.mv (ki 6)),qq 3 (.mv (kb true))]) .ret) (Z (yr [qm 26 0,qq 27 (yb .leq (Y 26) (yc (.int .u8 243))),qm 25 27]) (yd (Y 25) (Z (yr [qq 2 (.mv (ki 3)),qq 3 (.mv (kb true))]) .ret) (Z (yr [qm 29 0,qq 30 (yb .eql (Y 29) (yc (.int .u8 244))),qm 28 30]) (yd (Y 28) (Z (yr [qq 2 (.mv (ki 7)),qq 3 (.mv (kb true))]) .ret) yk))))))))))))))))))) (Z (yr [qq 2 (.mv (ki 0)),qq 3 (.mv (kb false))]) .ret)))
def c129:MC:=(Z (yr [qq 4 (.mv (ki 0)),qq 5 (.mv (kb false))]) (Z (Z (yr [qm 6 0]) (.blk 0 (Z (yr [qq 8 (yb .eql (Y 6) (ki 0)),qm 7 8]) (yd (Y 7) (Z (yr [qm 9 1,qq 10 (yl 168 [(Y 9)]),qq 11 (.ext 0 (Y 10)),qq 12 (.ext 1 (Y 10)),qm 4 11,qm 5 12]) .ret) (Z (yr [qq 14 (yb .eql (Y 6) (ki 1)),qm 13 14]) (yd (Y 13) (Z (yr [qm 15 1,qq 16 (yl 169 [(Y 15),(yc (.int .u8 128)),(yc (.int .u8 191)),(ki 0)]),qq 17 (.ext 0 (Y 16)),qq 18 (.ext 1 (Y 16)),qm 4 17,qm 5 18]) .ret) (Z (yr [qq 20 (yb .eql (Y 6) (ki 2)),qm 19 20]) (yd (Y 19) (Z (yr [qm 21 1,qq 22 (yl 169 [(Y 21),(yc (.int .u8 128)),(yc (.int .u8 191)),(ki 1)]),qq 23 (.ext 0 (Y 22)),qq 24 (.ext 1 (Y 22)),qm 4 23,qm 5 24]) .ret) (Z (yr [qq 26 (yb .eql (Y 6) (ki 3)),qm 25 26]) (yd (Y 25) (Z (yr [qm 27 1,qq 28 (yl 169 [(Y 27),(yc (.int .u8 128)),(yc (.int .u8 191)),(ki 2)]),qq 29 (.ext 0 (Y 28)),qq 30 (.ext 1 (Y 28)),qm 4 29,qm 5 30]) .ret) (Z (yr [qq 32 (yb .eql (Y 6) (ki 4)),qm 31 32]) (yd (Y 31) (Z (yr [qm 33 1,qq 34 (yl 169 [(Y 33),(yc (.int .u8 160)),(yc (.int .u8 191)),(ki 1)]),qq 35 (.ext 0 (Y 34)),qq 36 (.ext 1 (Y 34)),qm 4 35,qm 5 36]) .ret) (Z (yr [qq 38 (yb .eql (Y 6) (ki 5)),qm 37 38]) (yd (Y 37) (Z (yr [qm 39 1,qq 40 (yl 169 [(Y 39),(yc (.int .u8 128)),(yc (.int .u8 159)),(ki 1)]),qq 41 (.ext 0 (Y 40)),qq 42 (.ext 1 (Y 40)),qm 4 41,qm 5 42]) .ret) (Z (yr [qq 44 (yb .eql (Y 6) (ki 6)),qm 43 44]) (yd (Y 43) (Z (yr [qm 45 1,qq 46 (yl 169 [(Y 45),(yc (.int .u8 144)),(yc (.int .u8 191)),(ki 2)]),qq 47 (.ext 0 (Y 46)),qq 48 (.ext 1 (Y 46)),qm 4 47,qm 5 48]) .ret) (Z (yr [qq 50 (yb .eql (Y 6) (ki 7)),qm 49 50]) (yd (Y 49) (Z (yr [qm 51 1,qq 52 (yl 169 [(Y 51),(yc (.int .u8 128)),(yc (.int .u8 143)),(ki 2)]),qq 53 (.ext 0 (Y 52)),qq 54 (.ext 1 (Y 52)),qm 4 53,qm 5 54]) .ret) yk)))))))))))))))))) (Z (yr [qq 4 (.mv (ki 0)),qq 5 (.mv (kb false))]) .ret)))
def c142l1:MC:=(Z (Z (yr [qm 8 5,qm 9 1,qq 10 (.lenS (Y 9)),qq 11 (yb .lss (Y 8) (Y 10))]) (yd (Y 11) yk (.exit 0))) (.blk 1 (Z (yr [qm 13 0,qm 14 1,qm 15 5,qq 16 (.idxS (Y 14) (Y 15)),qq 17 (yl 129 [(Y 13),(Y 16)]),qm 12 17,qq 18 (.ext 0 (Y 12)),qq 19 (.ext 1 (Y 12)),qm 6 18,qm 7 19]) (Z (Z (yr [qm 20 7,qq 21 (.un .not (Y 20))]) (yd (Y 21) (.exit 0) yk)) (Z (yr [qm 22 6,qm 0 22]) (yr [qm 23 5,qq 24 (yb .add (Y 23) (ki 1)),qm 5 24]))))))
def c142:MC:=(.seq (.reg [qq 4 (.mv (ki 0)),qq 5 (.mv (ki 0))]) (.seq (.blk 0 (.loop c142l1)) (.seq (.reg [qm 25 0,qm 26 5,qm 4 25,qm 5 26]) .ret)))
theorem follow_spec (b least most next:Int) (w:World):Pu Tryz.prog 169 #[U b,U least,U most,I next] w (.tuple #[I (followM b least most next).1,.bool (followM b least most next).2]):=by
 refine En 19 c169 Tryz.func169 ?_
 have hS:=Sep.start w
 unfold followM
 repeat' (first|refine aM ?_|refine G.reg fun K hK=>?_|(refine kM ?_;clear hK K)|((first|have hk:=hK|have hk:=hK2);clear hk;simp (disch:=(first|exact dis|fail)) only [push_cast,↓reduceIte,zq1,zq2,zq3,zq4,zq5])|((first|refine brO_mk ?_ ?_|refine brQ_mk ?_ ?_)<;>intro hb<;>(try simp only [Bool.not_eq_true',Bool.not_eq_false'] at hb)<;>have hc:=hb<;>(try simp only [hcs,reduceCtorEq] at hc)<;>(try (exfalso;omega))<;>simp only [hb]<;>clear hb)|(refine zalc ?_;intro gb wb hS)|(refine zbsl ?_;intro gb wb hS)|((with_reducible (show SemK _ (Instr.box _ _) _ _ _ _));refine zbox ?_;intro gb wb hS)|((with_reducible (show StK _ _ (Value.pointer _) _ _ _ _ _));refine zst ?_;intro wb hS;(try simp only [sets] at hS))|(refine zcv ?_)  | (refine G.cond (by simp only [push_cast,↓reduceIte,zq1,zq2,zq3,zq4,zq5];rfl) ?_ ?_<;>intro hc<;>(try simp only [hcs,reduceCtorEq] at hc)<;>(try (exfalso;omega))))
 all_goals
  refine rM ?_
  (refine ⟨?_,Sep.xt ‹_›⟩)
  ((simp (disch:=omega) only [if_pos,if_neg])<;>done)
theorem begin_spec (b:Int) (w:World):Pu Tryz.prog 168 #[U b] w (.tuple #[I (beginM b).1,.bool (beginM b).2]):=by
 refine En 31 c168 Tryz.func168 ?_
 have hS:=Sep.start w
 unfold beginM
 repeat' (first|refine aM ?_|refine G.reg fun K hK=>?_|(refine kM ?_;clear hK K)|((first|have hk:=hK|have hk:=hK2);clear hk;simp (disch:=(first|exact dis|fail)) only [push_cast,↓reduceIte,zq1,zq2,zq3,zq4,zq5])|((first|refine brO_mk ?_ ?_|refine brQ_mk ?_ ?_)<;>intro hb<;>(try simp only [Bool.not_eq_true',Bool.not_eq_false'] at hb)<;>have hc:=hb<;>(try simp only [hcs,reduceCtorEq] at hc)<;>(try (exfalso;omega))<;>simp only [hb]<;>clear hb)|(refine zalc ?_;intro gb wb hS)|(refine zbsl ?_;intro gb wb hS)|((with_reducible (show SemK _ (Instr.box _ _) _ _ _ _));refine zbox ?_;intro gb wb hS)|((with_reducible (show StK _ _ (Value.pointer _) _ _ _ _ _));refine zst ?_;intro wb hS;(try simp only [sets] at hS))|(refine zcv ?_)  | (refine G.cond (by simp only [push_cast,↓reduceIte,zq1,zq2,zq3,zq4,zq5];rfl) ?_ ?_<;>intro hc<;>(try simp only [hcs,reduceCtorEq] at hc)<;>(try (exfalso;omega))))
 all_goals
  refine rM ?_
  (refine ⟨?_,Sep.xt ‹_›⟩)
  ((simp (disch:=omega) only [if_pos,if_neg])<;>done)
theorem step_spec (st b:Int) (w:World):Pu Tryz.prog 129 #[I st,U b] w (.tuple #[I (stepM st b).1,.bool (stepM st b).2]):=by
 refine En 55 c129 Tryz.func129 ?_
 have hS:=Sep.start w
 unfold stepM
 repeat' (first|refine aM ?_|refine G.reg fun K hK=>?_|(refine kM ?_;clear hK K)|((first|have hk:=hK|have hk:=hK2);clear hk;simp (disch:=(first|exact dis|fail)) only [push_cast,↓reduceIte,zq1,zq2,zq3,zq4,zq5])|((first|refine brO_mk ?_ ?_|refine brQ_mk ?_ ?_)<;>intro hb<;>(try simp only [Bool.not_eq_true',Bool.not_eq_false'] at hb)<;>have hc:=hb<;>(try simp only [hcs,reduceCtorEq] at hc)<;>(try (exfalso;omega))<;>simp only [hb]<;>clear hb)|(refine zalc ?_;intro gb wb hS)|(refine zbsl ?_;intro gb wb hS)|((with_reducible (show SemK _ (Instr.box _ _) _ _ _ _));refine zbox ?_;intro gb wb hS)|((with_reducible (show StK _ _ (Value.pointer _) _ _ _ _ _));refine zst ?_;intro wb hS;(try simp only [sets] at hS))|(refine zcv ?_)|(refine zcp 168 (begin_spec _ _) ?_;intro wb hS)|(refine zcp 169 (follow_spec _ _ _ _ _) ?_;intro wb hS)|(refine G.cond (by simp only [push_cast,↓reduceIte,zq1,zq2,zq3,zq4,zq5];rfl) ?_ ?_<;>intro hc<;>(try simp only [hcs,reduceCtorEq] at hc)<;>(try (exfalso;omega))))
 all_goals
  refine rM ?_
  (refine ⟨?_,Sep.xt ‹_›⟩)
  ((simp (disch:=omega) only [if_pos,if_neg])<;>done)
theorem run_spec (st:Int) (l:List UInt8) (w:World) (hl:l.length≤9223372036854775807):Pu Tryz.prog 142 #[I st,S l] w (.tuple #[I (runM st l).1,I (runM st l).2]):=by
 refine En 27 c142 Tryz.func142 ?_
 have hS:=Sep.start w
 repeat' (first|refine aM ?_|refine G.reg fun K hK=>?_|(refine kM ?_;clear hK K)|((first|have hk:=hK|have hk:=hK2);clear hk;simp (disch:=(first|exact dis|fail)) only [push_cast,↓reduceIte,zq1,zq2,zq3,zq4,zq5])|((first|refine brO_mk ?_ ?_|refine brQ_mk ?_ ?_)<;>intro hb<;>(try simp only [Bool.not_eq_true',Bool.not_eq_false'] at hb)<;>have hc:=hb<;>(try simp only [hcs,reduceCtorEq] at hc)<;>(try (exfalso;omega))<;>simp only [hb]<;>clear hb)|(refine zalc ?_;intro gb wb hS)|(refine zbsl ?_;intro gb wb hS)|((with_reducible (show SemK _ (Instr.box _ _) _ _ _ _));refine zbox ?_;intro gb wb hS)|((with_reducible (show StK _ _ (Value.pointer _) _ _ _ _ _));refine zst ?_;intro wb hS;(try simp only [sets] at hS))|(refine zcv ?_)  | (refine G.cond (by simp only [push_cast,↓reduceIte,zq1,zq2,zq3,zq4,zq5];rfl) ?_ ?_<;>intro hc<;>(try simp only [hcs,reduceCtorEq] at hc)<;>(try (exfalso;omega))))
 refine G.loop (fun r w'=>∃ (k:Nat) (s:Int),k≤l.length∧r 5=I k∧r 0=I s∧r 1=S l∧(runM st l).1=(runM s (l.drop k)).1∧(runM st l).2=k+(runM s (l.drop k)).2∧Sep w w' []) (fun r _=>l.length - toN (r 5)) ?_ ?_
 ·refine ⟨0,st,?_⟩
  ((repeat' apply aI)<;>first|exact dj|(simp only [push_cast,↓reduceIte,zq1,zq2,zq3,zq4,zq5]<;>omega)|skip)
 ·rintro u wl ⟨k,s,hk,h5,h0,h1,e1,e2,hS⟩ ih
  by_cases hlt:k < l.length
  ·have hdr:l.drop k=l[k] :: l.drop (k+1):=List.drop_eq_getElem_cons hlt
   have hg:l.getD k 0=l[k]:=by simp [List.getD,List.getElem?_eq_getElem hlt]
   repeat' (first|refine aM ?_|refine G.reg fun K hK=>?_|(refine kM ?_;clear hK K)|((first|have hk:=hK|have hk:=hK2);clear hk;simp (disch:=(first|exact dis|fail)) only [push_cast,↓reduceIte,zq1,zq2,zq3,zq4,zq5,h5,h0,h1,hg])|((first|refine brO_mk ?_ ?_|refine brQ_mk ?_ ?_)<;>intro hb<;>(try simp only [Bool.not_eq_true',Bool.not_eq_false'] at hb)<;>have hc:=hb<;>(try simp only [hcs,reduceCtorEq] at hc)<;>(try (exfalso;omega))<;>simp only [hb]<;>clear hb)|(refine zalc ?_;intro gb wb hS)|(refine zbsl ?_;intro gb wb hS)|((with_reducible (show SemK _ (Instr.box _ _) _ _ _ _));refine zbox ?_;intro gb wb hS)|((with_reducible (show StK _ _ (Value.pointer _) _ _ _ _ _));refine zst ?_;intro wb hS;(try simp only [sets] at hS))|(refine zcv ?_)|(refine zcp 129 (step_spec _ _ _) ?_;intro wb hS)|(refine G.cond (by simp only [push_cast,↓reduceIte,zq1,zq2,zq3,zq4,zq5,h5,h0,h1,hg];rfl) ?_ ?_<;>intro hc<;>(try simp only [hcs,reduceCtorEq] at hc)<;>(try (exfalso;omega))))
   ·(have fct:=(a3 @h5 @h0 @h1);refine rM ?_)
    (refine ⟨?_,Sep.xt ‹_›⟩)
    rw [e1,e2,hdr]
    simp [runM,hc]
   ·(refine ih _ _ ⟨k+1,(stepM s l[k].toNat).1,?_⟩ ?_;rotate_left;(focus ((simp only [push_cast,↓reduceIte,zq1,zq2,zq3,zq4,zq5,toN_i,h5,h0,h1]<;>omega)));((repeat' apply aI)<;>first|exact dj|(simp only [push_cast,↓reduceIte,zq1,zq2,zq3,zq4,zq5,h5,h0,h1]<;>omega)|skip))
    ·rw [e1,hdr];simp [runM,hc]
    ·rw [e2,hdr];simp [runM,hc];omega
  ·repeat' (first|refine aM ?_|refine G.reg fun K hK=>?_|(refine kM ?_;clear hK K)|((first|have hk:=hK|have hk:=hK2);clear hk;simp (disch:=(first|exact dis|fail)) only [push_cast,↓reduceIte,zq1,zq2,zq3,zq4,zq5,h5,h0,h1])|((first|refine brO_mk ?_ ?_|refine brQ_mk ?_ ?_)<;>intro hb<;>(try simp only [Bool.not_eq_true',Bool.not_eq_false'] at hb)<;>have hc:=hb<;>(try simp only [hcs,reduceCtorEq] at hc)<;>(try (exfalso;omega))<;>simp only [hb]<;>clear hb)|(refine zalc ?_;intro gb wb hS)|(refine zbsl ?_;intro gb wb hS)|((with_reducible (show SemK _ (Instr.box _ _) _ _ _ _));refine zbox ?_;intro gb wb hS)|((with_reducible (show StK _ _ (Value.pointer _) _ _ _ _ _));refine zst ?_;intro wb hS;(try simp only [sets] at hS))|(refine zcv ?_)  | (refine G.cond (by simp only [push_cast,↓reduceIte,zq1,zq2,zq3,zq4,zq5,h5,h0,h1];rfl) ?_ ?_<;>intro hc<;>(try simp only [hcs,reduceCtorEq] at hc)<;>(try (exfalso;omega))))
   (have fct:=(a3 @h5 @h0 @h1);refine rM ?_)
   (refine ⟨?_,Sep.xt ‹_›⟩)
   have:k=l.length:=by omega
   subst this
   rw [e1,e2]
   simp [runM]
def c104:MC:=(Z (yr [qq 2 (.mv (kb false))]) (Z (yr [qm 6 0,qq 7 (yl 142 [(ki 0),(Y 6)]),qm 5 7,qq 8 (.ext 0 (Y 5)),qq 9 (.ext 1 (Y 5)),qm 3 8,qm 4 9]) (Z (yr [qm 10 4,qm 11 0,qq 12 (.lenS (Y 11)),qq 13 (yb .eql (Y 10) (Y 12)),qm 14 13,qmt 14 15 3,qt 14 16 (yb .eql (Y 15) (ki 0)),qq 17 (.pick (Y 14) (Y 16) (kb false)),qm 2 17]) .ret)))
theorem valid_spec (l:List UInt8) (w:World) (hl:l.length≤9223372036854775807):Pu Tryz.prog 104 #[S l] w (.bool (validM l)):=by
 refine En 18 c104 Tryz.func104 ?_
 have hS:=Sep.start w
 repeat' (first|refine aM ?_|refine G.reg fun K hK=>?_|(refine kM ?_;clear hK K)|((first|have hk:=hK|have hk:=hK2);clear hk;simp (disch:=(first|exact dis|fail)) only [push_cast,↓reduceIte,zq1,zq2,zq3,zq4,zq5])|((first|refine brO_mk ?_ ?_|refine brQ_mk ?_ ?_)<;>intro hb<;>(try simp only [Bool.not_eq_true',Bool.not_eq_false'] at hb)<;>have hc:=hb<;>(try simp only [hcs,reduceCtorEq] at hc)<;>(try (exfalso;omega))<;>simp only [hb]<;>clear hb)|(refine zalc ?_;intro gb wb hS)|(refine zbsl ?_;intro gb wb hS)|((with_reducible (show SemK _ (Instr.box _ _) _ _ _ _));refine zbox ?_;intro gb wb hS)|((with_reducible (show StK _ _ (Value.pointer _) _ _ _ _ _));refine zst ?_;intro wb hS;(try simp only [sets] at hS))|(refine zcv ?_)|(refine zcp 142 (run_spec _ _ _ hl) ?_;intro wb hS)|(refine G.cond (by simp only [push_cast,↓reduceIte,zq1,zq2,zq3,zq4,zq5];rfl) ?_ ?_<;>intro hc<;>(try simp only [hcs,reduceCtorEq] at hc)<;>(try (exfalso;omega))))
 all_goals
  refine rM ?_
  (refine ⟨?_,Sep.xt ‹_›⟩)
  congr 1;simp [validM];omega
end Go.Proofs.YtllanbmpacgigaaGreatDoor
