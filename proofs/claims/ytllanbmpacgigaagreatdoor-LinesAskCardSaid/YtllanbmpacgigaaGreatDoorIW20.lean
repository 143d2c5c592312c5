/- Texts of the proof, joined. -/
import Derived.Test.YtllanbmpacgigaaGreatDoorIP20
import Derived.Test.YtllanbmpacgigaaGreatDoorIR02
namespace Go.Proofs.YtllanbmpacgigaaGreatDoor
open Operand renaming tmp→Y,const→yc
open MC renaming seq→Z,reg→yr,skip→yk,cond→yd
open MO renaming call→yl,bin→yb
open Nat renaming reduceAdd→zq1,reduceLeDiff→zq2,reduceEqDiff→zq3,reduceLT→zq4
open Int renaming reduceToNat→zq5
set_option linter.unusedSimpArgs false
set_option linter.unusedVariables false
attribute [local irreducible] SemK UnitK StK AlcK BslK CallK CallV Instr.box Builtin.append_ Instr.makeSlice Instr.makeMap Instr.lookup Instr.mapUpdate Instr.sliceAt convert
open Go.RowKit
def c112l1:MC:=(Z (yr [qq 14 (yb .lss (Y 13) (Y 12))]) (Z (yd (Y 14) yk (.exit 0)) (Z (.blk 1 (Z (yr [qm 15 13,qm 5 15]) (Z (.drg [qm 16 0,qm 17 5,qq 18 (.adr 4 (Y 16) (Y 17)),qq 19 (.ld (.some 4) (Y 18)),qm 20 1,qm 21 5,qq 22 (.adr 4 (Y 20) (Y 21)),qq 23 (.ld (.some 4) (Y 22)),qq 24 (.eqA true [.i,.s,.i,.b] (Y 19) (Y 23))] none) (yd (Y 24) (Z (yr [qq 4 (.mv (kb false))]) .ret) yk)))) (yr [qq 25 (yb .add (Y 13) (ki 1)),qm 13 25]))))
def c112:MC:=(Z (yr [qq 4 (.mv (kb false))]) (Z (Z (yr [qm 6 0,qq 7 (.len (Y 6)),qm 8 1,qq 9 (.len (Y 8)),qq 10 (yb .neq (Y 7) (Y 9))]) (yd (Y 10) (Z (yr [qq 4 (.mv (kb false))]) .ret) yk)) (Z (Z (yr [qm 11 0,qq 12 (.len (Y 11)),qq 13 (.mv (ki 0))]) (.blk 0 (.loop c112l1))) (Z (yr [qq 4 (.mv (kb true))]) .ret))))
theorem eqV_spec {va vb:Value} {a b:List Val} {w:World} (h1:Rd w eVal va a) (h2:Rd w eVal vb b):Pu Tryz.prog 112 #[va,vb] w (.bool (decide (a=b))):=by
 refine En 26 c112 Tryz.func112 ?_
 have hS:=Sep.start w
 have hbd:=h1.bd
 have hbd2:=h2.bd
 by_cases hl:(a.length:Int)=b.length
 rotate_left
 ·(have fct:=@hl;repeat' (first|(refine gO ?_;intro K hK)|(refine kP ?_;clear hK K)|(intro wd hxd;have hS:=Sep.xx hxd)|refine sA ?_|(refine G.cn ?_ ?_<;>intro hc<;>try exact zxf)))<;>(try clear fct)
  all_goals
   refine rM ?_
   exact ⟨by rw [decide_eq_false (fun h=>hl (by rw [h]))],Sep.xt ‹_›⟩
 ·(have fct:=@hl;repeat' (first|(refine gO ?_;intro K hK)|(refine kP ?_;clear hK K)|(intro wd hxd;have hS:=Sep.xx hxd)|refine sA ?_|(refine G.cn ?_ ?_<;>intro hc<;>try exact zxf)))<;>(try clear fct)
  refine G.loop (fun r w'=>∃ k:Nat,k≤a.length∧r 13=I k∧r 12=I a.length∧r 0=va∧r 1=vb∧a.take k=b.take k∧Sep w w' []) (fun r _=>a.length - toN (r 13)) ?_ ?_
  ·have fct:=@hl;exact ⟨0,Nat.zero_le _,by exact sf,by exact sf,by exact sf,by exact sf,rfl,hS⟩
  ·clear hS
   rintro u wl ⟨k,hk,q13,q12,q0,q1,e,hS⟩ ih
   have hm:toN (u 13)=k:=by rw [q13];simp [toN]
   by_cases hlt:(k:Int) < a.length
   ·have hlb:(k:Int) < b.length:=by omega
    have h1k:=h1.ext hS.x
    have h2k:=h2.ext hS.x
    by_cases hv:a.getD k default=b.getD k default
    ·(have fct:=(a5 @q13 @q12 @q0 @q1 @hv);repeat' (first|(refine gO ?_;intro K hK)|(refine kP ?_;clear hK K)|(intro wd hxd;have hS:=Sep.xx hxd)|refine sA ?_|(refine G.cn ?_ ?_<;>intro hc<;>try exact zxf)))<;>(try clear fct)
     all_goals
      have fct:=(a4 @q13 @q12 @q0 @q1);refine ih _ _ ⟨k+1,by omega,by exact sf,by exact sf,by exact sf,by exact sf,row_step a b k zo zo e hv,hS⟩ ?_
      rw [hm];simp only [push_cast,↓reduceIte,zq1,zq2,zq3,zq4,zq5,toN_i,q13,q12,q0,q1];omega
    ·(have fct:=(a4 @q13 @q12 @q0 @q1);repeat' (first|(refine gO ?_;intro K hK)|(refine kP ?_;clear hK K)|(intro wd hxd;have hS:=Sep.xx hxd)|refine sA ?_|(refine G.cn ?_ ?_<;>intro hc<;>try exact zxf)))<;>(try clear fct)
     all_goals first
      | exact absurd ((val_eq _ _).2 ‹_›) hv
      | ((have fct:=(a4 @q13 @q12 @q0 @q1);refine rM ?_);exact ⟨by rw [decide_eq_false (fun h=>hv (by rw [h]))],Sep.xt ‹_›⟩)
   ·(have fct:=(a4 @q13 @q12 @q0 @q1);repeat' (first|(refine gO ?_;intro K hK)|(refine kP ?_;clear hK K)|(intro wd hxd;have hS:=Sep.xx hxd)|refine sA ?_|(refine G.cn ?_ ?_<;>intro hc<;>try exact zxf)))<;>(try clear fct)
    all_goals
     (have fct:=(a4 @q13 @q12 @q0 @q1);refine rM ?_)
     refine ⟨?_,Sep.xt ‹_›⟩
     rw [List.take_of_length_le zo,List.take_of_length_le zo] at e
     rw [decide_eq_true e]
end Go.Proofs.YtllanbmpacgigaaGreatDoor
