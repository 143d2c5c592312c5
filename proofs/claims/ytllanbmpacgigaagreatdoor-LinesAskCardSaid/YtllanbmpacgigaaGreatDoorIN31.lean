/- Texts of the proof, joined. -/
import Derived.Test.YtllanbmpacgigaaGreatDoorIBi
import Derived.Test.YtllanbmpacgigaaGreatDoorIE30
namespace Go.Proofs.YtllanbmpacgigaaGreatDoor
open Operand renaming tmp→Y,const→yc
open MC renaming seq→Z,reg→yr,skip→yk,cond→yd
open MO renaming call→yl,bin→yb
open Nat renaming reduceAdd→zq1,reduceLeDiff→zq2,reduceEqDiff→zq3,reduceLT→zq4
open Int renaming reduceToNat→zq5
set_option linter.unusedSimpArgs false
set_option linter.unusedVariables false
attribute [local irreducible] SemK UnitK StK AlcK BslK CallK CallV Instr.box Builtin.append_ Instr.makeSlice Instr.makeMap Instr.lookup Instr.mapUpdate Instr.sliceAt convert
open Go.RowKit
def Ctk (s:Str) (k:Nat):Prop:=cutM 32 s=(cutM 32 (s.drop k)).map fun p=>(s.take k++p.1,p.2)
theorem Ctk.zero (s:Str):Ctk s 0:=by simp [Ctk]
theorem Ctk.hit {s:Str} {k:Nat} (h:Ctk s k) (hk:(k:Int) < s.length) (hb:s.getD k 0=32):cutT 32 s=(s.take k,s.drop (k+1),true):=by
 unfold Ctk at h
 rw [dropB s k hk,hb,cutM,if_pos rfl] at h
 simp [cutT,h]
theorem Ctk.succ {s:Str} {k:Nat} (h:Ctk s k) (hk:(k:Int) < s.length) (hb:s.getD k 0≠32):Ctk s (k+1):=by
 unfold Ctk at h ⊢
 rw [dropB s k hk,cutM,if_neg hb,Option.map_map] at h
 rw [h]
 congr 1
 funext p
 have:s.take (k+1)=s.take k++[s.getD k 0]:=by
  rw [List.take_add_one,List.getD_eq_getElem?_getD]
  have:k < s.length:=by omega
  simp [this]
 simp [this]
theorem Ctk.out {s:Str} {k:Nat} (h:Ctk s k) (hk:¬ (k:Int) < s.length):cutT 32 s=(s,[],false):=by
 unfold Ctk at h
 rw [List.drop_eq_nil_of_le zo] at h
 simp [cutT,h,cutM]
def c31l1:MC:=(Z (Z (yr [qm 6 5,qm 7 0,qq 8 (.lenS (Y 7)),qq 9 (yb .lss (Y 6) (Y 8))]) (yd (Y 9) yk (.exit 0))) (Z (.blk 1 (Z (yr [qm 12 0,qm 13 5,qq 14 (.idxS (Y 12) (Y 13)),qq 15 (yb .eql (Y 14) (yc (.int .u8 32)))]) (yd (Y 15) (Z (.drg [qm 16 0,qm 17 5,qq 18 (.slS (Y 16) none (.some (Y 17))),qm 19 0,qm 20 5,qq 21 (yb .add (Y 20) (ki 1)),qq 22 (.slS (Y 19) (.some (Y 21)) none),qm 2 18,qm 3 22,qq 4 (.mv (kb true))] none) .ret) yk))) (yr [qm 10 5,qq 11 (yb .add (Y 10) (ki 1)),qm 5 11])))
def c31:MC:=(.seq (.reg [qq 2 (.mv (.const (S []))),qq 3 (.mv (.const (S []))),qq 4 (.mv (kb false))]) (.seq (.seq (.reg [qq 5 (.mv (ki 0))]) (.blk 0 (.loop c31l1))) (.seq (.reg [qm 23 0,qm 2 23,qq 3 (.mv (.const (S []))),qq 4 (.mv (kb false))]) .ret)))
theorem rcut30_spec (s:Str) (w:World) (hl:s.length≤1000000):Pu Tryz.prog 31 #[S s] w (.tuple #[S (cutT 32 s).1,S (cutT 32 s).2.1,.bool (cutT 32 s).2.2]):=by
 refine En 24 c31 Tryz.func31 ?_
 have hS:=Sep.start w
 repeat' (first|(refine gO ?_;intro K hK)|(refine kP ?_;clear hK K)|(intro wd hxd;have hS:=Sep.xx hxd)|refine sA ?_|(refine G.cn ?_ ?_<;>intro hc<;>try exact zxf))
 refine G.loop (fun r w'=>∃ k:Nat,k≤s.length∧r 5=I k∧r 0=S s∧Ctk s k∧Sep w w' []) (fun r _=>s.length - toN (r 5)) ?_ ?_
 ·exact ⟨0,Nat.zero_le _,by exact sf,by exact sf,Ctk.zero s,hS⟩
 ·clear hS
  rintro u wl ⟨k,hk,h5,h0,e,hS⟩ ih
  have hm:toN (u 5)=k:=by rw [h5];simp [toN]
  by_cases hlt:(k:Int) < s.length
  ·by_cases hb:((s.getD k 0).toNat:Int)=32
   ·have e2:=e.hit hlt (u8_eq (c:=32) (n:=32) rfl hb)
    rw [e2]
    dsimp only
    have ht:((k:Int)+1).toNat=k+1:=by omega
    (have fct:=(a4 @h5 @h0 @hb @ht);repeat' (first|(refine gO ?_;intro K hK)|(refine kP ?_;clear hK K)|(intro wd hxd;have hS:=Sep.xx hxd)|refine sA ?_|(refine G.cn ?_ ?_<;>intro hc<;>try exact zxf)))<;>(try clear fct)
    all_goals
     (have fct:=(a3 @h5 @h0 @ht);refine rM ?_)
     (first|exact Sep.xt ‹_›|exact ⟨rfl,Sep.xt ‹_›⟩)
   ·have e2:=e.succ hlt (u8_ne (c:=32) (n:=32) rfl hb)
    (have fct:=(a3 @h5 @h0 @hb);repeat' (first|(refine gO ?_;intro K hK)|(refine kP ?_;clear hK K)|(intro wd hxd;have hS:=Sep.xx hxd)|refine sA ?_|(refine G.cn ?_ ?_<;>intro hc<;>try exact zxf)))<;>(try clear fct)
    all_goals
     refine ih _ _ ⟨k+1,by omega,by simp only [push_cast,↓reduceIte,zq1,zq2,zq3,zq4,zq5,h5,h0]<;>omega,by simp only [push_cast,↓reduceIte,zq1,zq2,zq3,zq4,zq5,h5,h0],e2,hS⟩ ?_
     rw [hm];simp only [push_cast,↓reduceIte,zq1,zq2,zq3,zq4,zq5,toN_i,h5,h0];omega
  ·rw [e.out hlt]
   dsimp only
   (have fct:=(aI @h5 @h0);repeat' (first|(refine gO ?_;intro K hK)|(refine kP ?_;clear hK K)|(intro wd hxd;have hS:=Sep.xx hxd)|refine sA ?_|(refine G.cn ?_ ?_<;>intro hc<;>try exact zxf)))<;>(try clear fct)
   all_goals
    (have fct:=(aI @h5 @h0);refine rM ?_)
    (first|exact Sep.xt ‹_›|exact ⟨rfl,Sep.xt ‹_›⟩)
def c32l1:MC:=(Z (Z (yr [qm 4 3,qm 5 0,qq 6 (.lenS (Y 5)),qq 7 (yb .lss (Y 4) (Y 6))]) (yd (Y 7) yk (.exit 0))) (Z (.blk 1 (Z (yr [qm 10 0,qm 11 3,qq 12 (.idxS (Y 10) (Y 11)),qq 13 (yb .geq (Y 12) (yc (.int .u8 97))),qm 14 13,qmt 14 15 0,qmt 14 16 3,qt 14 17 (.idxS (Y 15) (Y 16)),qt 14 18 (yb .leq (Y 17) (yc (.int .u8 122))),qq 19 (.pick (Y 14) (Y 18) (kb false)),qq 20 (.un .not (Y 19)),qm 21 20,qmt 21 22 0,qmt 21 23 3,qt 21 24 (.idxS (Y 22) (Y 23)),qt 21 25 (yb .geq (Y 24) (yc (.int .u8 48))),qmt 21 26 25,qmt 26 27 0,qmt 26 28 3,qt 26 29 (.idxS (Y 27) (Y 28)),qt 26 30 (yb .leq (Y 29) (yc (.int .u8 57))),qt 21 31 (.pick (Y 26) (Y 30) (kb false)),qt 21 32 (.un .not (Y 31)),qq 33 (.pick (Y 21) (Y 32) (kb false))]) (yd (Y 33) (Z (yr [qq 2 (.mv (kb false))]) .ret) yk))) (yr [qm 8 3,qq 9 (yb .add (Y 8) (ki 1)),qm 3 9])))
def c32:MC:=(Z (yr [qq 2 (.mv (kb false))]) (Z (Z (yr [qq 3 (.mv (ki 0))]) (.blk 0 (.loop c32l1))) (Z (yr [qm 34 0,qq 35 (.lenS (Y 34)),qq 36 (yb .geq (Y 35) (ki 1)),qm 37 36,qmt 37 38 0,qt 37 39 (.lenS (Y 38)),qt 37 40 (yb .leq (Y 39) (ki 20)),qq 41 (.pick (Y 37) (Y 40) (kb false)),qm 2 41]) .ret)))
theorem rname30_spec (s:Str) (w:World) (hl:s.length≤1000000):Pu Tryz.prog 32 #[S s] w (.bool (nmM s)):=by
 refine En 42 c32 Tryz.func32 ?_
 have hS:=Sep.start w
 unfold nmM
 repeat' (first|refine G.reg fun K hK=>?_|(refine kM ?_;clear hK K)|refine sA ?_|(refine brO_n ?_ ?_<;>intro hb hc<;>first|exact zxf|(simp only [hb];clear hb))|(refine G.cn ?_ ?_<;>intro hc<;>try exact zxf))
 refine G.loop (fun r w'=>∃ k:Nat,k≤s.length∧r 3=I k∧r 0=S s∧s.all nmB=(s.drop k).all nmB∧Sep w w' []) (fun r _=>s.length - toN (r 3)) ?_ ?_
 ·refine ⟨0,?_⟩
  ((repeat' apply aI)<;>first|exact dj|(simp only [push_cast,↓reduceIte,zq1,zq2,zq3,zq4,zq5]<;>omega)|skip)
 ·clear hS
  rintro u wl ⟨k,hk,h3,h0,e,hS⟩ ih
  by_cases hlt:(k:Int) < s.length
  ·rw [dropB s k hlt,List.all_cons] at e
   (have fct:=(aI @h3 @h0);repeat' (first|refine G.reg fun K hK=>?_|(refine kM ?_;clear hK K)|refine sA ?_|(refine brO_n ?_ ?_<;>intro hb hc<;>first|exact zxf|(simp only [hb];clear hb))|(refine G.cn ?_ ?_<;>intro hc<;>try exact zxf)))<;>(try clear fct)
   all_goals first
    | (rw [show nmB (s.getD k 0)=true by unfold nmB;rw [decide_eq_true_iff];omega,Bool.true_and] at e
       (refine ih _ _ ⟨k+1,?_⟩ ?_;rotate_left;(focus ((simp only [push_cast,↓reduceIte,zq1,zq2,zq3,zq4,zq5,toN_i,h3,h0]<;>omega)));((repeat' apply aI)<;>first|exact dj|(simp only [push_cast,↓reduceIte,zq1,zq2,zq3,zq4,zq5,h3,h0]<;>omega)|skip))
       done)
    | (rw [show nmB (s.getD k 0)=false by unfold nmB;rw [decide_eq_false_iff_not];omega,Bool.false_and] at e
       rw [e,Bool.and_false]
       (have fct:=(aI @h3 @h0);refine rM ?_)
       (first|exact Sep.xt ‹_›|exact ⟨rfl,Sep.xt ‹_›⟩))
  ·rw [List.drop_eq_nil_of_le zo] at e
   have e2:s.all nmB=true:=e
   rw [e2,Bool.and_true]
   (have fct:=(aI @h3 @h0);repeat' (first|refine G.reg fun K hK=>?_|(refine kM ?_;clear hK K)|refine sA ?_|(refine brO_n ?_ ?_<;>intro hb hc<;>first|exact zxf|(simp only [hb];clear hb))|(refine G.cn ?_ ?_<;>intro hc<;>try exact zxf)))<;>(try clear fct)
   all_goals
    (have fct:=(aI @h3 @h0);refine rM ?_)
    first
     | (first|exact Sep.xt ‹_›|exact ⟨rfl,Sep.xt ‹_›⟩)
     | exact ⟨congrArg Value.bool (decide_eq_decide.2 zo),Sep.xt ‹_›⟩
     | exact ⟨congrArg Value.bool (decide_eq_true zo).symm,Sep.xt ‹_›⟩
     | exact ⟨congrArg Value.bool (decide_eq_false zo).symm,Sep.xt ‹_›⟩
end Go.Proofs.YtllanbmpacgigaaGreatDoor
