/- Texts of the proof, joined. -/
import Derived.Test.YtllanbmpacgigaaGreatDoorIW15
import Derived.Test.YtllanbmpacgigaaGreatDoorIW16
namespace Go.Proofs.YtllanbmpacgigaaGreatDoor
open Operand renaming tmp→Y,const→yc
open MC renaming seq→Z,reg→yr,skip→yk,cond→yd
open MO renaming call→yl,bin→yb
open Nat renaming reduceAdd→zq1,reduceLeDiff→zq2,reduceEqDiff→zq3,reduceLT→zq4
open Int renaming reduceToNat→zq5
set_option linter.unusedSimpArgs false
set_option linter.unusedVariables false
attribute [local irreducible] SemK UnitK StK AlcK BslK CallK CallV Instr.box Builtin.append_ Instr.makeSlice Instr.makeMap Instr.lookup Instr.mapUpdate Instr.sliceAt convert
open Go.RowKit
def nmB (b:UInt8):Bool:=decide ((97≤(b.toNat:Int)∧(b.toNat:Int)≤122)∨(48≤(b.toNat:Int)∧(b.toNat:Int)≤57))
def nmM (s:Str):Bool:=decide (1≤s.length∧s.length≤20) && s.all nmB
def nuM (s:Str):Option Nat:=if (pnM s).2=0∧0≤(pnM s).1 then some (pnM s).1.toNat else none
def c65l1:MC:=(Z (Z (yr [qm 12 3,qm 13 0,qq 14 (.lenS (Y 13)),qq 15 (yb .lss (Y 12) (Y 14))]) (yd (Y 15) yk (.exit 0))) (Z (.blk 1 (Z (yr [qm 18 0,qm 19 3,qq 20 (.idxS (Y 18) (Y 19)),qq 21 (yb .lss (Y 20) (yc (.int .u8 97))),qm 22 21,qmf 22 23 0,qmf 22 24 3,qf 22 25 (.idxS (Y 23) (Y 24)),qf 22 26 (yb .gtr (Y 25) (yc (.int .u8 122))),qq 27 (.pick (Y 22) (kb true) (Y 26)),qm 28 27,qmt 28 29 0,qmt 28 30 3,qt 28 31 (.idxS (Y 29) (Y 30)),qt 28 32 (yb .lss (Y 31) (yc (.int .u8 48))),qmt 28 33 32,qmf 33 34 0,qmf 33 35 3,qf 33 36 (.idxS (Y 34) (Y 35)),qf 33 37 (yb .gtr (Y 36) (yc (.int .u8 57))),qt 28 38 (.pick (Y 33) (kb true) (Y 37)),qq 39 (.pick (Y 28) (Y 38) (kb false))]) (yd (Y 39) (Z (yr [qq 2 (.mv (kb false))]) .ret) yk))) (yr [qm 16 3,qq 17 (yb .add (Y 16) (ki 1)),qm 3 17])))
def c65:MC:=(Z (yr [qq 2 (.mv (kb false))]) (Z (Z (yr [qm 4 0,qq 5 (.lenS (Y 4)),qq 6 (yb .lss (Y 5) (ki 1)),qm 7 6,qmf 7 8 0,qf 7 9 (.lenS (Y 8)),qf 7 10 (yb .gtr (Y 9) (ki 20)),qq 11 (.pick (Y 7) (kb true) (Y 10))]) (yd (Y 11) (Z (yr [qq 2 (.mv (kb false))]) .ret) yk)) (Z (Z (yr [qq 3 (.mv (ki 0))]) (.blk 0 (.loop c65l1))) (Z (yr [qq 2 (.mv (kb true))]) .ret))))
theorem lnamed_spec (s:Str) (w:World) (hl:s.length≤100000000000):Pu Tryz.prog 65 #[S s] w (.bool (nmM s)):=by
 refine En 40 c65 Tryz.func65 ?_
 have hS:=Sep.start w
 unfold nmM
 by_cases hn:1≤s.length∧s.length≤20
 ·rw [decide_eq_true hn,Bool.true_and]
  repeat' (first|refine G.reg fun K hK=>?_|(refine kM ?_;clear hK K)|refine sA ?_|(refine brO_n ?_ ?_<;>intro hb hc<;>first|exact zxf|(simp only [hb];clear hb))|(refine G.cn ?_ ?_<;>intro hc<;>try exact zxf))
  refine G.loop (fun r w'=>∃ k:Nat,k≤s.length∧r 3=I k∧r 0=S s∧s.all nmB=(s.drop k).all nmB∧Sep w w' []) (fun r _=>s.length - toN (r 3)) ?_ ?_
  ·refine ⟨0,?_⟩
   ((repeat' apply aI)<;>first|exact dj|(simp only [push_cast,↓reduceIte,zq1,zq2,zq3,zq4,zq5]<;>omega)|skip)
  ·clear hS
   rintro u wl ⟨k,hk,h3,h0,e,hS⟩ ih
   by_cases hlt:(k:Int) < s.length
   ·rw [dropB s k hlt,List.all_cons] at e
    (have fct:=(aI @h3 @h0);repeat' (first|refine G.reg fun K hK=>?_|(refine kM ?_;clear hK K)|refine sA ?_|(refine brO_n ?_ ?_<;>intro hb hc<;>first|exact zxf|(simp only [hb];clear hb))|(refine G.cn ?_ ?_<;>intro hc<;>try exact zxf)))<;>(try clear fct)
    all_goals first
     | (rw [show nmB (s.getD k 0)=true by unfold nmB;rw [decide_eq_true_iff];omega,Bool.true_and] at e
        (refine ih _ _ ⟨k+1,?_⟩ ?_;rotate_left;(focus ((simp only [push_cast,↓reduceIte,zq1,zq2,zq3,zq4,zq5,toN_i,h3,h0]<;>omega)));((repeat' apply aI)<;>first|exact dj|(simp only [push_cast,↓reduceIte,zq1,zq2,zq3,zq4,zq5,h3,h0]<;>omega)|skip))
        done)
     | (rw [show nmB (s.getD k 0)=false by unfold nmB;rw [decide_eq_false_iff_not];omega,Bool.false_and] at e
        (have fct:=(a3 @h3 @h0 @e);refine rM ?_)
        (first|exact Sep.xt ‹_›|exact ⟨rfl,Sep.xt ‹_›⟩))
   ·rw [List.drop_eq_nil_of_le zo] at e
    have e2:s.all nmB=true:=e
    (have fct:=(aI @h3 @h0);repeat' (first|refine G.reg fun K hK=>?_|(refine kM ?_;clear hK K)|refine sA ?_|(refine brO_n ?_ ?_<;>intro hb hc<;>first|exact zxf|(simp only [hb];clear hb))|(refine G.cn ?_ ?_<;>intro hc<;>try exact zxf)))<;>(try clear fct)
    (have fct:=(a3 @h3 @h0 @e2);refine rM ?_)
    (first|exact Sep.xt ‹_›|exact ⟨rfl,Sep.xt ‹_›⟩)
 ·rw [decide_eq_false hn,Bool.false_and]
  repeat' (first|refine G.reg fun K hK=>?_|(refine kM ?_;clear hK K)|refine sA ?_|(refine brO_n ?_ ?_<;>intro hb hc<;>first|exact zxf|(simp only [hb];clear hb))|(refine G.cn ?_ ?_<;>intro hc<;>try exact zxf))
  all_goals
   refine rM ?_
   (first|exact Sep.xt ‹_›|exact ⟨rfl,Sep.xt ‹_›⟩)
def c66:MC:=(Z (yr [qq 2 (.mv (ki 0)),qq 3 (.mv (kb false))]) (Z (yr [qm 7 0,qq 8 (yl 100 [(Y 7)]),qm 6 8,qq 9 (.ext 0 (Y 6)),qq 10 (.ext 1 (Y 6)),qm 4 9,qm 5 10]) (Z (Z (yr [qm 11 5,qq 12 (yb .neq (Y 11) (ki 0)),qm 13 12,qmf 13 14 4,qf 13 15 (yb .lss (Y 14) (ki 0)),qq 16 (.pick (Y 13) (kb true) (Y 15))]) (yd (Y 16) (Z (yr [qq 2 (.mv (ki 0)),qq 3 (.mv (kb false))]) .ret) yk)) (Z (yr [qm 17 4,qm 2 17,qq 3 (.mv (kb true))]) .ret))))
theorem number_spec (s:Str) (w:World) (hl:s.length≤1000000) (hv:ErrV w):Pu Tryz.prog 66 #[S s] w (.tuple #[I ((nuM s).getD 0),.bool (nuM s).isSome]):=by
 refine En 18 c66 Tryz.func66 ?_
 have hS:=Sep.start w
 unfold nuM
 repeat' (first|refine G.reg fun K hK=>?_|(refine kM ?_;clear hK K)|refine sA ?_|(refine brO_n ?_ ?_<;>intro hb hc<;>first|exact zxf|(simp only [hb];clear hb))|(refine zcp 100 (parse16_spec s _ hl (hv.ext (Sep.xt ‹_›))) ?_;intro wb hS)|(refine G.cn ?_ ?_<;>intro hc<;>try exact zxf))
 all_goals
  refine rM ?_
  first
   | (rw [if_pos zo];refine ⟨?_,Sep.xt ‹_›⟩;simp only [Option.getD_some,Option.isSome_some];rw [Int.toNat_of_nonneg zo])
   | (rw [if_neg zo];(first|exact Sep.xt ‹_›|exact ⟨rfl,Sep.xt ‹_›⟩))
end Go.Proofs.YtllanbmpacgigaaGreatDoor
