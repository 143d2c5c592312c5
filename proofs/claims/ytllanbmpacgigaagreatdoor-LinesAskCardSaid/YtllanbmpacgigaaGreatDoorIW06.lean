/- Texts of the proof, joined. -/
import Derived.Test.YtllanbmpacgigaaGreatDoorIP06
import Derived.Test.YtllanbmpacgigaaGreatDoorIR02
import Derived.Test.YtllanbmpacgigaaGreatDoorIW02
namespace Go.Proofs.YtllanbmpacgigaaGreatDoor
open Operand renaming tmp→Y,const→yc
open MC renaming seq→Z,reg→yr,skip→yk,cond→yd
open MO renaming call→yl,bin→yb
open Nat renaming reduceAdd→zq1,reduceLeDiff→zq2,reduceEqDiff→zq3,reduceLT→zq4
open Int renaming reduceToNat→zq5
set_option linter.unusedSimpArgs false
set_option linter.unusedVariables false
attribute [local irreducible] SemK UnitK StK AlcK BslK CallK CallV Instr.box Builtin.append_ Instr.makeSlice Instr.makeMap Instr.lookup Instr.mapUpdate Instr.sliceAt convert
open Go.RowKit
def mayB (b:Int):Bool:=decide (b < 128∧b≠13∧b≠10)
def endB (e:Int):Bool:=decide (e=1∨e=2∨e=3)
def rightD (d:Dl):Bool:=mayB d.dl && mayB d.q && !(decide (d.dl=d.q)) && endB d.e
def mayL (n:Int):Bool:=decide (1≤n∧n≤2147483648)
def fitsL (l:Lm):Bool:=mayL l.F && mayL l.N && mayL l.R
def byD (d:Dl):Prop:=0≤d.dl∧d.dl≤255∧0≤d.q∧d.q≤255
theorem mayL_t {b:Int} (h:1≤b) (h1:b≤2147483648):mayL b=true:=decide_eq_true ⟨h,h1⟩
theorem mayL_f {b:Int} (h:¬ (1≤b∧b≤2147483648)):mayL b=false:=decide_eq_false h
def c125:MC:=(Z (yr [qq 2 (.mv (kb false))]) (Z (yr [qm 3 0,qq 4 (yb .lss (Y 3) (yc (.int .u8 128))),qm 5 4,qmt 5 6 0,qt 5 7 (yb .neq (Y 6) (yc (.int .u8 13))),qq 8 (.pick (Y 5) (Y 7) (kb false)),qm 9 8,qmt 9 10 0,qt 9 11 (yb .neq (Y 10) (yc (.int .u8 10))),qq 12 (.pick (Y 9) (Y 11) (kb false)),qm 2 12]) .ret))
theorem mayPart_spec (b:Int) (w:World):Pu Tryz.prog 125 #[U b] w (.bool (mayB b)):=by
 refine En 13 c125 Tryz.func125 ?_
 have hS:=Sep.start w
 have hm:mayB b=(decide (b < 128) && (b != 13 && b != 10)):=by
  unfold mayB;rw [Bool.eq_iff_iff];simp [and_assoc]
 rw [hm]
 by_cases h1:b < 128<;>by_cases h2:b=13<;>by_cases h3:b=10<;>simp only [h1,h2,h3]<;>(try omega)
 all_goals
  (have fct:=(a3 @h1 @h2 @h3);repeat' (first|refine G.reg fun K hK=>?_|(refine kM ?_;clear hK K)|refine sA ?_|(refine brO_n ?_ ?_<;>intro hb hc<;>first|exact zxf|(simp only [hb];clear hb))))<;>(try clear fct)
  all_goals
   (have fct:=(a3 @h1 @h2 @h3);refine rM ?_)
   first|(first|exact Sep.xt ‹_›|exact ⟨rfl,Sep.xt ‹_›⟩)|(refine ⟨?_,Sep.xt ‹_›⟩;simp_all)
def c126:MC:=(Z (yr [qq 2 (.mv (yc (S [])))]) (Z (Z (yr [qm 3 0]) (.blk 0 (Z (yr [qq 5 (yb .eql (Y 3) (ki 1)),qm 4 5]) (yd (Y 4) (Z (yr [qq 2 (.mv (yc (S [108,102])))]) .ret) (Z (yr [qq 7 (yb .eql (Y 3) (ki 2)),qm 6 7]) (yd (Y 6) (Z (yr [qq 2 (.mv (yc (S [99,114,108,102])))]) .ret) (Z (yr [qq 9 (yb .eql (Y 3) (ki 3)),qm 8 9]) (yd (Y 8) (Z (yr [qq 2 (.mv (yc (S [101,105,116,104,101,114])))]) .ret) yk)))))))) (Z (yr [qq 2 (.mv (yc (S [])))]) .ret)))
theorem word_spec (e:Int) (w:World):Pu Tryz.prog 126 #[I e] w (S (if e=1 then [108,102] else if e=2 then [99,114,108,102] else if e=3 then [101,105,116,104,101,114] else [])):=by
 refine En 10 c126 Tryz.func126 ?_
 have hS:=Sep.start w
 by_cases h1:e=1
 ·subst h1
  repeat' (first|refine G.reg fun K hK=>?_|(refine kM ?_;clear hK K)|refine sA ?_|(refine G.cn ?_ ?_<;>intro hc<;>try exact zxf))
  all_goals
   refine rM ?_
   (first|exact Sep.xt ‹_›|exact ⟨rfl,Sep.xt ‹_›⟩)
 ·by_cases h2:e=2
  ·subst h2
   repeat' (first|refine G.reg fun K hK=>?_|(refine kM ?_;clear hK K)|refine sA ?_|(refine G.cn ?_ ?_<;>intro hc<;>try exact zxf))
   all_goals
    refine rM ?_
    (first|exact Sep.xt ‹_›|exact ⟨rfl,Sep.xt ‹_›⟩)
  ·by_cases h3:e=3
   ·subst h3
    repeat' (first|refine G.reg fun K hK=>?_|(refine kM ?_;clear hK K)|refine sA ?_|(refine G.cn ?_ ?_<;>intro hc<;>try exact zxf))
    all_goals
     refine rM ?_
     (first|exact Sep.xt ‹_›|exact ⟨rfl,Sep.xt ‹_›⟩)
   ·rw [if_neg h1,if_neg h2,if_neg h3]
    repeat' (first|refine G.reg fun K hK=>?_|(refine kM ?_;clear hK K)|refine sA ?_|(refine G.cn ?_ ?_<;>intro hc<;>try exact zxf))
    all_goals
     refine rM ?_
     (first|exact Sep.xt ‹_›|exact ⟨rfl,Sep.xt ‹_›⟩)
theorem word_nil (e:Int):((if e=1 then [108,102] else if e=2 then [99,114,108,102] else if e=3 then [101,105,116,104,101,114] else []) == ([]:Str))=!(endB e):=by
 unfold endB
 by_cases h1:e=1
 ·subst h1;decide
 ·by_cases h2:e=2
  ·subst h2;decide
  ·by_cases h3:e=3
   ·subst h3;decide
   ·simp [h1,h2,h3]
def c85:MC:=(Z (yr [qq 1 (.raw (.box 39 (Y 0)) 0),qq 2 (.mv (ki 0))]) (Z (Z (yr [qq 3 (.fad 0 (Y 1)),qq 4 (.ld none (Y 3)),qq 5 (yl 125 [(Y 4)]),qq 6 (.un .not (Y 5)),qm 7 6,qf 7 8 (.fad 1 (Y 1)),qf 7 9 (.ld none (Y 8)),qf 7 10 (yl 125 [(Y 9)]),qf 7 11 (.un .not (Y 10)),qq 12 (.pick (Y 7) (kb true) (Y 11)),qm 13 12,qf 13 14 (.fad 0 (Y 1)),qf 13 15 (.ld none (Y 14)),qf 13 16 (.fad 1 (Y 1)),qf 13 17 (.ld none (Y 16)),qf 13 18 (yb .eql (Y 15) (Y 17)),qq 19 (.pick (Y 13) (kb true) (Y 18)),qm 20 19,qf 20 21 (.fad 2 (Y 1)),qf 20 22 (.ld none (Y 21)),qf 20 23 (yl 126 [(Y 22)]),qf 20 24 (yb .eql (Y 23) (yc (S []))),qq 25 (.pick (Y 20) (kb true) (Y 24))]) (yd (Y 25) (Z (yr [qq 2 (.mv (ki 1))]) .ret) yk)) (Z (yr [qq 2 (.mv (ki 0))]) .ret)))
theorem checkD_spec (d:Dl) (w:World):Pu Tryz.prog 85 #[(.agg #[U d.dl,U d.q,I d.e])] w (I (if rightD d=true then 0 else 1)):=by
 refine En 26 c85 Tryz.func85 ?_
 have hS:=Sep.start w
 have hw:=word_nil d.e
 unfold rightD
 cases h1:mayB d.dl<;>cases h2:mayB d.q<;>cases h4:endB d.e<;>rw [h4] at hw<;>by_cases h3:d.dl=d.q
 all_goals
  (have fct:=(a4 @h1 @h2 @h3 @hw);repeat' (first|refine G.reg fun K hK=>?_|(refine kM ?_;clear hK K)|refine sA ?_|(refine brO_n ?_ ?_<;>intro hb hc<;>first|exact zxf|(simp only [hb];clear hb))|(((with_reducible refine gBox ?_);refine zbox ?_);intro gb wb hS)|((with_reducible (show CallK _ 125 [U d.dl] _ _ _ _));refine zcp 125 (mayPart_spec d.dl _) ?_;intro wb hS)|(refine zcp 125 (mayPart_spec _ _) ?_;intro wb hS)|(refine zcp 126 (word_spec _ _) ?_;intro wb hS)|(refine G.cn ?_ ?_<;>intro hc<;>try exact zxf)))<;>(try clear fct)
  all_goals
   refine rM ?_
   first
    | (first|exact Sep.xt ‹_›|exact ⟨rfl,Sep.xt ‹_›⟩)
    | (simp only [h3,decide_true,decide_false,Bool.and_true,Bool.and_false,Bool.not_true,Bool.not_false,Bool.false_and,Bool.true_and,Bool.false_eq_true,if_true,if_false];(first|exact Sep.xt ‹_›|exact ⟨rfl,Sep.xt ‹_›⟩))
    | (exfalso;simp_all;done)
    | (refine ⟨?_,Sep.xt ‹_›⟩;simp_all;done)
def c166:MC:=(Z (yr [qq 2 (.mv (kb false))]) (Z (yr [qm 3 0,qq 4 (yb .geq (Y 3) (ki 1)),qm 5 4,qmt 5 6 0,qt 5 7 (yb .leq (Y 6) (ki 2147483648)),qq 8 (.pick (Y 5) (Y 7) (kb false)),qm 2 8]) .ret))
theorem mayLimit_spec (n:Int) (w:World):Pu Tryz.prog 166 #[I n] w (.bool (mayL n)):=by
 refine En 9 c166 Tryz.func166 ?_
 have hS:=Sep.start w
 by_cases h1:1≤n<;>by_cases h2:n≤2147483648
 all_goals
  first|rw [mayL_t h1 h2]|rw [mayL_f zo]
  (have fct:=(aI @h1 @h2);repeat' (first|refine G.reg fun K hK=>?_|(refine kM ?_;clear hK K)|refine sA ?_|(refine brO_n ?_ ?_<;>intro hb hc<;>first|exact zxf|(simp only [hb];clear hb))))<;>(try clear fct)
  all_goals
   (have fct:=(aI @h1 @h2);refine rM ?_)
   (first|exact Sep.xt ‹_›|exact ⟨rfl,Sep.xt ‹_›⟩)
def c127:MC:=(Z (yr [qq 1 (.raw (.box 81 (Y 0)) 0),qq 2 (.mv (ki 0))]) (Z (Z (yr [qq 3 (.fad 0 (Y 1)),qq 4 (.ld none (Y 3)),qq 5 (yl 166 [(Y 4)]),qq 6 (.un .not (Y 5)),qm 7 6,qf 7 8 (.fad 1 (Y 1)),qf 7 9 (.ld none (Y 8)),qf 7 10 (yl 166 [(Y 9)]),qf 7 11 (.un .not (Y 10)),qq 12 (.pick (Y 7) (kb true) (Y 11)),qm 13 12,qf 13 14 (.fad 2 (Y 1)),qf 13 15 (.ld none (Y 14)),qf 13 16 (yl 166 [(Y 15)]),qf 13 17 (.un .not (Y 16)),qq 18 (.pick (Y 13) (kb true) (Y 17))]) (yd (Y 18) (Z (yr [qq 2 (.mv (ki 2))]) .ret) yk)) (Z (yr [qq 2 (.mv (ki 0))]) .ret)))
theorem checkL_spec (l:Lm) (w:World):Pu Tryz.prog 127 #[(.agg #[I l.F,I l.N,I l.R,.bool l.U])] w (I (if fitsL l=true then 0 else 2)):=by
 refine En 19 c127 Tryz.func127 ?_
 have hS:=Sep.start w
 unfold fitsL
 cases h1:mayL l.F<;>cases h2:mayL l.N<;>cases h3:mayL l.R
 all_goals
  (have fct:=(a3 @h1 @h2 @h3);repeat' (first|refine G.reg fun K hK=>?_|(refine kM ?_;clear hK K)|refine sA ?_|(refine brO_n ?_ ?_<;>intro hb hc<;>first|exact zxf|(simp only [hb];clear hb))|(((with_reducible refine gBox ?_);refine zbox ?_);intro gb wb hS)|(refine zcp 166 (mayLimit_spec _ _) ?_;intro wb hS)|(refine G.cn ?_ ?_<;>intro hc<;>try exact zxf)))<;>(try clear fct)
  all_goals
   refine rM ?_
   first|(first|exact Sep.xt ‹_›|exact ⟨rfl,Sep.xt ‹_›⟩)|(exfalso;simp_all;done)
def c193:MC:=(Z (yr [qq 2 (.raw (.box 39 (Y 0)) 0),qq 4 (.mv (kb false))]) (Z (yr [qm 5 1,qq 6 (yb .eql (Y 5) (yc (.int .u8 13))),qm 7 6,qt 7 8 (.fad 2 (Y 2)),qt 7 9 (.ld none (Y 8)),qt 7 10 (yb .eql (Y 9) (ki 1)),qq 11 (.pick (Y 7) (Y 10) (kb false)),qm 12 11,qmf 12 13 1,qf 12 14 (yb .eql (Y 13) (yc (.int .u8 10))),qmf 12 15 14,qt 15 16 (.fad 2 (Y 2)),qt 15 17 (.ld none (Y 16)),qt 15 18 (yb .eql (Y 17) (ki 2)),qf 12 19 (.pick (Y 15) (Y 18) (kb false)),qq 20 (.pick (Y 12) (kb true) (Y 19)),qm 4 20]) .ret))
theorem wrongEnd_spec (d:Dl) (b:Int) (w:World):Pu Tryz.prog 193 #[(.agg #[U d.dl,U d.q,I d.e]),U b] w (.bool (wrongE d b)):=by
 refine En 21 c193 Tryz.func193 ?_
 have hS:=Sep.start w
 unfold wrongE
 by_cases h1:b=13<;>by_cases h2:b=10<;>by_cases h3:d.e=1<;>by_cases h4:d.e=2<;>(try omega)
 all_goals
  have e1:(b == 13)=decide (b=13):=rfl
  (have fct:=(a4 @h1 @h2 @h3 @h4);repeat' (first|refine G.reg fun K hK=>?_|(refine kM ?_;clear hK K)|refine sA ?_|(refine brO_n ?_ ?_<;>intro hb hc<;>first|exact zxf|(simp only [hb];clear hb))|(((with_reducible refine gBox ?_);refine zbox ?_);intro gb wb hS)))<;>(try clear fct)
  all_goals
   (have fct:=(a4 @h1 @h2 @h3 @h4);refine rM ?_)
   first|(first|exact Sep.xt ‹_›|exact ⟨rfl,Sep.xt ‹_›⟩)|(refine ⟨?_,Sep.xt ‹_›⟩;simp_all;done)
def c170:MC:=(Z (yr [qq 2 (.raw (.box 39 (Y 0)) 0),qq 4 (.alc 197 [(.bool false),(.bool false),(.bool false),(.bool false),(.bool false),(.int .u8 0)]),qq 5 (.mv (ki 0)),qq 6 (.mv (ki 0))]) (Z (.blk 0 (Z (yr [qq 8 (.ld (.some 3) (Y 2)),qm 9 1,qq 10 (yl 193 [(Y 8),(Y 9)]),qm 7 10]) (yd (Y 7) (Z (yr [qq 11 (.bld [(.bool false),(.bool false),(.bool false),(.bool false),(.bool false),(.int .u8 0)] []),qn (.st 6 (Y 4) (Y 11)),qq 5 (.mv (ki 0)),qq 6 (.mv (ki 6))]) .ret) (Z (yr [qm 13 1,qq 14 (.fad 1 (Y 2)),qq 15 (.ld none (Y 14)),qq 16 (yb .eql (Y 13) (Y 15)),qm 12 16]) (yd (Y 12) (Z (yr [qq 17 (.bld [(.bool false),(.bool false),(.bool false),(.bool false),(.bool false),(.int .u8 0)] [⟨0,⟨1,(kb true)⟩⟩]),qn (.st 6 (Y 4) (Y 17)),qq 5 (.mv (ki 3)),qq 6 (.mv (ki 0))]) .ret) (Z (yr [qm 19 1,qq 20 (.fad 0 (Y 2)),qq 21 (.ld none (Y 20)),qq 22 (yb .eql (Y 19) (Y 21)),qm 18 22]) (yd (Y 18) (Z (yr [qq 23 (.bld [(.bool false),(.bool false),(.bool false),(.bool false),(.bool false),(.int .u8 0)] [⟨0,⟨1,(kb true)⟩⟩,⟨2,⟨1,(kb true)⟩⟩]),qn (.st 6 (Y 4) (Y 23)),qq 5 (.mv (ki 1)),qq 6 (.mv (ki 0))]) .ret) (Z (yr [qm 25 1,qq 26 (yb .eql (Y 25) (yc (.int .u8 13))),qm 24 26]) (yd (Y 24) (Z (yr [qq 27 (.bld [(.bool false),(.bool false),(.bool false),(.bool false),(.bool false),(.int .u8 0)] []),qn (.st 6 (Y 4) (Y 27)),qq 5 (.mv (ki 6)),qq 6 (.mv (ki 0))]) .ret) (Z (yr [qm 29 1,qq 30 (yb .eql (Y 29) (yc (.int .u8 10))),qm 28 30]) (yd (Y 28) (Z (yr [qq 31 (.bld [(.bool false),(.bool false),(.bool false),(.bool false),(.bool false),(.int .u8 0)] []),qn (.st 6 (Y 4) (Y 31)),qq 5 (.mv (ki 0)),qq 6 (.mv (ki 0))]) .ret) yk))))))))))) (Z (yr [qm 32 1,qq 33 (.bld [(.bool false),(.bool false),(.bool false),(.bool false),(.bool false),(.int .u8 0)] [⟨0,⟨1,(kb true)⟩⟩,⟨1,⟨1,(kb true)⟩⟩,⟨5,⟨1,(Y 32)⟩⟩]),qn (.st 6 (Y 4) (Y 33)),qq 5 (.mv (ki 2)),qq 6 (.mv (ki 0))]) .ret)))
theorem atStart_spec (d:Dl) (b:UInt8) (w:World):Pu Tryz.prog 170 #[(.agg #[U d.dl,U d.q,I d.e]),U b.toNat] w (.tuple #[(.agg #[.bool (startM d b).1.b,.bool (startM d b).1.a,.bool (startM d b).1.f,.bool (startM d b).1.l,.bool (startM d b).1.r,U (startM d b).1.c.toNat]),I (startM d b).2.1,I (startM d b).2.2]):=by
 refine En 34 c170 Tryz.func170 ?_
 have hS:=Sep.start w
 unfold startM
 cases h0:wrongE d b.toNat
 ·rw [if_neg ze]
  (have fct:=@h0;repeat' (first|refine G.reg fun K hK=>?_|(refine kM ?_;clear hK K)|refine sA ?_|((first|refine zalc ?_|((with_reducible refine gBox ?_);refine zbox ?_));intro gb wb hS)|((with_reducible refine gSt ?_);refine zs2 ?_;intro wb hS)|(refine zcp 193 (wrongEnd_spec d _ _) ?_;intro wb hS)|(refine G.cn ?_ ?_<;>intro hc<;>try exact zxf)))<;>(try clear fct)
  all_goals
   refine rM ?_
   refine ⟨?_,Sep.xt ‹_›⟩
   simp_all
 ·rw [if_pos rfl]
  (have fct:=@h0;repeat' (first|refine G.reg fun K hK=>?_|(refine kM ?_;clear hK K)|refine sA ?_|((first|refine zalc ?_|((with_reducible refine gBox ?_);refine zbox ?_));intro gb wb hS)|((with_reducible refine gSt ?_);refine zs2 ?_;intro wb hS)|(refine zcp 193 (wrongEnd_spec d _ _) ?_;intro wb hS)|(refine G.cn ?_ ?_<;>intro hc<;>try exact zxf)))<;>(try clear fct)
  all_goals
   refine rM ?_
   first|(first|exact Sep.xt ‹_›|exact ⟨rfl,Sep.xt ‹_›⟩)|(exfalso;simp_all;done)
def c171:MC:=(Z (yr [qq 3 (.raw (.box 39 (Y 0)) 0),qq 6 (.alc 197 [(.bool false),(.bool false),(.bool false),(.bool false),(.bool false),(.int .u8 0)]),qq 7 (.mv (ki 0)),qq 8 (.mv (ki 0))]) (Z (.blk 0 (Z (yr [qq 10 (.ld (.some 3) (Y 3)),qm 11 2,qq 12 (yl 193 [(Y 10),(Y 11)]),qm 9 12]) (yd (Y 9) (Z (yr [qq 13 (.bld [(.bool false),(.bool false),(.bool false),(.bool false),(.bool false),(.int .u8 0)] []),qn (.st 6 (Y 6) (Y 13)),qq 7 (.mv (ki 0)),qq 8 (.mv (ki 6))]) .ret) (Z (yr [qm 15 2,qq 16 (.fad 1 (Y 3)),qq 17 (.ld none (Y 16)),qq 18 (yb .eql (Y 15) (Y 17)),qm 19 18,qmt 19 20 1,qt 19 21 (yb .eql (Y 20) (ki 1)),qq 22 (.pick (Y 19) (Y 21) (kb false)),qm 14 22]) (yd (Y 14) (Z (yr [qq 23 (.bld [(.bool false),(.bool false),(.bool false),(.bool false),(.bool false),(.int .u8 0)] []),qn (.st 6 (Y 6) (Y 23)),qq 7 (.mv (ki 3)),qq 8 (.mv (ki 0))]) .ret) (Z (yr [qm 25 2,qq 26 (.fad 1 (Y 3)),qq 27 (.ld none (Y 26)),qq 28 (yb .eql (Y 25) (Y 27)),qm 29 28,qmt 29 30 1,qt 29 31 (yb .eql (Y 30) (ki 4)),qq 32 (.pick (Y 29) (Y 31) (kb false)),qm 24 32]) (yd (Y 24) (Z (yr [qm 33 2,qq 34 (.bld [(.bool false),(.bool false),(.bool false),(.bool false),(.bool false),(.int .u8 0)] [⟨1,⟨1,(kb true)⟩⟩,⟨5,⟨1,(Y 33)⟩⟩]),qn (.st 6 (Y 6) (Y 34)),qq 7 (.mv (ki 3)),qq 8 (.mv (ki 0))]) .ret) (Z (yr [qm 36 2,qq 37 (.fad 1 (Y 3)),qq 38 (.ld none (Y 37)),qq 39 (yb .eql (Y 36) (Y 38)),qm 35 39]) (yd (Y 35) (Z (yr [qq 40 (.bld [(.bool false),(.bool false),(.bool false),(.bool false),(.bool false),(.int .u8 0)] []),qn (.st 6 (Y 6) (Y 40)),qq 7 (.mv (ki 0)),qq 8 (.mv (ki 4))]) .ret) (Z (yr [qm 42 2,qq 43 (.fad 0 (Y 3)),qq 44 (.ld none (Y 43)),qq 45 (yb .eql (Y 42) (Y 44)),qm 41 45]) (yd (Y 41) (Z (yr [qq 46 (.bld [(.bool false),(.bool false),(.bool false),(.bool false),(.bool false),(.int .u8 0)] [⟨2,⟨1,(kb true)⟩⟩]),qn (.st 6 (Y 6) (Y 46)),qq 7 (.mv (ki 1)),qq 8 (.mv (ki 0))]) .ret) (Z (yr [qm 48 2,qq 49 (yb .eql (Y 48) (yc (.int .u8 13))),qm 47 49]) (yd (Y 47) (Z (yr [qq 50 (.bld [(.bool false),(.bool false),(.bool false),(.bool false),(.bool false),(.int .u8 0)] [⟨3,⟨1,(kb true)⟩⟩]),qn (.st 6 (Y 6) (Y 50)),qq 7 (.mv (ki 5)),qq 8 (.mv (ki 0))]) .ret) (Z (yr [qm 52 2,qq 53 (yb .eql (Y 52) (yc (.int .u8 10))),qm 51 53]) (yd (Y 51) (Z (yr [qq 54 (.bld [(.bool false),(.bool false),(.bool false),(.bool false),(.bool false),(.int .u8 0)] [⟨3,⟨1,(kb true)⟩⟩,⟨4,⟨1,(kb true)⟩⟩]),qn (.st 6 (Y 6) (Y 54)),qq 7 (.mv (ki 0)),qq 8 (.mv (ki 0))]) .ret) (Z (yr [qm 56 1,qq 57 (yb .eql (Y 56) (ki 4)),qm 55 57]) (yd (Y 55) (Z (yr [qq 58 (.bld [(.bool false),(.bool false),(.bool false),(.bool false),(.bool false),(.int .u8 0)] []),qn (.st 6 (Y 6) (Y 58)),qq 7 (.mv (ki 0)),qq 8 (.mv (ki 5))]) .ret) yk))))))))))))))))) (Z (yr [qm 59 2,qq 60 (.bld [(.bool false),(.bool false),(.bool false),(.bool false),(.bool false),(.int .u8 0)] [⟨1,⟨1,(kb true)⟩⟩,⟨5,⟨1,(Y 59)⟩⟩]),qn (.st 6 (Y 6) (Y 60)),qq 7 (.mv (ki 2)),qq 8 (.mv (ki 0))]) .ret)))
theorem inRecord_spec (d:Dl) (st:Int) (b:UInt8) (w:World):Pu Tryz.prog 171 #[(.agg #[U d.dl,U d.q,I d.e]),I st,U b.toNat] w (.tuple #[(.agg #[.bool (inM d st b).1.b,.bool (inM d st b).1.a,.bool (inM d st b).1.f,.bool (inM d st b).1.l,.bool (inM d st b).1.r,U (inM d st b).1.c.toNat]),I (inM d st b).2.1,I (inM d st b).2.2]):=by
 refine En 61 c171 Tryz.func171 ?_
 have hS:=Sep.start w
 unfold inM
 cases h0:wrongE d b.toNat
 ·rw [if_neg ze]
  (have fct:=@h0;repeat' (first|refine G.reg fun K hK=>?_|(refine kM ?_;clear hK K)|refine sA ?_|(refine brO_n ?_ ?_<;>intro hb hc<;>first|exact zxf|(simp only [hb];clear hb))|((first|refine zalc ?_|((with_reducible refine gBox ?_);refine zbox ?_));intro gb wb hS)|((with_reducible refine gSt ?_);refine zs2 ?_;intro wb hS)|(refine zcp 193 (wrongEnd_spec d _ _) ?_;intro wb hS)|(refine G.cn ?_ ?_<;>intro hc<;>try exact zxf)))<;>(try clear fct)
  all_goals
   refine rM ?_
   refine ⟨?_,Sep.xt ‹_›⟩
   simp_all
 ·rw [if_pos rfl]
  (have fct:=@h0;repeat' (first|refine G.reg fun K hK=>?_|(refine kM ?_;clear hK K)|refine sA ?_|(refine brO_n ?_ ?_<;>intro hb hc<;>first|exact zxf|(simp only [hb];clear hb))|((first|refine zalc ?_|((with_reducible refine gBox ?_);refine zbox ?_));intro gb wb hS)|((with_reducible refine gSt ?_);refine zs2 ?_;intro wb hS)|(refine zcp 193 (wrongEnd_spec d _ _) ?_;intro wb hS)|(refine G.cn ?_ ?_<;>intro hc<;>try exact zxf)))<;>(try clear fct)
  all_goals
   refine rM ?_
   first|(first|exact Sep.xt ‹_›|exact ⟨rfl,Sep.xt ‹_›⟩)|(exfalso;simp_all;done)
def c130:MC:=(Z (yr [qq 3 (.raw (.box 39 (Y 0)) 0),qq 6 (.alc 197 [(.bool false),(.bool false),(.bool false),(.bool false),(.bool false),(.int .u8 0)]),qq 7 (.mv (ki 0)),qq 8 (.mv (ki 0))]) (Z (Z (yr [qm 9 1]) (.blk 0 (Z (yr [qq 11 (yb .eql (Y 9) (ki 0)),qm 10 11]) (yd (Y 10) (Z (yr [qq 12 (.ld (.some 3) (Y 3)),qm 13 2,qq 14 (yl 170 [(Y 12),(Y 13)]),qq 15 (.ext 0 (Y 14)),qq 16 (.ext 1 (Y 14)),qq 17 (.ext 2 (Y 14)),qn (.st 6 (Y 6) (Y 15)),qm 7 16,qm 8 17]) .ret) (Z (Z (yr [qq 19 (yb .eql (Y 9) (ki 1)),qm 18 19]) (yd (Y 18) yk (Z (yr [qq 20 (yb .eql (Y 9) (ki 2)),qm 18 20]) (yd (Y 18) yk (yr [qq 21 (yb .eql (Y 9) (ki 4)),qm 18 21]))))) (yd (Y 18) (Z (yr [qq 22 (.ld (.some 3) (Y 3)),qm 23 1,qm 24 2,qq 25 (yl 171 [(Y 22),(Y 23),(Y 24)]),qq 26 (.ext 0 (Y 25)),qq 27 (.ext 1 (Y 25)),qq 28 (.ext 2 (Y 25)),qn (.st 6 (Y 6) (Y 26)),qm 7 27,qm 8 28]) .ret) (Z (yr [qq 30 (yb .eql (Y 9) (ki 3)),qm 29 30]) (yd (Y 29) (Z (Z (yr [qm 31 2,qq 32 (.fad 1 (Y 3)),qq 33 (.ld none (Y 32)),qq 34 (yb .eql (Y 31) (Y 33))]) (yd (Y 34) (Z (yr [qq 35 (.bld [(.bool false),(.bool false),(.bool false),(.bool false),(.bool false),(.int .u8 0)] []),qn (.st 6 (Y 6) (Y 35)),qq 7 (.mv (ki 4)),qq 8 (.mv (ki 0))]) .ret) yk)) (Z (yr [qm 36 2,qq 37 (.bld [(.bool false),(.bool false),(.bool false),(.bool false),(.bool false),(.int .u8 0)] [⟨1,⟨1,(kb true)⟩⟩,⟨5,⟨1,(Y 36)⟩⟩]),qn (.st 6 (Y 6) (Y 37)),qq 7 (.mv (ki 3)),qq 8 (.mv (ki 0))]) .ret)) (Z (Z (yr [qq 39 (yb .eql (Y 9) (ki 5)),qm 38 39]) (yd (Y 38) yk (yr [qq 40 (yb .eql (Y 9) (ki 6)),qm 38 40]))) (yd (Y 38) (Z (Z (yr [qm 41 2,qq 42 (yb .neq (Y 41) (yc (.int .u8 10)))]) (yd (Y 42) (Z (yr [qq 43 (.bld [(.bool false),(.bool false),(.bool false),(.bool false),(.bool false),(.int .u8 0)] []),qn (.st 6 (Y 6) (Y 43)),qq 7 (.mv (ki 0)),qq 8 (.mv (ki 6))]) .ret) yk)) (Z (yr [qm 44 1,qq 45 (yb .eql (Y 44) (ki 5)),qq 46 (.bld [(.bool false),(.bool false),(.bool false),(.bool false),(.bool false),(.int .u8 0)] [⟨4,⟨1,(Y 45)⟩⟩]),qn (.st 6 (Y 6) (Y 46)),qq 7 (.mv (ki 0)),qq 8 (.mv (ki 0))]) .ret)) yk)))))))))) (Z (yr [qq 47 (.bld [(.bool false),(.bool false),(.bool false),(.bool false),(.bool false),(.int .u8 0)] []),qn (.st 6 (Y 6) (Y 47)),qq 7 (.mv (ki 0)),qq 8 (.mv (ki 0))]) .ret)))
theorem scStep_spec (d:Dl) (st:Int) (b:UInt8) (w:World):Pu Tryz.prog 130 #[(.agg #[U d.dl,U d.q,I d.e]),I st,U b.toNat] w (.tuple #[(.agg #[.bool (scM d st b).1.b,.bool (scM d st b).1.a,.bool (scM d st b).1.f,.bool (scM d st b).1.l,.bool (scM d st b).1.r,U (scM d st b).1.c.toNat]),I (scM d st b).2.1,I (scM d st b).2.2]):=by
 refine En 48 c130 Tryz.func130 ?_
 have hS:=Sep.start w
 unfold scM
 repeat' (first|refine G.reg fun K hK=>?_|(refine kM ?_;clear hK K)|refine sA ?_|((first|refine zalc ?_|((with_reducible refine gBox ?_);refine zbox ?_));intro gb wb hS)|((with_reducible refine gSt ?_);refine zs2 ?_;intro wb hS)|(refine zcp 170 (atStart_spec d b _) ?_;intro wb hS)|(refine zcp 171 (inRecord_spec d _ b _) ?_;intro wb hS)|(refine G.cn ?_ ?_<;>intro hc<;>try exact zxf))
 all_goals
  refine rM ?_
  refine ⟨?_,Sep.xt ‹_›⟩
  clear hS
  simp_all
def c132:MC:=(Z (yr [qq 2 (.alc 197 [(.bool false),(.bool false),(.bool false),(.bool false),(.bool false),(.int .u8 0)]),qq 3 (.mv (ki 0))]) (Z (Z (yr [qm 4 0]) (.blk 0 (Z (Z (yr [qq 6 (yb .eql (Y 4) (ki 1)),qm 5 6]) (yd (Y 5) yk (Z (yr [qq 7 (yb .eql (Y 4) (ki 2)),qm 5 7]) (yd (Y 5) yk (yr [qq 8 (yb .eql (Y 4) (ki 4)),qm 5 8]))))) (yd (Y 5) (Z (yr [qq 9 (.bld [(.bool false),(.bool false),(.bool false),(.bool false),(.bool false),(.int .u8 0)] [⟨3,⟨1,(kb true)⟩⟩,⟨4,⟨1,(kb true)⟩⟩]),qn (.st 6 (Y 2) (Y 9)),qq 3 (.mv (ki 0))]) .ret) (Z (yr [qq 11 (yb .eql (Y 4) (ki 3)),qm 10 11]) (yd (Y 10) (Z (yr [qq 12 (.bld [(.bool false),(.bool false),(.bool false),(.bool false),(.bool false),(.int .u8 0)] []),qn (.st 6 (Y 2) (Y 12)),qq 3 (.mv (ki 11))]) .ret) (Z (Z (yr [qq 14 (yb .eql (Y 4) (ki 5)),qm 13 14]) (yd (Y 13) yk (yr [qq 15 (yb .eql (Y 4) (ki 6)),qm 13 15]))) (yd (Y 13) (Z (yr [qq 16 (.bld [(.bool false),(.bool false),(.bool false),(.bool false),(.bool false),(.int .u8 0)] []),qn (.st 6 (Y 2) (Y 16)),qq 3 (.mv (ki 6))]) .ret) yk)))))))) (Z (yr [qq 17 (.bld [(.bool false),(.bool false),(.bool false),(.bool false),(.bool false),(.int .u8 0)] []),qn (.st 6 (Y 2) (Y 17)),qq 3 (.mv (ki 0))]) .ret)))
theorem scClose_spec (st:Int) (w:World):Pu Tryz.prog 132 #[I st] w (.tuple #[(.agg #[.bool (closeM st).1.b,.bool (closeM st).1.a,.bool (closeM st).1.f,.bool (closeM st).1.l,.bool (closeM st).1.r,U (closeM st).1.c.toNat]),I (closeM st).2]):=by
 refine En 18 c132 Tryz.func132 ?_
 have hS:=Sep.start w
 unfold closeM
 repeat' (first|refine G.reg fun K hK=>?_|(refine kM ?_;clear hK K)|refine sA ?_|(refine zalc ?_;intro gb wb hS)|((with_reducible refine gSt ?_);refine zs2 ?_;intro wb hS)|(refine G.cn ?_ ?_<;>intro hc<;>try exact zxf))
 all_goals
  refine rM ?_
  refine ⟨?_,Sep.xt ‹_›⟩
  clear hS
  simp_all
def eDl:Enc Dl:=⟨3,fun d=>[U d.dl,U d.q,I d.e],fun _=>rfl⟩
theorem shl_run {x:Int} {w:World} {P:Program} (t:TypeId) (o1 o2:Operand) (h0:0≤x) (h1:x≤15):(do eqGuard BinOp.shl t o1 o2 (U x) (Value.int IntKind.u64 4);binOp BinOp.shl t (U x) (Value.int IntKind.u64 4):Sem Value).run P w=.ok (U (x * 16)) w:=by
 have e:IntKind.u8.wrap (x * 16)=x * 16:=u8_id zo
 simp [eqGuard,binOp,Op.shift,U,show min 4 IntKind.u8.bits=4 from rfl,e]
theorem or_pair:∀ x y:Fin 16,IntKind.u8.wrap ↑(((x.val:Int) * 16 % 256).toNat ||| ((y.val:Int) % 256).toNat)=(x.val:Int) * 16+y.val:=by decide
theorem or_run {x y:Int} {w:World} {P:Program} (t:TypeId) (o1 o2:Operand) (h0:0≤x) (h1:x≤15) (h2:0≤y) (h3:y≤15):(do eqGuard BinOp.or t o1 o2 (U (x * 16)) (U y);binOp BinOp.or t (U (x * 16)) (U y):Sem Value).run P w=.ok (U (x * 16+y)) w:=by
 have:=or_pair ⟨x.toNat,by omega⟩ ⟨y.toNat,by omega⟩
 simp only [Int.toNat_of_nonneg h0,Int.toNat_of_nonneg h2] at this
 simp [eqGuard,binOp,Op.intBits,U,show (2:Int) ^ IntKind.u8.bits=256 from rfl,this]
section
variable {x y:Int} {w:World} {P:Program} {d:Option Nat} {ρ:Fr} {next:Fr→World→Prop} {t:TypeId} {o1 o2:Operand}
theorem zshl (h:next (updO ρ d (U (x * 16))) w) (h0:0≤x∧x≤15:=by omega):SemK P (do eqGuard BinOp.shl t o1 o2 (U x) (Value.int IntKind.u64 4);binOp BinOp.shl t (U x) (Value.int IntKind.u64 4)) w d ρ next:=Eq.mpr (semK_val (shl_run t o1 o2 h0.1 h0.2)) h
theorem zor (h:next (updO ρ d (U (x * 16+y))) w) (h0:0≤x∧x≤15:=by omega) (h1:0≤y∧y≤15:=by omega):SemK P (do eqGuard BinOp.or t o1 o2 (U (x * 16)) (U y);binOp BinOp.or t (U (x * 16)) (U y)) w d ρ next:=Eq.mpr (semK_val (or_run t o1 o2 h0.1 h0.2 h1.1 h1.2)) h
end
def hexD (b:UInt8):Option Int:=if 48≤(b.toNat:Int)∧(b.toNat:Int)≤57 then some ((b.toNat:Int) - 48) else if 97≤(b.toNat:Int)∧(b.toNat:Int)≤102 then some ((b.toNat:Int) - 97+10) else none
theorem hexD_b {b:UInt8} {x:Int} (h:hexD b=some x):0≤x∧x≤15:=by
 unfold hexD at h
 split at h
 ·injection h with h;omega
 ·split at h
  ·injection h with h;omega
  ·simp at h
def hx2 (a b:UInt8):Option Int:=match hexD a,hexD b with
 | some x,some y=>some (x * 16+y)
 | _,_=>none
def wdD (s:Str):Option Int:=if s=[108,102] then some 1 else if s=[99,114,108,102] then some 2 else if s=[101,105,116,104,101,114] then some 3 else none
def c137:MC:=(Z (yr [qq 2 (.mv (yc (.int .u8 0))),qq 3 (.mv (kb false))]) (Z (.blk 0 (Z (yr [qm 5 0,qq 6 (yb .geq (Y 5) (yc (.int .u8 48))),qm 7 6,qmt 7 8 0,qt 7 9 (yb .leq (Y 8) (yc (.int .u8 57))),qq 10 (.pick (Y 7) (Y 9) (kb false)),qm 4 10]) (yd (Y 4) (Z (yr [qm 11 0,qq 12 (yb .sub (Y 11) (yc (.int .u8 48))),qm 2 12,qq 3 (.mv (kb true))]) .ret) (Z (yr [qm 14 0,qq 15 (yb .geq (Y 14) (yc (.int .u8 97))),qm 16 15,qmt 16 17 0,qt 16 18 (yb .leq (Y 17) (yc (.int .u8 102))),qq 19 (.pick (Y 16) (Y 18) (kb false)),qm 13 19]) (yd (Y 13) (Z (yr [qm 20 0,qq 21 (yb .sub (Y 20) (yc (.int .u8 97))),qq 22 (yb .add (Y 21) (yc (.int .u8 10))),qm 2 22,qq 3 (.mv (kb true))]) .ret) yk))))) (Z (yr [qq 2 (.mv (yc (.int .u8 0))),qq 3 (.mv (kb false))]) .ret)))
theorem ddig_spec (b:UInt8) (w:World):Pu Tryz.prog 137 #[U b.toNat] w (.tuple #[U ((hexD b).getD 0),.bool (hexD b).isSome]):=by
 refine En 23 c137 Tryz.func137 ?_
 have hS:=Sep.start w
 have hb:=b.toNat_lt
 unfold hexD
 repeat' (first|refine G.reg fun K hK=>?_|(refine kM ?_;clear hK K)|refine sA ?_|(refine brO_n ?_ ?_<;>intro hb hc<;>first|exact zxf|(simp only [hb];clear hb))|(refine G.cn ?_ ?_<;>intro hc<;>try exact zxf))
 all_goals
  refine rM ?_
  first
   | (rw [if_pos zo];(first|exact Sep.xt ‹_›|exact ⟨rfl,Sep.xt ‹_›⟩))
   | (rw [if_neg zo,if_pos zo];(first|exact Sep.xt ‹_›|exact ⟨rfl,Sep.xt ‹_›⟩))
   | (rw [if_neg zo,if_neg zo];(first|exact Sep.xt ‹_›|exact ⟨rfl,Sep.xt ‹_›⟩))
def c95:MC:=(Z (yr [qq 2 (.mv (ki 0)),qq 3 (.mv (kb false))]) (Z (Z (yr [qm 4 0]) (.blk 0 (Z (yr [qq 6 (yb .eql (Y 4) (yc (S [108,102]))),qm 5 6]) (yd (Y 5) (Z (yr [qq 2 (.mv (ki 1)),qq 3 (.mv (kb true))]) .ret) (Z (yr [qq 8 (yb .eql (Y 4) (yc (S [99,114,108,102]))),qm 7 8]) (yd (Y 7) (Z (yr [qq 2 (.mv (ki 2)),qq 3 (.mv (kb true))]) .ret) (Z (yr [qq 10 (yb .eql (Y 4) (yc (S [101,105,116,104,101,114]))),qm 9 10]) (yd (Y 9) (Z (yr [qq 2 (.mv (ki 3)),qq 3 (.mv (kb true))]) .ret) yk)))))))) (Z (yr [qq 2 (.mv (ki 0)),qq 3 (.mv (kb false))]) .ret)))
theorem dend2_spec (s:Str) (w:World):Pu Tryz.prog 95 #[S s] w (.tuple #[I ((wdD s).getD 0),.bool (wdD s).isSome]):=by
 refine En 11 c95 Tryz.func95 ?_
 have hS:=Sep.start w
 unfold wdD
 by_cases h1:s=[108,102]
 ·subst h1
  repeat' (first|refine G.reg fun K hK=>?_|(refine kM ?_;clear hK K)|refine sA ?_|(refine G.cn ?_ ?_<;>intro hc<;>try exact zxf))
  all_goals
   refine rM ?_
   (first|exact Sep.xt ‹_›|exact ⟨rfl,Sep.xt ‹_›⟩)
 have e1:(s == [108,102])=false:=by rw [beq_eq_false_iff_ne];exact h1
 rw [if_neg h1]
 by_cases h2:s=[99,114,108,102]
 ·subst h2
  (have fct:=@e1;repeat' (first|refine G.reg fun K hK=>?_|(refine kM ?_;clear hK K)|refine sA ?_|(refine G.cn ?_ ?_<;>intro hc<;>try exact zxf)))<;>(try clear fct)
  all_goals
   refine rM ?_
   (first|exact Sep.xt ‹_›|exact ⟨rfl,Sep.xt ‹_›⟩)
 have e2:(s == [99,114,108,102])=false:=by rw [beq_eq_false_iff_ne];exact h2
 rw [if_neg h2]
 by_cases h3:s=[101,105,116,104,101,114]
 ·subst h3
  (have fct:=(aI @e1 @e2);repeat' (first|refine G.reg fun K hK=>?_|(refine kM ?_;clear hK K)|refine sA ?_|(refine G.cn ?_ ?_<;>intro hc<;>try exact zxf)))<;>(try clear fct)
  all_goals
   refine rM ?_
   (first|exact Sep.xt ‹_›|exact ⟨rfl,Sep.xt ‹_›⟩)
 have e3:(s == [101,105,116,104,101,114])=false:=by rw [beq_eq_false_iff_ne];exact h3
 rw [if_neg h3]
 (have fct:=(a3 @e1 @e2 @e3);repeat' (first|refine G.reg fun K hK=>?_|(refine kM ?_;clear hK K)|refine sA ?_|(refine G.cn ?_ ?_<;>intro hc<;>try exact zxf)))<;>(try clear fct)
 all_goals
  refine rM ?_
  (first|exact Sep.xt ‹_›|exact ⟨rfl,Sep.xt ‹_›⟩)
def c94:MC:=(Z (yr [qq 4 (.mv (yc (.int .u8 0))),qq 5 (.mv (kb false))]) (Z (yr [qm 11 0,qq 12 (yl 137 [(Y 11)]),qm 10 12,qq 13 (.ext 0 (Y 10)),qq 14 (.ext 1 (Y 10)),qm 6 13,qm 7 14]) (Z (yr [qm 16 1,qq 17 (yl 137 [(Y 16)]),qm 15 17,qq 18 (.ext 0 (Y 15)),qq 19 (.ext 1 (Y 15)),qm 8 18,qm 9 19]) (Z (Z (yr [qm 20 7,qq 21 (.un .not (Y 20)),qm 22 21,qmf 22 23 9,qf 22 24 (.un .not (Y 23)),qq 25 (.pick (Y 22) (kb true) (Y 24))]) (yd (Y 25) (Z (yr [qq 4 (.mv (yc (.int .u8 0))),qq 5 (.mv (kb false))]) .ret) yk)) (Z (yr [qm 26 6,qq 27 (.raw (.binOp .shl 5 (Y 26) (yc (.int .u64 4)) 206) 5),qm 28 8,qq 29 (.raw (.binOp .or 5 (Y 27) (Y 28) 5) 5),qm 4 29,qq 5 (.mv (kb true))]) .ret)))))
theorem dunsp_spec (a b:UInt8) (w:World):Pu Tryz.prog 94 #[U a.toNat,U b.toNat] w (.tuple #[U ((hx2 a b).getD 0),.bool (hx2 a b).isSome]):=by
 refine En 30 c94 Tryz.func94 ?_
 have hS:=Sep.start w
 have ha:=fun w=>ddig_spec a w
 have hb:=fun w=>ddig_spec b w
 unfold hx2
 have hxa:=@hexD_b a
 have hxb:=@hexD_b b
 generalize hexD a=oa at *
 generalize hexD b=ob at *
 cases oa with
 | none =>
   simp only [Option.getD_none,Option.isSome_none] at ha
   repeat' (first|refine G.reg fun K hK=>?_|(refine kM ?_;clear hK K)|refine sA ?_|(refine brO_n ?_ ?_<;>intro hb hc<;>first|exact zxf|(simp only [hb];clear hb))|((with_reducible (show CallK _ 137 [U a.toNat] _ _ _ _));refine zcp 137 (ha _) ?_;intro wb hS)|((with_reducible (show CallK _ 137 [U b.toNat] _ _ _ _));refine zcp 137 (hb _) ?_;intro wb hS)|(refine G.cn ?_ ?_<;>intro hc<;>try exact zxf))
   all_goals
    refine rM ?_
    (first|exact Sep.xt ‹_›|exact ⟨rfl,Sep.xt ‹_›⟩)
 | some x =>
   obtain ⟨x0,x1⟩:=hxa rfl
   simp only [Option.getD_some,Option.isSome_some] at ha
   cases ob with
   | none =>
     simp only [Option.getD_none,Option.isSome_none] at hb
     repeat' (first|refine G.reg fun K hK=>?_|(refine kM ?_;clear hK K)|refine sA ?_|(refine brO_n ?_ ?_<;>intro hb hc<;>first|exact zxf|(simp only [hb];clear hb))|((with_reducible (show CallK _ 137 [U a.toNat] _ _ _ _));refine zcp 137 (ha _) ?_;intro wb hS)|((with_reducible (show CallK _ 137 [U b.toNat] _ _ _ _));refine zcp 137 (hb _) ?_;intro wb hS)|(refine G.cn ?_ ?_<;>intro hc<;>try exact zxf))
     all_goals
      refine rM ?_
      (first|exact Sep.xt ‹_›|exact ⟨rfl,Sep.xt ‹_›⟩)
   | some y =>
     obtain ⟨y0,y1⟩:=hxb rfl
     simp only [Option.getD_some,Option.isSome_some] at hb
     repeat' (first|refine G.reg fun K hK=>?_|(refine kM ?_;clear hK K)|refine sA ?_|(refine brO_n ?_ ?_<;>intro hb hc<;>first|exact zxf|(simp only [hb];clear hb))|((with_reducible (show CallK _ 137 [U a.toNat] _ _ _ _));refine zcp 137 (ha _) ?_;intro wb hS)|((with_reducible (show CallK _ 137 [U b.toNat] _ _ _ _));refine zcp 137 (hb _) ?_;intro wb hS)|(refine zshl ?_)|(refine zor ?_)|(refine G.cn ?_ ?_<;>intro hc<;>try exact zxf))
     all_goals
      refine rM ?_
      (first|exact Sep.xt ‹_›|exact ⟨rfl,Sep.xt ‹_›⟩)
def dpM (s:Str):Dl×Int :=
 if s.length < 6∨s.getD 2 0≠32∨s.getD 5 0≠32 then (⟨0,0,0⟩,23) else match hx2 (s.getD 0 0) (s.getD 1 0),hx2 (s.getD 3 0) (s.getD 4 0),wdD (s.drop 6) with
 | some x,some y,some e=>if rightD ⟨x,y,e⟩=true then (⟨x,y,e⟩,0) else (⟨0,0,0⟩,1)
 | _,_,_=>(⟨0,0,0⟩,23)
def hdgB (n:Int):UInt8:=if n < 10 then UInt8.ofNat (48+n).toNat else UInt8.ofNat (97+n - 10).toNat
def wdE (e:Int):Str:=if e=1 then [108,102] else if e=2 then [99,114,108,102] else [101,105,116,104,101,114]
def txD (d:Dl):Str:=[hdgB (d.dl / 16),hdgB (d.dl % 16),32,hdgB (d.q / 16),hdgB (d.q % 16),32]++wdE d.e
theorem txD_len (d:Dl):(txD d).length≤12:=by
 unfold txD wdE
 split
 ·simp
 ·split<;>simp
theorem right_e {d:Dl} (h:rightD d=true):d.e=1∨d.e=2∨d.e=3:=by
 unfold rightD endB at h
 simp at h
 omega
def c62:MC:=(Z (yr [qq 2 (.alc 39 [(.int .u8 0),(.int .u8 0),(.int .i64 0)]),qq 3 (.mv (ki 0))]) (Z (Z (yr [qm 12 0,qq 13 (.lenS (Y 12)),qq 14 (yb .lss (Y 13) (ki 6)),qm 15 14,qmf 15 16 0,qf 15 17 (.idxS (Y 16) (ki 2)),qf 15 18 (yb .neq (Y 17) (yc (.int .u8 32))),qq 19 (.pick (Y 15) (kb true) (Y 18)),qm 20 19,qmf 20 21 0,qf 20 22 (.idxS (Y 21) (ki 5)),qf 20 23 (yb .neq (Y 22) (yc (.int .u8 32))),qq 24 (.pick (Y 20) (kb true) (Y 23))]) (yd (Y 24) (Z (yr [qq 25 (.bld [(.int .u8 0),(.int .u8 0),(.int .i64 0)] []),qn (.st 3 (Y 2) (Y 25)),qq 3 (.mv (ki 23))]) .ret) yk)) (Z (.drg [qm 27 0,qq 28 (.idxS (Y 27) (ki 0)),qm 29 0,qq 30 (.idxS (Y 29) (ki 1)),qq 31 (yl 94 [(Y 28),(Y 30)]),qm 26 31,qq 32 (.ext 0 (Y 26)),qq 33 (.ext 1 (Y 26)),qm 4 32,qm 5 33] (.some (.leaf [qm 27 0,qq 28 (.idxS (Y 27) (ki 0)),qm 29 0,qq 30 (.idxS (Y 29) (ki 1)),qq 31 (yl 94 [(Y 28),(Y 30)]),qm 26 31,qq 32 (.ext 0 (Y 26)),qq 33 (.ext 1 (Y 26)),qm 4 32,qm 5 33]))) (Z (.drg [qm 35 0,qq 36 (.idxS (Y 35) (ki 3)),qm 37 0,qq 38 (.idxS (Y 37) (ki 4)),qq 39 (yl 94 [(Y 36),(Y 38)]),qm 34 39,qq 40 (.ext 0 (Y 34)),qq 41 (.ext 1 (Y 34)),qm 6 40,qm 7 41] (.some (.leaf [qm 35 0,qq 36 (.idxS (Y 35) (ki 3)),qm 37 0,qq 38 (.idxS (Y 37) (ki 4)),qq 39 (yl 94 [(Y 36),(Y 38)]),qm 34 39,qq 40 (.ext 0 (Y 34)),qq 41 (.ext 1 (Y 34)),qm 6 40,qm 7 41]))) (Z (yr [qm 43 0,qq 44 (.slS (Y 43) (.some (ki 6)) none),qq 45 (yl 95 [(Y 44)]),qm 42 45,qq 46 (.ext 0 (Y 42)),qq 47 (.ext 1 (Y 42)),qm 8 46,qm 9 47]) (Z (Z (yr [qm 48 5,qq 49 (.un .not (Y 48)),qm 50 49,qmf 50 51 7,qf 50 52 (.un .not (Y 51)),qq 53 (.pick (Y 50) (kb true) (Y 52)),qm 54 53,qmf 54 55 9,qf 54 56 (.un .not (Y 55)),qq 57 (.pick (Y 54) (kb true) (Y 56))]) (yd (Y 57) (Z (yr [qq 58 (.bld [(.int .u8 0),(.int .u8 0),(.int .i64 0)] []),qn (.st 3 (Y 2) (Y 58)),qq 3 (.mv (ki 23))]) .ret) yk)) (Z (yr [qm 59 4,qm 60 6,qm 61 8,qq 62 (.bld [(.int .u8 0),(.int .u8 0),(.int .i64 0)] [⟨0,⟨1,(Y 59)⟩⟩,⟨1,⟨1,(Y 60)⟩⟩,⟨2,⟨1,(Y 61)⟩⟩]),qq 10 (.alc 39 [(.int .u8 0),(.int .u8 0),(.int .i64 0)]),qn (.st 3 (Y 10) (Y 62))]) (Z (Z (yr [qq 63 (.ld (.some 3) (Y 10)),qq 64 (yl 85 [(Y 63)]),qm 11 64]) (Z (yr [qm 65 11,qq 66 (yb .neq (Y 65) (ki 0))]) (yd (Y 66) (Z (yr [qq 67 (.bld [(.int .u8 0),(.int .u8 0),(.int .i64 0)] []),qm 68 11,qn (.st 3 (Y 2) (Y 67)),qm 3 68]) .ret) yk))) (Z (yr [qq 69 (.ld (.some 3) (Y 10)),qn (.st 3 (Y 2) (Y 69)),qq 3 (.mv (ki 0))]) .ret)))))))))
theorem dparse_spec (s:Str) (w:World) (hl:s.length≤1000000000):Pu Tryz.prog 62 #[S s] w (.tuple #[(.agg #[U (dpM s).1.dl,U (dpM s).1.q,I (dpM s).1.e]),I (dpM s).2]):=by
 refine En 70 c62 Tryz.func62 ?_
 have hS:=Sep.start w
 unfold dpM
 by_cases h6:s.length < 6
 ·rw [if_pos (.inl h6)]
  repeat' (first|(refine gO ?_;intro K hK)|(refine kP ?_;clear hK K)|(intro wd hxd;have hS:=Sep.xx hxd)|refine sA ?_|(refine bM ?_ ?_<;>intro hb hc<;>first|exact zxf|(simp only [hb];clear hb))|(refine zalc ?_;intro gb wb hS)|((with_reducible refine gSt ?_);refine zs2 ?_;intro wb hS)|(refine G.cn ?_ ?_<;>intro hc<;>try exact zxf))
  all_goals
   refine rM ?_
   (first|exact Sep.xt ‹_›|exact ⟨rfl,Sep.xt ‹_›⟩)
 by_cases h2:s.getD 2 0=32
 ·by_cases h5 : s.getD 5 0=32
  ·rw [if_neg (fun h=>h.elim h6 fun h=>h.elim (fun h=>h h2) fun h=>h h5)]
   have e2:((s.getD 2 0).toNat:Int)=32:=by rw [h2];rfl
   have e5:((s.getD 5 0).toNat:Int)=32:=by rw [h5];rfl
   have hu1:=fun w=>dunsp_spec (s.getD 0 0) (s.getD 1 0) w
   have hu2:=fun w=>dunsp_spec (s.getD 3 0) (s.getD 4 0) w
   have hen:=fun w=>dend2_spec (s.drop 6) w
   have hck:=fun d w=>checkD_spec d w
   generalize hx2 (s.getD 0 0) (s.getD 1 0)=ox at *
   generalize hx2 (s.getD 3 0) (s.getD 4 0)=oy at *
   generalize wdD (s.drop 6)=oe at *
   cases ox with
   | none =>
     simp only [Option.getD_none,Option.isSome_none] at hu1
     (have fct:=(aI @e2 @e5);repeat' (first|(refine gO ?_;intro K hK)|(refine kP ?_;clear hK K)|(intro wd hxd;have hS:=Sep.xx hxd)|refine sA ?_|(refine bM ?_ ?_<;>intro hb hc<;>first|exact zxf|(simp only [hb];clear hb))|(refine zalc ?_;intro gb wb hS)|((with_reducible refine gSt ?_);refine zs2 ?_;intro wb hS)|((with_reducible (show CallK _ 94 [U (s.getD 0 0).toNat,U (s.getD 1 0).toNat] _ _ _ _));refine zcp 94 (hu1 _) ?_;intro wb hS)|((with_reducible (show CallK _ 94 [U (s.getD 3 0).toNat,U (s.getD 4 0).toNat] _ _ _ _));refine zcp 94 (hu2 _) ?_;intro wb hS)|(refine zcp 95 (hen _) ?_;intro wb hS)|(refine zcp 85 (hck ⟨_,_,_⟩ _) ?_;intro wb hS)|(refine G.cn ?_ ?_<;>intro hc<;>try exact zxf)))<;>(try clear fct)
     all_goals
      refine rM ?_
      (first|exact Sep.xt ‹_›|exact ⟨rfl,Sep.xt ‹_›⟩)
   | some x => cases oy with
     | none =>
       simp only [Option.getD_some,Option.isSome_some] at hu1
       simp only [Option.getD_none,Option.isSome_none] at hu2
       (have fct:=(aI @e2 @e5);repeat' (first|(refine gO ?_;intro K hK)|(refine kP ?_;clear hK K)|(intro wd hxd;have hS:=Sep.xx hxd)|refine sA ?_|(refine bM ?_ ?_<;>intro hb hc<;>first|exact zxf|(simp only [hb];clear hb))|(refine zalc ?_;intro gb wb hS)|((with_reducible refine gSt ?_);refine zs2 ?_;intro wb hS)|((with_reducible (show CallK _ 94 [U (s.getD 0 0).toNat,U (s.getD 1 0).toNat] _ _ _ _));refine zcp 94 (hu1 _) ?_;intro wb hS)|((with_reducible (show CallK _ 94 [U (s.getD 3 0).toNat,U (s.getD 4 0).toNat] _ _ _ _));refine zcp 94 (hu2 _) ?_;intro wb hS)|(refine zcp 95 (hen _) ?_;intro wb hS)|(refine zcp 85 (hck ⟨_,_,_⟩ _) ?_;intro wb hS)|(refine G.cn ?_ ?_<;>intro hc<;>try exact zxf)))<;>(try clear fct)
       all_goals
        refine rM ?_
        (first|exact Sep.xt ‹_›|exact ⟨rfl,Sep.xt ‹_›⟩)
     | some y => cases oe with
       | none =>
         simp only [Option.getD_some,Option.isSome_some] at hu1 hu2
         simp only [Option.getD_none,Option.isSome_none] at hen
         (have fct:=(aI @e2 @e5);repeat' (first|(refine gO ?_;intro K hK)|(refine kP ?_;clear hK K)|(intro wd hxd;have hS:=Sep.xx hxd)|refine sA ?_|(refine bM ?_ ?_<;>intro hb hc<;>first|exact zxf|(simp only [hb];clear hb))|(refine zalc ?_;intro gb wb hS)|((with_reducible refine gSt ?_);refine zs2 ?_;intro wb hS)|((with_reducible (show CallK _ 94 [U (s.getD 0 0).toNat,U (s.getD 1 0).toNat] _ _ _ _));refine zcp 94 (hu1 _) ?_;intro wb hS)|((with_reducible (show CallK _ 94 [U (s.getD 3 0).toNat,U (s.getD 4 0).toNat] _ _ _ _));refine zcp 94 (hu2 _) ?_;intro wb hS)|(refine zcp 95 (hen _) ?_;intro wb hS)|(refine zcp 85 (hck ⟨_,_,_⟩ _) ?_;intro wb hS)|(refine G.cn ?_ ?_<;>intro hc<;>try exact zxf)))<;>(try clear fct)
         all_goals
          refine rM ?_
          (first|exact Sep.xt ‹_›|exact ⟨rfl,Sep.xt ‹_›⟩)
       | some e =>
         simp only [Option.getD_some,Option.isSome_some] at hu1 hu2 hen
         dsimp only
         by_cases hr:rightD ⟨x,y,e⟩=true
         ·rw [if_pos hr]
          (have fct:=(a3 @e2 @e5 @hr);repeat' (first|(refine gO ?_;intro K hK)|(refine kP ?_;clear hK K)|(intro wd hxd;have hS:=Sep.xx hxd)|refine sA ?_|(refine bM ?_ ?_<;>intro hb hc<;>first|exact zxf|(simp only [hb];clear hb))|(refine zalc ?_;intro gb wb hS)|((with_reducible refine gSt ?_);refine zs2 ?_;intro wb hS)|((with_reducible (show CallK _ 94 [U (s.getD 0 0).toNat,U (s.getD 1 0).toNat] _ _ _ _));refine zcp 94 (hu1 _) ?_;intro wb hS)|((with_reducible (show CallK _ 94 [U (s.getD 3 0).toNat,U (s.getD 4 0).toNat] _ _ _ _));refine zcp 94 (hu2 _) ?_;intro wb hS)|(refine zcp 95 (hen _) ?_;intro wb hS)|(refine zcp 85 (hck ⟨_,_,_⟩ _) ?_;intro wb hS)|(refine G.cn ?_ ?_<;>intro hc<;>try exact zxf)))<;>(try clear fct)
          all_goals
           refine rM ?_
           (first|exact Sep.xt ‹_›|exact ⟨rfl,Sep.xt ‹_›⟩)
         ·rw [if_neg hr]
          rw [Bool.not_eq_true] at hr
          (have fct:=(a3 @e2 @e5 @hr);repeat' (first|(refine gO ?_;intro K hK)|(refine kP ?_;clear hK K)|(intro wd hxd;have hS:=Sep.xx hxd)|refine sA ?_|(refine bM ?_ ?_<;>intro hb hc<;>first|exact zxf|(simp only [hb];clear hb))|(refine zalc ?_;intro gb wb hS)|((with_reducible refine gSt ?_);refine zs2 ?_;intro wb hS)|((with_reducible (show CallK _ 94 [U (s.getD 0 0).toNat,U (s.getD 1 0).toNat] _ _ _ _));refine zcp 94 (hu1 _) ?_;intro wb hS)|((with_reducible (show CallK _ 94 [U (s.getD 3 0).toNat,U (s.getD 4 0).toNat] _ _ _ _));refine zcp 94 (hu2 _) ?_;intro wb hS)|(refine zcp 95 (hen _) ?_;intro wb hS)|(refine zcp 85 (hck ⟨_,_,_⟩ _) ?_;intro wb hS)|(refine G.cn ?_ ?_<;>intro hc<;>try exact zxf)))<;>(try clear fct)
          all_goals
           refine rM ?_
           (first|exact Sep.xt ‹_›|exact ⟨rfl,Sep.xt ‹_›⟩)
  ·rw [if_pos (.inr (.inr h5))]
   have e2:((s.getD 2 0).toNat:Int)=32:=by rw [h2];rfl
   have e5:¬ ((s.getD 5 0).toNat:Int)=32:=fun h=>h5 (UInt8.toNat_inj.1 (by have:(32:UInt8).toNat=32:=rfl;omega))
   (have fct:=@e2;repeat' (first|(refine gO ?_;intro K hK)|(refine kP ?_;clear hK K)|(intro wd hxd;have hS:=Sep.xx hxd)|refine sA ?_|(refine bM ?_ ?_<;>intro hb hc<;>first|exact zxf|(simp only [hb];clear hb))|(refine zalc ?_;intro gb wb hS)|((with_reducible refine gSt ?_);refine zs2 ?_;intro wb hS)|(refine G.cn ?_ ?_<;>intro hc<;>try exact zxf)))<;>(try clear fct)
   all_goals
    refine rM ?_
    (first|exact Sep.xt ‹_›|exact ⟨rfl,Sep.xt ‹_›⟩)
 ·rw [if_pos (.inr (.inl h2))]
  have e2:¬ ((s.getD 2 0).toNat:Int)=32:=fun h=>h2 (UInt8.toNat_inj.1 (by have:(32:UInt8).toNat=32:=rfl;omega))
  repeat' (first|(refine gO ?_;intro K hK)|(refine kP ?_;clear hK K)|(intro wd hxd;have hS:=Sep.xx hxd)|refine sA ?_|(refine bM ?_ ?_<;>intro hb hc<;>first|exact zxf|(simp only [hb];clear hb))|(refine zalc ?_;intro gb wb hS)|((with_reducible refine gSt ?_);refine zs2 ?_;intro wb hS)|(refine G.cn ?_ ?_<;>intro hc<;>try exact zxf))
  all_goals
   refine rM ?_
   (first|exact Sep.xt ‹_›|exact ⟨rfl,Sep.xt ‹_›⟩)
def dgS:Str:=[48,49,50,51,52,53,54,55,56,57,97,98,99,100,101,102]
theorem dg_at:∀ n:Fin 16,(dgS.drop n.val).take 1=[hdgB (n.val:Int)]:=by decide
theorem shr_run {x:Int} {w:World} {P:Program} (t:TypeId) (o1 o2:Operand):(do eqGuard BinOp.shr t o1 o2 (U x) (Value.int IntKind.u64 4);binOp BinOp.shr t (U x) (Value.int IntKind.u64 4):Sem Value).run P w=.ok (U (x / 16)) w:=by
 have e:x.fdiv 16=x / 16:=Int.fdiv_eq_ediv_of_nonneg x zd
 simp [eqGuard,binOp,Op.shift,U,show min 4 IntKind.u8.bits=4 from rfl,e]
theorem and_run {x:Int} {w:World} {P:Program} (t:TypeId) (o1 o2:Operand) (h0:0≤x) (h1:x≤255):(do eqGuard BinOp.and t o1 o2 (U x) (U 15);binOp BinOp.and t (U x) (U 15):Sem Value).run P w=.ok (U (x % 16)) w:=by
 have e:(x % 256).toNat &&& 15=(x % 256).toNat % 16:=Nat.and_two_pow_sub_one_eq_mod _ 4
 have e2:IntKind.u8.wrap (max (x % 256) 0 % 16)=x % 16:=by rw [show max (x % 256) 0 % 16=x % 16 by omega];exact u8_id zo
 simp [eqGuard,binOp,Op.intBits,U,show (2:Int) ^ IntKind.u8.bits=256 from rfl,show (15:Nat) % 2 ^ IntKind.u8.bits=15 from rfl,e,e2]
section
variable {x:Int} {w:World} {P:Program} {d:Option Nat} {ρ:Fr} {next:Fr→World→Prop} {t:TypeId} {o1 o2:Operand}
theorem zshr (h:next (updO ρ d (U (x / 16))) w):SemK P (do eqGuard BinOp.shr t o1 o2 (U x) (Value.int IntKind.u64 4);binOp BinOp.shr t (U x) (Value.int IntKind.u64 4)) w d ρ next:=Eq.mpr (semK_val (shr_run t o1 o2)) h
theorem zand (h:next (updO ρ d (U (x % 16))) w) (h0:0≤x∧x≤255:=by omega):SemK P (do eqGuard BinOp.and t o1 o2 (U x) (U 15);binOp BinOp.and t (U x) (U 15)) w d ρ next:=Eq.mpr (semK_val (and_run t o1 o2 h0.1 h0.2)) h
end
theorem O1_ofS {P:Program} {m:ML} {J:Fr→World→Prop} {ρ:Fr} {w:World} (h:∀ K:Fr→World→Prop,(∀ ρ w,J ρ w→K ρ w)→O P K [m] ρ w):O1 P m J ρ w:=h J fun _ _ h=>h
def spD (i:Nat):Nat:=if i=13 then 2 else i+3
def spV (x:Int):Nat→Value
 | 0=>U x|1=>U (x / 16)|2=>U x|3=>U (x / 16)|4=>U (x / 16+1)|5=>S [hdgB (x / 16)]|6=>U x|7=>U (x % 16)|8=>U x|9=>U (x % 16)|10=>U (x % 16+1)|11=>S [hdgB (x % 16)]|12=>S [hdgB (x / 16),hdgB (x % 16)]|13=>S [hdgB (x / 16),hdgB (x % 16)]
 | _=>undef
def spJ (w:World) (x:Int) (b:Nat→Bool) (ρ:Fr) (w':World):Prop:=Ext w w'∧ρ 0=U x∧∀ i,i < 14→b i=true→ρ (spD i)=spV x i
theorem spJ.up {w w':World} {x:Int} {b:Nat→Bool} {ρ:Fr} (h:spJ w x b ρ w') (i:Nat) (hi:i < 14) {v:Value} (hv:v=spV x i):spJ w x (fun j=>if j=i then true else b j) (upd ρ (spD i) v) w':=by
 obtain ⟨h1,h2,h3⟩:=h
 refine ⟨h1,?_,fun j hj hb=>?_⟩
 ·have:¬ 0=spD i:=by unfold spD;split<;>omega
  simp [upd,this,h2]
 ·by_cases e:j=i
  ·subst e;simp [upd,hv]
  ·have hne:¬ spD j=spD i:=by unfold spD;split<;>split<;>omega
   have hb2:b j=true:=by simpa [e] using hb
   simp [upd,hne,h3 j hj hb2]
def c160:MC:=(Z (yr [qq 2 (.mv (yc (S [])))]) (Z (.drg [qm 3 0,qq 4 (.raw (.binOp .shr 5 (Y 3) (yc (.int .u64 4)) 206) 5),qm 5 0,qq 6 (.raw (.binOp .shr 5 (Y 5) (yc (.int .u64 4)) 206) 5),qq 7 (yb .add (Y 6) (yc (.int .u8 1))),qq 8 (.slS (yc (S [48,49,50,51,52,53,54,55,56,57,97,98,99,100,101,102])) (.some (Y 4)) (.some (Y 7))),qm 9 0,qq 10 (.raw (.binOp .and 5 (Y 9) (yc (.int .u8 15)) 5) 5),qm 11 0,qq 12 (.raw (.binOp .and 5 (Y 11) (yc (.int .u8 15)) 5) 5),qq 13 (yb .add (Y 12) (yc (.int .u8 1))),qq 14 (.slS (yc (S [48,49,50,51,52,53,54,55,56,57,97,98,99,100,101,102])) (.some (Y 10)) (.some (Y 13))),qq 15 (yb .add (Y 8) (Y 14)),qm 2 15] (.some (.inv [qm 3 0,qq 4 (.raw (.binOp .shr 5 (Y 3) (yc (.int .u64 4)) 206) 5),qm 5 0,qq 6 (.raw (.binOp .shr 5 (Y 5) (yc (.int .u64 4)) 206) 5),qq 7 (yb .add (Y 6) (yc (.int .u8 1))),qq 8 (.slS (yc (S [48,49,50,51,52,53,54,55,56,57,97,98,99,100,101,102])) (.some (Y 4)) (.some (Y 7))),qm 9 0,qq 10 (.raw (.binOp .and 5 (Y 9) (yc (.int .u8 15)) 5) 5),qm 11 0,qq 12 (.raw (.binOp .and 5 (Y 11) (yc (.int .u8 15)) 5) 5),qq 13 (yb .add (Y 12) (yc (.int .u8 1))),qq 14 (.slS (yc (S [48,49,50,51,52,53,54,55,56,57,97,98,99,100,101,102])) (.some (Y 10)) (.some (Y 13))),qq 15 (yb .add (Y 8) (Y 14)),qm 2 15] [[],[0],[],[2],[3],[1,4],[],[6],[],[8],[9],[7,10],[5,11],[12,0,1,2,3,4,5,6,7,8,9,10,11,12]]))) .ret))
def spDT:DT:=match c160 with
 | .seq _ (.seq (.drg _ (some t)) _)=>t
 | _=>.leaf []
set_option maxHeartbeats 2000000 in
theorem sp_ot {x:Int} (x0:0≤x) (x1:x≤255) {w wd:World} {ρ:Fr} {K0:Fr→World→Prop} (hx:Ext w wd) (p0:ρ 0=U x)
 (hK0:∀ (ρ':Fr) (w':World),ρ' 2=S [hdgB (x / 16),hdgB (x % 16)]→Ext w w'→K0 ρ' w'):OT Tryz.prog K0 spDT ρ wd:=by
 unfold spDT c160
 dsimp only
 have hd1:=dg_at ⟨(x / 16).toNat,by omega⟩
 have hd2:=dg_at ⟨(x % 16).toNat,by omega⟩
 simp only [Int.toNat_of_nonneg (show 0≤x / 16 by omega),Int.toNat_of_nonneg (show 0≤x % 16 by omega)] at hd1 hd2
 have ht1:(x / 16+1).toNat=(x / 16).toNat+1:=by omega
 have ht2:(x % 16+1).toNat=(x % 16).toNat+1:=by omega
 refine OT_inv (spJ w x) ?_ ?_ ?_
 ·exact ⟨hx,p0,fun i _ h=>by simp at h⟩
 ·clear hx p0
  intro b i m dd u wl hm hdd hb he hJ
  have hi:i < 14:=by
   have:=(List.getElem?_eq_some_iff.1 hm).1
   simpa using this
  have h0:=hJ.2.1
  have hS:=(Sep.start w).ext hJ.1
  have gp:=fun e (h1:e∈dd) (h2:e < 14)=>hJ.2.2 e h2 (he e h1)
  match i,hm,hdd,hb,hi with
  | 0,hm,hdd,hb,_ =>
    injection hm with hm;subst hm
    injection hdd with hdd;subst hdd
    skip
    refine O1_ofS fun K hK=>?_
    (have fct:=@h0;repeat' (first|(refine gO ?_;intro K hK)|(refine kP ?_;clear hK K)|(intro wd hxd;have hS:=Sep.xx hxd)|refine sA ?_|(refine zshr ?_)|(refine zand ?_)))<;>(try clear fct)
    all_goals exact hJ.up 0 zd rfl
  | 1,hm,hdd,hb,_ =>
    injection hm with hm;subst hm
    injection hdd with hdd;subst hdd
    have g0:u 3=U x:=gp 0 ze zd
    refine O1_ofS fun K hK=>?_
    (have fct:=(aI @h0 @g0);repeat' (first|(refine gO ?_;intro K hK)|(refine kP ?_;clear hK K)|(intro wd hxd;have hS:=Sep.xx hxd)|refine sA ?_|(refine zshr ?_)|(refine zand ?_)))<;>(try clear fct)
    all_goals exact hJ.up 1 zd rfl
  | 2,hm,hdd,hb,_ =>
    injection hm with hm;subst hm
    injection hdd with hdd;subst hdd
    skip
    refine O1_ofS fun K hK=>?_
    (have fct:=@h0;repeat' (first|(refine gO ?_;intro K hK)|(refine kP ?_;clear hK K)|(intro wd hxd;have hS:=Sep.xx hxd)|refine sA ?_|(refine zshr ?_)|(refine zand ?_)))<;>(try clear fct)
    all_goals exact hJ.up 2 zd rfl
  | 3,hm,hdd,hb,_ =>
    injection hm with hm;subst hm
    injection hdd with hdd;subst hdd
    have g2:u 5=U x:=gp 2 ze zd
    refine O1_ofS fun K hK=>?_
    (have fct:=(aI @h0 @g2);repeat' (first|(refine gO ?_;intro K hK)|(refine kP ?_;clear hK K)|(intro wd hxd;have hS:=Sep.xx hxd)|refine sA ?_|(refine zshr ?_)|(refine zand ?_)))<;>(try clear fct)
    all_goals exact hJ.up 3 zd rfl
  | 4,hm,hdd,hb,_ =>
    injection hm with hm;subst hm
    injection hdd with hdd;subst hdd
    have g3:u 6=U (x / 16):=gp 3 ze zd
    refine O1_ofS fun K hK=>?_
    (have fct:=(aI @h0 @g3);repeat' (first|(refine gO ?_;intro K hK)|(refine kP ?_;clear hK K)|(intro wd hxd;have hS:=Sep.xx hxd)|refine sA ?_|(refine zshr ?_)|(refine zand ?_)))<;>(try clear fct)
    all_goals exact hJ.up 4 zd rfl
  | 5,hm,hdd,hb,_ =>
    injection hm with hm;subst hm
    injection hdd with hdd;subst hdd
    have g1:u 4=U (x / 16):=gp 1 ze zd;have g4:u 7=U (x / 16+1):=gp 4 ze zd
    refine O1_ofS fun K hK=>?_
    (have fct:=(a4 @h0 @g1 @g4 @ht1);repeat' (first|(refine gO ?_;intro K hK)|(refine kP ?_;clear hK K)|(intro wd hxd;have hS:=Sep.xx hxd)|refine sA ?_|(refine zshr ?_)|(refine zand ?_)))<;>(try clear fct)
    all_goals exact hJ.up 5 zd (by rw [show (x / 16).toNat+1 - (x / 16).toNat=1 by omega];exact congrArg S hd1)
  | 6,hm,hdd,hb,_ =>
    injection hm with hm;subst hm
    injection hdd with hdd;subst hdd
    skip
    refine O1_ofS fun K hK=>?_
    (have fct:=@h0;repeat' (first|(refine gO ?_;intro K hK)|(refine kP ?_;clear hK K)|(intro wd hxd;have hS:=Sep.xx hxd)|refine sA ?_|(refine zshr ?_)|(refine zand ?_)))<;>(try clear fct)
    all_goals exact hJ.up 6 zd rfl
  | 7,hm,hdd,hb,_ =>
    injection hm with hm;subst hm
    injection hdd with hdd;subst hdd
    have g6:u 9=U x:=gp 6 ze zd
    refine O1_ofS fun K hK=>?_
    (have fct:=(aI @h0 @g6);repeat' (first|(refine gO ?_;intro K hK)|(refine kP ?_;clear hK K)|(intro wd hxd;have hS:=Sep.xx hxd)|refine sA ?_|(refine zshr ?_)|(refine zand ?_)))<;>(try clear fct)
    all_goals exact hJ.up 7 zd rfl
  | 8,hm,hdd,hb,_ =>
    injection hm with hm;subst hm
    injection hdd with hdd;subst hdd
    skip
    refine O1_ofS fun K hK=>?_
    (have fct:=@h0;repeat' (first|(refine gO ?_;intro K hK)|(refine kP ?_;clear hK K)|(intro wd hxd;have hS:=Sep.xx hxd)|refine sA ?_|(refine zshr ?_)|(refine zand ?_)))<;>(try clear fct)
    all_goals exact hJ.up 8 zd rfl
  | 9,hm,hdd,hb,_ =>
    injection hm with hm;subst hm
    injection hdd with hdd;subst hdd
    have g8:u 11=U x:=gp 8 ze zd
    refine O1_ofS fun K hK=>?_
    (have fct:=(aI @h0 @g8);repeat' (first|(refine gO ?_;intro K hK)|(refine kP ?_;clear hK K)|(intro wd hxd;have hS:=Sep.xx hxd)|refine sA ?_|(refine zshr ?_)|(refine zand ?_)))<;>(try clear fct)
    all_goals exact hJ.up 9 zd rfl
  | 10,hm,hdd,hb,_ =>
    injection hm with hm;subst hm
    injection hdd with hdd;subst hdd
    have g9:u 12=U (x % 16):=gp 9 ze zd
    refine O1_ofS fun K hK=>?_
    (have fct:=(aI @h0 @g9);repeat' (first|(refine gO ?_;intro K hK)|(refine kP ?_;clear hK K)|(intro wd hxd;have hS:=Sep.xx hxd)|refine sA ?_|(refine zshr ?_)|(refine zand ?_)))<;>(try clear fct)
    all_goals exact hJ.up 10 zd rfl
  | 11,hm,hdd,hb,_ =>
    injection hm with hm;subst hm
    injection hdd with hdd;subst hdd
    have g7:u 10=U (x % 16):=gp 7 ze zd;have g10:u 13=U (x % 16+1):=gp 10 ze zd
    refine O1_ofS fun K hK=>?_
    (have fct:=(a4 @h0 @g7 @g10 @ht2);repeat' (first|(refine gO ?_;intro K hK)|(refine kP ?_;clear hK K)|(intro wd hxd;have hS:=Sep.xx hxd)|refine sA ?_|(refine zshr ?_)|(refine zand ?_)))<;>(try clear fct)
    all_goals exact hJ.up 11 zd (by rw [show (x % 16).toNat+1 - (x % 16).toNat=1 by omega];exact congrArg S hd2)
  | 12,hm,hdd,hb,_ =>
    injection hm with hm;subst hm
    injection hdd with hdd;subst hdd
    have g5:u 8=S [hdgB (x / 16)]:=gp 5 ze zd;have g11:u 14=S [hdgB (x % 16)]:=gp 11 ze zd
    refine O1_ofS fun K hK=>?_
    (have fct:=(a3 @h0 @g5 @g11);repeat' (first|(refine gO ?_;intro K hK)|(refine kP ?_;clear hK K)|(intro wd hxd;have hS:=Sep.xx hxd)|refine sA ?_|(refine zshr ?_)|(refine zand ?_)))<;>(try clear fct)
    all_goals exact hJ.up 12 zd rfl
  | 13,hm,hdd,hb,_ =>
    injection hm with hm;subst hm
    injection hdd with hdd;subst hdd
    have g12:u 15=S [hdgB (x / 16),hdgB (x % 16)]:=gp 12 ze zd
    refine O1_ofS fun K hK=>?_
    (have fct:=(aI @h0 @g12);repeat' (first|(refine gO ?_;intro K hK)|(refine kP ?_;clear hK K)|(intro wd hxd;have hS:=Sep.xx hxd)|refine sA ?_|(refine zshr ?_)|(refine zand ?_)))<;>(try clear fct)
    all_goals exact hJ.up 13 zd rfl
 ·intro b ρ' w' hall hJ
  have T:∀ i d,([[],[0],[],[2],[3],[1,4],[],[6],[],[8],[9],[7,10],[5,11],[12,0,1,2,3,4,5,6,7,8,9,10,11,12]]:List (List Nat))[i]?=some d→(∀ e∈d,b e=true)→b i=true:=by
   intro i d h1 h2
   cases h:b i with
   | true=>rfl
   | false =>
     obtain ⟨e,he,hb⟩:=hall i d h1 h
     rw [h2 e he] at hb;cases hb
  have t0:=T 0 _ rfl ze
  have t1:=T 1 _ rfl (by simp [t0])
  have t2:=T 2 _ rfl ze
  have t3:=T 3 _ rfl (by simp [t2])
  have t4:=T 4 _ rfl (by simp [t3])
  have t5:=T 5 _ rfl (by simp [t1,t4])
  have t6:=T 6 _ rfl ze
  have t7:=T 7 _ rfl (by simp [t6])
  have t8:=T 8 _ rfl ze
  have t9:=T 9 _ rfl (by simp [t8])
  have t10:=T 10 _ rfl (by simp [t9])
  have t11:=T 11 _ rfl (by simp [t7,t10])
  have t12:=T 12 _ rfl (by simp [t5,t11])
  have t13:=T 13 _ rfl (by simp [t0,t1,t2,t3,t4,t5,t6,t7,t8,t9,t10,t11,t12])
  exact hK0 ρ' w' (hJ.2.2 13 zd t13) hJ.1
theorem dspell_spec (x:Int) (x0:0≤x) (x1:x≤255) (w:World):Pu Tryz.prog 160 #[U x] w (S [hdgB (x / 16),hdgB (x % 16)]):=by
 refine En 16 c160 Tryz.func160 ?_
 have hS:=Sep.start w
 repeat' (first|(refine gO ?_;intro K hK)|(refine kP ?_;clear hK K)|(intro wd hxd;have hS:=Sep.xx hxd)|refine sA ?_|fail)
 all_goals
  show OT _ _ spDT _ _
  refine sp_ot x0 x1 (Sep.xt hS) (by simp only [push_cast,↓reduceIte,zq1,zq2,zq3,zq4,zq5]<;>rfl) ?_
  clear hS
  intro ρ' w' p2 hx
  refine hK _ _ ?_
  clear hK
  have hS:=(Sep.start w).ext hx
  (have fct:=@p2;refine rM ?_)
  (first|exact Sep.xt ‹_›|exact ⟨rfl,Sep.xt ‹_›⟩)
theorem dword_spec (e:Int) (he:e=1∨e=2∨e=3) (w:World):Pu Tryz.prog 126 #[I e] w (S (wdE e)):=by
 refine En 10 c126 Tryz.func126 ?_
 have hS:=Sep.start w
 rcases he with rfl|rfl|rfl
 ·repeat' (first|refine G.reg fun K hK=>?_|(refine kM ?_;clear hK K)|refine sA ?_|(refine G.cn ?_ ?_<;>intro hc<;>try exact zxf))
  all_goals
   refine rM ?_
   (first|exact Sep.xt ‹_›|exact ⟨rfl,Sep.xt ‹_›⟩)
 ·repeat' (first|refine G.reg fun K hK=>?_|(refine kM ?_;clear hK K)|refine sA ?_|(refine G.cn ?_ ?_<;>intro hc<;>try exact zxf))
  all_goals
   refine rM ?_
   (first|exact Sep.xt ‹_›|exact ⟨rfl,Sep.xt ‹_›⟩)
 ·repeat' (first|refine G.reg fun K hK=>?_|(refine kM ?_;clear hK K)|refine sA ?_|(refine G.cn ?_ ?_<;>intro hc<;>try exact zxf))
  all_goals
   refine rM ?_
   (first|exact Sep.xt ‹_›|exact ⟨rfl,Sep.xt ‹_›⟩)
def c120:MC:=(Z (yr [qq 1 (.raw (.box 39 (Y 0)) 0),qq 2 (.mv (yc (S []))),qq 3 (.mv (ki 0))]) (Z (Z (yr [qq 5 (.ld (.some 3) (Y 1)),qq 6 (yl 85 [(Y 5)]),qm 4 6]) (Z (yr [qm 7 4,qq 8 (yb .neq (Y 7) (ki 0))]) (yd (Y 8) (Z (yr [qm 9 4,qq 2 (.mv (yc (S []))),qm 3 9]) .ret) yk))) (Z (.drg [qq 10 (.fad 0 (Y 1)),qq 11 (.ld none (Y 10)),qq 12 (yl 160 [(Y 11)]),qq 13 (yb .add (Y 12) (yc (S [32]))),qq 14 (.fad 1 (Y 1)),qq 15 (.ld none (Y 14)),qq 16 (yl 160 [(Y 15)]),qq 17 (yb .add (Y 13) (Y 16)),qq 18 (yb .add (Y 17) (yc (S [32]))),qq 19 (.fad 2 (Y 1)),qq 20 (.ld none (Y 19)),qq 21 (yl 126 [(Y 20)]),qq 22 (yb .add (Y 18) (Y 21)),qm 2 22,qq 3 (.mv (ki 0))] (.some (.br [qq 10 (.fad 0 (Y 1)),qq 14 (.fad 1 (Y 1)),qq 19 (.fad 2 (Y 1))] (.br [qq 11 (.ld none (Y 10))] (.br [qq 12 (yl 160 [(Y 11)]),qq 13 (yb .add (Y 12) (yc (S [32])))] (.br [qq 15 (.ld none (Y 14))] (.leaf [qq 16 (yl 160 [(Y 15)]),qq 17 (yb .add (Y 13) (Y 16)),qq 18 (yb .add (Y 17) (yc (S [32]))),qq 20 (.ld none (Y 19)),qq 21 (yl 126 [(Y 20)]),qq 22 (yb .add (Y 18) (Y 21)),qm 2 22,qq 3 (.mv (ki 0))]) (.leaf [qq 20 (.ld none (Y 19)),qq 16 (yl 160 [(Y 15)]),qq 17 (yb .add (Y 13) (Y 16)),qq 18 (yb .add (Y 17) (yc (S [32]))),qq 21 (yl 126 [(Y 20)]),qq 22 (yb .add (Y 18) (Y 21)),qm 2 22,qq 3 (.mv (ki 0))])) (.leaf [qq 20 (.ld none (Y 19)),qq 15 (.ld none (Y 14)),qq 16 (yl 160 [(Y 15)]),qq 17 (yb .add (Y 13) (Y 16)),qq 18 (yb .add (Y 17) (yc (S [32]))),qq 21 (yl 126 [(Y 20)]),qq 22 (yb .add (Y 18) (Y 21)),qm 2 22,qq 3 (.mv (ki 0))])) (.br [] (.br [qq 15 (.ld none (Y 14))] (.br [qq 12 (yl 160 [(Y 11)]),qq 13 (yb .add (Y 12) (yc (S [32])))] (.leaf [qq 16 (yl 160 [(Y 15)]),qq 17 (yb .add (Y 13) (Y 16)),qq 18 (yb .add (Y 17) (yc (S [32]))),qq 20 (.ld none (Y 19)),qq 21 (yl 126 [(Y 20)]),qq 22 (yb .add (Y 18) (Y 21)),qm 2 22,qq 3 (.mv (ki 0))]) (.leaf [qq 20 (.ld none (Y 19)),qq 16 (yl 160 [(Y 15)]),qq 17 (yb .add (Y 13) (Y 16)),qq 18 (yb .add (Y 17) (yc (S [32]))),qq 21 (yl 126 [(Y 20)]),qq 22 (yb .add (Y 18) (Y 21)),qm 2 22,qq 3 (.mv (ki 0))])) (.leaf [qq 20 (.ld none (Y 19)),qq 12 (yl 160 [(Y 11)]),qq 13 (yb .add (Y 12) (yc (S [32]))),qq 16 (yl 160 [(Y 15)]),qq 17 (yb .add (Y 13) (Y 16)),qq 18 (yb .add (Y 17) (yc (S [32]))),qq 21 (yl 126 [(Y 20)]),qq 22 (yb .add (Y 18) (Y 21)),qm 2 22,qq 3 (.mv (ki 0))])) (.br [qq 20 (.ld none (Y 19))] (.leaf [qq 12 (yl 160 [(Y 11)]),qq 13 (yb .add (Y 12) (yc (S [32]))),qq 15 (.ld none (Y 14)),qq 16 (yl 160 [(Y 15)]),qq 17 (yb .add (Y 13) (Y 16)),qq 18 (yb .add (Y 17) (yc (S [32]))),qq 21 (yl 126 [(Y 20)]),qq 22 (yb .add (Y 18) (Y 21)),qm 2 22,qq 3 (.mv (ki 0))]) (.leaf [qq 15 (.ld none (Y 14)),qq 12 (yl 160 [(Y 11)]),qq 13 (yb .add (Y 12) (yc (S [32]))),qq 16 (yl 160 [(Y 15)]),qq 17 (yb .add (Y 13) (Y 16)),qq 18 (yb .add (Y 17) (yc (S [32]))),qq 21 (yl 126 [(Y 20)]),qq 22 (yb .add (Y 18) (Y 21)),qm 2 22,qq 3 (.mv (ki 0))])))) (.br [] (.br [qq 15 (.ld none (Y 14))] (.br [qq 11 (.ld none (Y 10))] (.br [qq 12 (yl 160 [(Y 11)]),qq 13 (yb .add (Y 12) (yc (S [32])))] (.leaf [qq 16 (yl 160 [(Y 15)]),qq 17 (yb .add (Y 13) (Y 16)),qq 18 (yb .add (Y 17) (yc (S [32]))),qq 20 (.ld none (Y 19)),qq 21 (yl 126 [(Y 20)]),qq 22 (yb .add (Y 18) (Y 21)),qm 2 22,qq 3 (.mv (ki 0))]) (.leaf [qq 20 (.ld none (Y 19)),qq 16 (yl 160 [(Y 15)]),qq 17 (yb .add (Y 13) (Y 16)),qq 18 (yb .add (Y 17) (yc (S [32]))),qq 21 (yl 126 [(Y 20)]),qq 22 (yb .add (Y 18) (Y 21)),qm 2 22,qq 3 (.mv (ki 0))])) (.leaf [qq 20 (.ld none (Y 19)),qq 12 (yl 160 [(Y 11)]),qq 13 (yb .add (Y 12) (yc (S [32]))),qq 16 (yl 160 [(Y 15)]),qq 17 (yb .add (Y 13) (Y 16)),qq 18 (yb .add (Y 17) (yc (S [32]))),qq 21 (yl 126 [(Y 20)]),qq 22 (yb .add (Y 18) (Y 21)),qm 2 22,qq 3 (.mv (ki 0))])) (.leaf [qq 20 (.ld none (Y 19)),qq 11 (.ld none (Y 10)),qq 12 (yl 160 [(Y 11)]),qq 13 (yb .add (Y 12) (yc (S [32]))),qq 16 (yl 160 [(Y 15)]),qq 17 (yb .add (Y 13) (Y 16)),qq 18 (yb .add (Y 17) (yc (S [32]))),qq 21 (yl 126 [(Y 20)]),qq 22 (yb .add (Y 18) (Y 21)),qm 2 22,qq 3 (.mv (ki 0))])) (.br [qq 20 (.ld none (Y 19))] (.br [qq 11 (.ld none (Y 10))] (.leaf [qq 12 (yl 160 [(Y 11)]),qq 13 (yb .add (Y 12) (yc (S [32]))),qq 15 (.ld none (Y 14)),qq 16 (yl 160 [(Y 15)]),qq 17 (yb .add (Y 13) (Y 16)),qq 18 (yb .add (Y 17) (yc (S [32]))),qq 21 (yl 126 [(Y 20)]),qq 22 (yb .add (Y 18) (Y 21)),qm 2 22,qq 3 (.mv (ki 0))]) (.leaf [qq 15 (.ld none (Y 14)),qq 12 (yl 160 [(Y 11)]),qq 13 (yb .add (Y 12) (yc (S [32]))),qq 16 (yl 160 [(Y 15)]),qq 17 (yb .add (Y 13) (Y 16)),qq 18 (yb .add (Y 17) (yc (S [32]))),qq 21 (yl 126 [(Y 20)]),qq 22 (yb .add (Y 18) (Y 21)),qm 2 22,qq 3 (.mv (ki 0))])) (.leaf [qq 15 (.ld none (Y 14)),qq 11 (.ld none (Y 10)),qq 12 (yl 160 [(Y 11)]),qq 13 (yb .add (Y 12) (yc (S [32]))),qq 16 (yl 160 [(Y 15)]),qq 17 (yb .add (Y 13) (Y 16)),qq 18 (yb .add (Y 17) (yc (S [32]))),qq 21 (yl 126 [(Y 20)]),qq 22 (yb .add (Y 18) (Y 21)),qm 2 22,qq 3 (.mv (ki 0))])))))) .ret)))
theorem dtext_spec (d:Dl) (hd:byD d) (hr:rightD d=true) (w:World):Pu Tryz.prog 120 #[(.agg #[U d.dl,U d.q,I d.e])] w (.tuple #[S (txD d),I 0]):=by
 refine En 23 c120 Tryz.func120 ?_
 have hS:=Sep.start w
 have h1:=fun w=>dspell_spec d.dl hd.1 hd.2.1 w
 have h2:=fun w=>dspell_spec d.q hd.2.2.1 hd.2.2.2 w
 have h3:=fun w=>dword_spec d.e (right_e hr) w
 have hwl:(wdE d.e).length≤6:=by unfold wdE;split<;>(try split)<;>simp
 (have fct:=@hr;repeat' (first|(refine gO ?_;intro K hK)|(refine kP ?_;clear hK K)|(refine hK _ _ ?_ ?_<;>clear hK K)|(intro wd hxd;have hS:=Sep.xx hxd)|refine sA ?_|(((with_reducible refine gBox ?_);refine zbox ?_);intro gb wb hS)|(with_reducible refine aI (a:=OT _ _ _ _ _) (b:=OT _ _ _ _ _) ?_ ?_)|(refine zcp 85 (checkD_spec d _) ?_;intro wb hS)|((with_reducible (show CallK _ 160 [U d.dl] _ _ _ _));refine zcp 160 (h1 _) ?_;intro wb hS)|((with_reducible (show CallK _ 160 [U d.q] _ _ _ _));refine zcp 160 (h2 _) ?_;intro wb hS)|(refine zcp 126 (h3 _) ?_;intro wb hS)|(refine G.cn ?_ ?_<;>intro hc<;>try exact zxf)))<;>(try clear fct)
 all_goals
  refine rM ?_
  (first|exact Sep.xt ‹_›|exact ⟨rfl,Sep.xt ‹_›⟩)
end Go.Proofs.YtllanbmpacgigaaGreatDoor
