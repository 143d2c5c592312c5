/- Texts of the proof, joined. -/
import Derived.Test.YtllanbmpacgigaaGreatDoorIW15
import Derived.Test.YtllanbmpacgigaaGreatDoorIBi
namespace Go.Proofs.YtllanbmpacgigaaGreatDoor
open Operand renaming tmp→Y,const→yc
open MC renaming seq→Z,reg→yr,skip→yk,cond→yd
open MO renaming call→yl,bin→yb
open Nat renaming reduceAdd→zq1,reduceLeDiff→zq2,reduceEqDiff→zq3,reduceLT→zq4
open Int renaming reduceToNat→zq5
set_option linter.unusedSimpArgs false
set_option linter.unusedVariables false
attribute [local irreducible] SemK UnitK StK AlcK BslK CallK CallV Instr.box Builtin.append_ Instr.makeSlice Instr.makeMap Instr.lookup Instr.mapUpdate Instr.sliceAt convert
open Go.RowKit
def c93l1:MC:=(Z (Z (yr [qm 57 8,qm 58 9,qq 59 (yb .lss (Y 57) (Y 58))]) (yd (Y 59) yk (.exit 1))) (.blk 2 (Z (Z (yr [qm 60 0,qm 61 8,qq 62 (.idxS (Y 60) (Y 61)),qm 63 6,qq 64 (yb .neq (Y 62) (Y 63))]) (yd (Y 64) (Z (yr [qm 65 0,qm 66 8,qq 67 (yb .add (Y 66) (ki 1)),qm 68 9,qq 69 (.slS (Y 65) (.some (Y 67)) (.some (Y 68))),qm 70 6,qq 71 (yl 133 [(Y 69),(Y 70)]),qm 11 71]) (Z (Z (yr [qm 72 11,qq 73 (yb .lss (Y 72) (ki 0))]) (yd (Y 73) (Z (yr [qq 4 (.mv (ki (-1)))]) .ret) yk)) (yr [qm 74 8,qm 75 11,qq 76 (yb .add (Y 75) (ki 1)),qq 77 (yb .add (Y 74) (Y 76)),qm 8 77]))) yk)) (Z (Z (yr [qm 78 0,qm 79 8,qq 80 (yb .add (Y 79) (ki 1)),qq 81 (.idxS (Y 78) (Y 80)),qm 82 7,qq 83 (yb .eql (Y 81) (Y 82)),qm 84 83,qmt 84 85 0,qmt 84 86 8,qmt 84 87 8,qmt 84 88 5,qt 84 89 (yb .add (Y 87) (Y 88)),qt 84 90 (.slS (Y 85) (.some (Y 86)) (.some (Y 89))),qmt 84 91 1,qt 84 92 (yb .eql (Y 90) (Y 91)),qq 93 (.pick (Y 84) (Y 92) (kb false))]) (yd (Y 93) (Z (yr [qm 94 8,qm 4 94]) .ret) yk)) (Z (yr [qm 95 8,qq 96 (yb .add (Y 95) (ki 1)),qm 8 96]) (Z (yr [qm 97 10,qq 98 (yb .add (Y 97) (ki 1)),qm 10 98]) (Z (yr [qm 99 5,qq 100 (.ld none (.global 0)),qq 101 (yb .leq (Y 99) (Y 100)),qm 102 101,qmt 102 103 10,qmt 102 104 8,qt 102 105 (yl 135 [(Y 104)]),qt 102 106 (yb .gtr (Y 103) (Y 105)),qq 107 (.pick (Y 102) (Y 106) (kb false))]) (yd (Y 107) (Z (yr [qm 108 0,qm 109 8,qq 110 (.slS (Y 108) (.some (Y 109)) none),qm 111 1,qq 112 (.raw (.call ⟨(.value (.func 134)),#[(Y 110),(Y 111)],#[9,9]⟩) 3),qm 12 112]) (Z (Z (yr [qm 113 12,qq 114 (yb .geq (Y 113) (ki 0))]) (yd (Y 114) (Z (yr [qm 115 12,qm 116 8,qq 117 (yb .add (Y 115) (Y 116)),qm 4 117]) .ret) yk)) (Z (yr [qq 4 (.mv (ki (-1)))]) .ret))) (Z (yr [qm 118 5,qq 119 (.ld none (.global 0)),qq 120 (yb .gtr (Y 118) (Y 119)),qm 121 120,qmt 121 122 10,qmt 121 123 8,qt 121 124 (.raw (.binOp .shr 3 (Y 123) (yc (.int .u64 4)) 206) 3),qt 121 125 (yb .add (ki 4) (Y 124)),qt 121 126 (yb .geq (Y 122) (Y 125)),qq 127 (.pick (Y 121) (Y 126) (kb false)),qm 128 127,qmt 128 129 8,qmt 128 130 9,qt 128 131 (yb .lss (Y 129) (Y 130)),qq 132 (.pick (Y 128) (Y 131) (kb false))]) (yd (Y 132) (Z (yr [qm 133 0,qm 134 8,qq 135 (.slS (Y 133) (.some (Y 134)) none),qm 136 1,qq 137 (yl 136 [(Y 135),(Y 136)]),qm 13 137]) (Z (Z (yr [qm 138 13,qq 139 (yb .lss (Y 138) (ki 0))]) (yd (Y 139) (Z (yr [qq 4 (.mv (ki (-1)))]) .ret) yk)) (Z (yr [qm 140 8,qm 141 13,qq 142 (yb .add (Y 140) (Y 141)),qm 4 142]) .ret))) yk))))))))))
def c93:MC:=(Z (yr [qq 4 (.mv (ki 0))]) (Z (yr [qm 14 1,qq 15 (.lenS (Y 14)),qm 5 15]) (Z (.blk 0 (Z (yr [qm 17 5,qq 18 (yb .eql (Y 17) (ki 0)),qm 19 18,qmf 19 20 1,qmf 19 21 0,qf 19 22 (yb .eql (Y 20) (Y 21)),qq 23 (.pick (Y 19) (kb true) (Y 22)),qm 16 23]) (yd (Y 16) (Z (yr [qq 4 (.mv (ki 0))]) .ret) (Z (yr [qm 25 5,qq 26 (yb .eql (Y 25) (ki 1)),qm 24 26]) (yd (Y 24) (Z (yr [qm 27 0,qm 28 1,qq 29 (.idxS (Y 28) (ki 0)),qq 30 (yl 133 [(Y 27),(Y 29)]),qm 4 30]) .ret) (Z (yr [qm 32 5,qm 33 0,qq 34 (.lenS (Y 33)),qq 35 (yb .geq (Y 32) (Y 34)),qm 31 35]) (yd (Y 31) (Z (yr [qq 4 (.mv (ki (-1)))]) .ret) (Z (yr [qm 37 5,qq 38 (.ld none (.global 0)),qq 39 (yb .leq (Y 37) (Y 38)),qm 40 39,qmt 40 41 0,qt 40 42 (.lenS (Y 41)),qt 40 43 (yb .leq (Y 42) (ki 64)),qq 44 (.pick (Y 40) (Y 43) (kb false)),qm 36 44]) (yd (Y 36) (Z (yr [qm 45 0,qm 46 1,qq 47 (.raw (.call ⟨(.value (.func 134)),#[(Y 45),(Y 46)],#[9,9]⟩) 3),qm 4 47]) .ret) yk))))))))) (Z (yr [qm 48 1,qq 49 (.idxS (Y 48) (ki 0)),qm 6 49]) (Z (yr [qm 50 1,qq 51 (.idxS (Y 50) (ki 1)),qm 7 51]) (Z (yr [qq 8 (.mv (ki 0))]) (Z (yr [qm 52 0,qq 53 (.lenS (Y 52)),qm 54 5,qq 55 (yb .sub (Y 53) (Y 54)),qq 56 (yb .add (Y 55) (ki 1)),qm 9 56]) (Z (yr [qq 10 (.mv (ki 0))]) (Z (.blk 1 (.loop c93l1)) (Z (yr [qq 4 (.mv (ki (-1)))]) .ret))))))))))
theorem idx_spec (s:Str) (c:UInt8) (w:World):Pu Tryz.prog 93 #[S s,S [c]] w (I (Lib.indexByte s c)):=by
 refine En 143 c93 Tryz.func93 ?_
 have hS:=Sep.start w
 repeat' (first|refine G.reg fun K hK=>?_|(refine kM ?_;clear hK K)|refine sA ?_|(refine brO_n ?_ ?_<;>intro hb hc<;>first|exact zxf|(simp only [hb];clear hb))|(refine zcv ?_)|(refine zcp 133 (ib1_spec s c _ rfl _) ?_;intro wb hS)|(refine G.cn ?_ ?_<;>intro hc<;>try exact zxf))
 all_goals
  refine rM ?_
  first|exact Sep.xt ‹_›|(refine ⟨?_,Sep.xt ‹_›⟩;subst s;rw [idx_self])
def c61:MC:=(Z (yr [qq 4 (.mv (yc (S []))),qq 5 (.mv (yc (S []))),qq 6 (.mv (kb false))]) (Z (Z (yr [qm 8 0,qm 9 1,qq 10 (yl 93 [(Y 8),(Y 9)]),qm 7 10]) (Z (yr [qm 11 7,qq 12 (yb .geq (Y 11) (ki 0))]) (yd (Y 12) (Z (.drg [qm 13 0,qm 14 7,qq 15 (.slS (Y 13) none (.some (Y 14))),qm 16 0,qm 17 7,qm 18 1,qq 19 (.lenS (Y 18)),qq 20 (yb .add (Y 17) (Y 19)),qq 21 (.slS (Y 16) (.some (Y 20)) none),qm 4 15,qm 5 21,qq 6 (.mv (kb true))] none) .ret) yk))) (Z (yr [qm 22 0,qm 4 22,qq 5 (.mv (yc (S []))),qq 6 (.mv (kb false))]) .ret)))
theorem cut0_spec (s:Str) (c:UInt8) (w:World) (hl:s.length≤1000000000):Pu Tryz.prog 61 #[S s,S [c]] w (.tuple #[S (cutT c s).1,S (cutT c s).2.1,.bool (cutT c s).2.2]):=by
 refine En 23 c61 Tryz.func61 ?_
 have hS:=Sep.start w
 rcases cutT_eq c s with ⟨h1,h⟩|⟨k,hk,h1,h⟩<;>rw [h]
 ·(have fct:=@h1;repeat' (first|(refine gO ?_;intro K hK)|(refine kP ?_;clear hK K)|(intro wd hxd;have hS:=Sep.xx hxd)|refine sA ?_|(refine zcp 93 (idx_spec s c _) ?_;intro wb hS)|(refine G.cn ?_ ?_<;>intro hc<;>try exact zxf)))<;>(try clear fct)
  refine rM ?_
  (first|exact Sep.xt ‹_›|exact ⟨rfl,Sep.xt ‹_›⟩)
 ·have ht:((k:Int)+1).toNat=k+1:=by omega
  (have fct:=(aI @h1 @ht);repeat' (first|(refine gO ?_;intro K hK)|(refine kP ?_;clear hK K)|(intro wd hxd;have hS:=Sep.xx hxd)|refine sA ?_|(refine zcp 93 (idx_spec s c _) ?_;intro wb hS)|(refine G.cn ?_ ?_<;>intro hc<;>try exact zxf)))<;>(try clear fct)
  (have fct:=@ht;refine rM ?_)
  (first|exact Sep.xt ‹_›|exact ⟨rfl,Sep.xt ‹_›⟩)
def c44:MC:=(Z (yr [qq 4 (.mv (yc (S []))),qq 5 (.mv (yc (S []))),qq 6 (.mv (kb false))]) (Z (yr [qm 7 0,qm 8 1,qq 9 (yl 61 [(Y 7),(Y 8)]),qq 10 (.ext 0 (Y 9)),qq 11 (.ext 1 (Y 9)),qq 12 (.ext 2 (Y 9)),qm 4 10,qm 5 11,qm 6 12]) .ret))
theorem cut_spec (s:Str) (c:UInt8) (w:World) (hl:s.length≤1000000000):Pu Tryz.prog 44 #[S s,S [c]] w (.tuple #[S (cutT c s).1,S (cutT c s).2.1,.bool (cutT c s).2.2]):=by
 refine En 13 c44 Tryz.func44 ?_
 have hS:=Sep.start w
 repeat' (first|refine G.reg fun K hK=>?_|(refine kM ?_;clear hK K)|refine sA ?_|(refine zcp 61 (cut0_spec s c _ hl) ?_;intro wb hS))
 refine rM ?_
 (first|exact Sep.xt ‹_›|exact ⟨rfl,Sep.xt ‹_›⟩)
theorem hsuf_spec (k:Str) (c:UInt8) (w:World) (hl0:k.length≤1000000000):Pu Tryz.prog 145 #[S k,S [c]] w (.bool (decide (1≤k.length∧k.drop (k.length - 1)=[c]))):=by
 refine En 21 c145 Tryz.func145 ?_
 have hS:=Sep.start w
 have ht:((k.length:Int) - 1).toNat=k.length - 1:=by omega
 by_cases hl:1≤k.length
 ·(have fct:=@ht;repeat' (first|refine G.reg fun K hK=>?_|(refine kM ?_;clear hK K)|refine sA ?_|(refine brO_n ?_ ?_<;>intro hb hc<;>first|exact zxf|(simp only [hb];clear hb))))<;>(try clear fct)
  (have fct:=@ht;refine rM ?_)
  refine ⟨?_,Sep.xt ‹_›⟩
  simp [hl]
  rw [Bool.eq_iff_iff];simp
 ·(have fct:=@ht;repeat' (first|refine G.reg fun K hK=>?_|(refine kM ?_;clear hK K)|refine sA ?_|(refine brO_n ?_ ?_<;>intro hb hc<;>first|exact zxf|(simp only [hb];clear hb))))<;>(try clear fct)
  refine rM ?_
  refine ⟨?_,Sep.xt ‹_›⟩
  simp [hl]
def c175:MC:=(Z (yr [qq 4 (.mv (yc (S []))),qq 5 (.mv (kb false))]) (Z (Z (yr [qm 6 0,qm 7 1,qq 8 (yl 145 [(Y 6),(Y 7)]),qq 9 (.un .not (Y 8))]) (yd (Y 9) (Z (yr [qm 10 0,qm 4 10,qq 5 (.mv (kb false))]) .ret) yk)) (Z (yr [qm 11 0,qm 12 0,qq 13 (.lenS (Y 12)),qm 14 1,qq 15 (.lenS (Y 14)),qq 16 (yb .sub (Y 13) (Y 15)),qq 17 (.slS (Y 11) none (.some (Y 16))),qm 4 17,qq 5 (.mv (kb true))]) .ret)))
theorem csuf0_spec (k:Str) (w:World) (hl0:k.length≤1000000000):Pu Tryz.prog 175 #[S k,S [63]] w (.tuple #[S (sufM k).1,.bool (sufM k).2]):=by
 refine En 18 c175 Tryz.func175 ?_
 have hS:=Sep.start w
 have ht:((k.length:Int) - (0+1)).toNat=k.length - 1:=by omega
 rw [suf_at]
 by_cases hl:1≤k.length∧k.drop (k.length - 1)=[63]
 ·have h2:=hl.1
  repeat' (first|refine aM ?_|refine G.reg fun K hK=>?_|(refine kM ?_;clear hK K)|(refine kN ?_;clear hK K;intro wd hxd;have hS:=Sep.ext ‹_› hxd)|((first|have hk:=hK|have hk:=hK2);clear hk;simp (disch:=(first|exact dis|fail)) only [push_cast,↓reduceIte,zq1,zq2,zq3,zq4,zq5,decide_eq_true hl,ht])|((first|refine brO_mk ?_ ?_|refine brQ_mk ?_ ?_)<;>intro hb<;>(try simp only [Bool.not_eq_true',Bool.not_eq_false'] at hb)<;>have hc:=hb<;>(try simp only [hcs,reduceCtorEq] at hc)<;>(try (exfalso;omega))<;>simp only [hb]<;>clear hb)|(refine zalc ?_;intro gb wb hS)|(refine zbsl ?_;intro gb wb hS)|((with_reducible (show SemK _ (Instr.box _ _) _ _ _ _));refine zbox ?_;intro gb wb hS)|((with_reducible (show StK _ _ (Value.pointer _) _ _ _ _ _));refine zst ?_;intro wb hS;(try simp only [sets] at hS))|(refine zcv ?_)|(refine zcp 145 (hsuf_spec k 63 _ hl0) ?_;intro wb hS)|(refine G.drt mixed fun K hK wd hxd=>?_;have hS:=Sep.ext ‹_› hxd)|with_reducible refine OT_leaf ?_|(with_reducible refine OT_tail fun K2 hK2=>?_)|(refine kO ?_;clear hK2 K2;intro wd hxd;have hS:=Sep.ext ‹_› hxd)|with_reducible refine OT_br fun K2 hK2=>?_|(refine hK2 _ _ ?_ ?_<;>clear hK2 K2)|refine G.drg mixed fun K hK=>?_|(refine G.cond (by simp only [push_cast,↓reduceIte,zq1,zq2,zq3,zq4,zq5,decide_eq_true hl,ht];rfl) ?_ ?_<;>intro hc<;>(try simp only [hcs,reduceCtorEq] at hc)<;>(try (exfalso;omega))))
  (have fct:=@ht;refine rM ?_)
  rw [if_pos hl]
  (first|exact Sep.xt ‹_›|exact ⟨rfl,Sep.xt ‹_›⟩)
 ·repeat' (first|refine aM ?_|refine G.reg fun K hK=>?_|(refine kM ?_;clear hK K)|(refine kN ?_;clear hK K;intro wd hxd;have hS:=Sep.ext ‹_› hxd)|((first|have hk:=hK|have hk:=hK2);clear hk;simp (disch:=(first|exact dis|fail)) only [push_cast,↓reduceIte,zq1,zq2,zq3,zq4,zq5,decide_eq_false hl])|((first|refine brO_mk ?_ ?_|refine brQ_mk ?_ ?_)<;>intro hb<;>(try simp only [Bool.not_eq_true',Bool.not_eq_false'] at hb)<;>have hc:=hb<;>(try simp only [hcs,reduceCtorEq] at hc)<;>(try (exfalso;omega))<;>simp only [hb]<;>clear hb)|(refine zalc ?_;intro gb wb hS)|(refine zbsl ?_;intro gb wb hS)|((with_reducible (show SemK _ (Instr.box _ _) _ _ _ _));refine zbox ?_;intro gb wb hS)|((with_reducible (show StK _ _ (Value.pointer _) _ _ _ _ _));refine zst ?_;intro wb hS;(try simp only [sets] at hS))|(refine zcv ?_)|(refine zcp 145 (hsuf_spec k 63 _ hl0) ?_;intro wb hS)|(refine G.drt mixed fun K hK wd hxd=>?_;have hS:=Sep.ext ‹_› hxd)|with_reducible refine OT_leaf ?_|(with_reducible refine OT_tail fun K2 hK2=>?_)|(refine kO ?_;clear hK2 K2;intro wd hxd;have hS:=Sep.ext ‹_› hxd)|with_reducible refine OT_br fun K2 hK2=>?_|(refine hK2 _ _ ?_ ?_<;>clear hK2 K2)|refine G.drg mixed fun K hK=>?_|(refine G.cond (by simp only [push_cast,↓reduceIte,zq1,zq2,zq3,zq4,zq5,decide_eq_false hl];rfl) ?_ ?_<;>intro hc<;>(try simp only [hcs,reduceCtorEq] at hc)<;>(try (exfalso;omega))))
  refine rM ?_
  rw [if_neg hl]
  (first|exact Sep.xt ‹_›|exact ⟨rfl,Sep.xt ‹_›⟩)
def c138:MC:=(Z (yr [qq 4 (.mv (yc (S []))),qq 5 (.mv (kb false))]) (Z (yr [qm 6 0,qm 7 1,qq 8 (yl 175 [(Y 6),(Y 7)]),qq 9 (.ext 0 (Y 8)),qq 10 (.ext 1 (Y 8)),qm 4 9,qm 5 10]) .ret))
theorem csuf_spec (k:Str) (w:World) (hl0:k.length≤1000000000):Pu Tryz.prog 138 #[S k,S [63]] w (.tuple #[S (sufM k).1,.bool (sufM k).2]):=by
 refine En 11 c138 Tryz.func138 ?_
 have hS:=Sep.start w
 repeat' (first|refine G.reg fun K hK=>?_|(refine kM ?_;clear hK K)|refine sA ?_|(refine zcp 175 (csuf0_spec k _ hl0) ?_;intro wb hS))
 refine rM ?_
 (first|exact Sep.xt ‹_›|exact ⟨rfl,Sep.xt ‹_›⟩)
def vC (c:Col):Value:=.agg #[S c.name,I c.kind,.bool c.null]
theorem spB_ge (b:UInt8):1≤(spB b).length:=by unfold spB;split<;>(try split)<;>(try split)<;>simp
theorem sp_ge (s:Str):s.length≤(sqM s).length:=by
 induction s with
 | nil=>simp
 | cons b r ih=>rw [sqM_cons,List.length_append,List.length_cons];have:=spB_ge b;omega
def c99:MC:=(Z (yr [qq 2 (.alc 121 [(S []),(.int .i64 0),(.bool false)]),qq 3 (.mv (kb false))]) (Z (yr [qm 12 0,qq 13 (yl 44 [(Y 12),(yc (S [32]))]),qm 11 13,qq 14 (.ext 0 (Y 11)),qq 15 (.ext 1 (Y 11)),qq 16 (.ext 2 (Y 11)),qm 4 14,qm 5 15,qm 6 16]) (Z (yr [qm 18 4,qq 19 (yl 138 [(Y 18),(yc (S [63]))]),qm 17 19,qq 20 (.ext 0 (Y 17)),qq 21 (.ext 1 (Y 17)),qm 4 20,qm 7 21]) (Z (yr [qm 23 5,qq 24 (yl 139 [(Y 23)]),qm 22 24,qq 25 (.ext 0 (Y 22)),qq 26 (.ext 1 (Y 22)),qm 8 25,qm 9 26]) (Z (Z (yr [qm 27 6,qq 28 (.un .not (Y 27)),qm 29 28,qmf 29 30 9,qf 29 31 (.un .not (Y 30)),qq 32 (.pick (Y 29) (kb true) (Y 31)),qm 33 32,qmf 33 34 8,qf 33 35 (yl 104 [(Y 34)]),qf 33 36 (.un .not (Y 35)),qq 37 (.pick (Y 33) (kb true) (Y 36))]) (yd (Y 37) (Z (yr [qq 38 (.bld [(S []),(.int .i64 0),(.bool false)] []),qn (.st 3 (Y 2) (Y 38)),qq 3 (.mv (kb false))]) .ret) yk)) (Z (yr [qm 39 8,qm 40 7,qq 41 (.bld [(S []),(.int .i64 0),(.bool false)] [⟨0,⟨1,(Y 39)⟩⟩,⟨2,⟨1,(Y 40)⟩⟩]),qq 10 (.alc 121 [(S []),(.int .i64 0),(.bool false)]),qn (.st 3 (Y 10) (Y 41))]) (Z (Z (yr [qm 42 4]) (.blk 0 (Z (yr [qq 45 (yb .eql (Y 42) (yc (S [116,101,120,116]))),qm 44 45]) (yd (Y 44) (yr [qq 46 (.fad 1 (Y 10)),qn (.st 1 (Y 46) (ki 1))]) (Z (yr [qq 48 (yb .eql (Y 42) (yc (S [105,110,116]))),qm 47 48]) (yd (Y 47) (yr [qq 49 (.fad 1 (Y 10)),qn (.st 1 (Y 49) (ki 2))]) (Z (yr [qq 51 (yb .eql (Y 42) (yc (S [98,111,111,108]))),qm 50 51]) (yd (Y 50) (yr [qq 52 (.fad 1 (Y 10)),qn (.st 1 (Y 52) (ki 3))]) (Z (yr [qq 43 (.bld [(S []),(.int .i64 0),(.bool false)] []),qn (.st 3 (Y 2) (Y 43)),qq 3 (.mv (kb false))]) .ret))))))))) (Z (yr [qq 53 (.ld (.some 3) (Y 10)),qn (.st 3 (Y 2) (Y 53)),qq 3 (.mv (kb true))]) .ret))))))))
theorem kcolS_spec (s:Str) (w:World) (hl:s.length≤1000000000):Pu Tryz.prog 99 #[S s] w (.tuple #[vC ((colM s).getD default),.bool (colM s).isSome]):=by
 refine En 54 c99 Tryz.func99 ?_
 have hS:=Sep.start w
 have hcl:=cutT_len 32 s
 have hcc:=cutT_cut 32 s
 by_cases hp:(cutT 32 s).2.2=true
 ·cases hn : unM (cutT 32 s).2.1 with
  | none =>
    have hnl:True:=trivial
    have e:colM s=none:=by unfold colM;rw [hcc,if_pos hp];simp only [hn]
    repeat' (first|refine aM ?_|refine G.reg fun K hK=>?_|(refine kM ?_;clear hK K)|(refine kN ?_;clear hK K;intro wd hxd;have hS:=Sep.ext ‹_› hxd)|((first|have hk:=hK|have hk:=hK2);clear hk;simp (disch:=(first|exact dis|fail)) only [push_cast,↓reduceIte,zq1,zq2,zq3,zq4,zq5,hp,hn,Option.isSome_none])|((first|refine brO_mk ?_ ?_|refine brQ_mk ?_ ?_)<;>intro hb<;>(try simp only [Bool.not_eq_true',Bool.not_eq_false'] at hb)<;>have hc:=hb<;>(try simp only [hcs,reduceCtorEq] at hc)<;>(try (exfalso;omega))<;>simp only [hb]<;>clear hb)|(refine zalc ?_;intro gb wb hS)|(refine zbsl ?_;intro gb wb hS)|((with_reducible (show SemK _ (Instr.box _ _) _ _ _ _));refine zbox ?_;intro gb wb hS)|((with_reducible (show StK _ _ (Value.pointer _) _ _ _ _ _));refine zst ?_;intro wb hS;(try simp only [sets] at hS))|(refine zcv ?_)|(refine zcp 44 (cut_spec s 32 _ hl) ?_;intro wb hS)|(refine zcp 138 (csuf_spec _ _ zo) ?_;intro wb hS)|(refine zcp 139 (unspell_spec _ _ zo) ?_;intro wb hS)|(refine zcp 104 (valid_spec _ _ zo) ?_;intro wb hS)|(refine G.drt mixed fun K hK wd hxd=>?_;have hS:=Sep.ext ‹_› hxd)|with_reducible refine OT_leaf ?_|(with_reducible refine OT_tail fun K2 hK2=>?_)|(refine kO ?_;clear hK2 K2;intro wd hxd;have hS:=Sep.ext ‹_› hxd)|with_reducible refine OT_br fun K2 hK2=>?_|(refine hK2 _ _ ?_ ?_<;>clear hK2 K2)|refine G.drg mixed fun K hK=>?_|(refine G.cond (by simp only [push_cast,↓reduceIte,zq1,zq2,zq3,zq4,zq5,hp,hn,Option.isSome_none];rfl) ?_ ?_<;>intro hc<;>(try simp only [hcs,reduceCtorEq] at hc)<;>(try (exfalso;omega))))
    (have fct:=@e;refine rM ?_)
    (first|exact Sep.xt ‹_›|exact ⟨rfl,Sep.xt ‹_›⟩)
  | some name =>
    have hnl:name.length≤100000000000:=by
     have:=sp_un _ _ (Nat.le_refl _) name hn
     have h2:=sp_ge name
     have h3:(sqM name).length=(cutT 32 s).2.1.length:=by rw [←this]
     omega
    have e:colM s=if validM name=true then (kindM (sufM (cutT 32 s).1).1).map fun k=>⟨name,k,(sufM (cutT 32 s).1).2⟩ else none:=by unfold colM;rw [hcc,if_pos hp];simp only [hn]
    by_cases hv:validM name=true
    ·rw [if_pos hv] at e
     unfold kindM at e
     repeat' (first|refine aM ?_|refine G.reg fun K hK=>?_|(refine kM ?_;clear hK K)|(refine kN ?_;clear hK K;intro wd hxd;have hS:=Sep.ext ‹_› hxd)|((first|have hk:=hK|have hk:=hK2);clear hk;simp (disch:=(first|exact dis|fail)) only [push_cast,↓reduceIte,zq1,zq2,zq3,zq4,zq5,hp,hn,hv,Option.isSome_some,Option.getD_some])|((first|refine brO_mk ?_ ?_|refine brQ_mk ?_ ?_)<;>intro hb<;>(try simp only [Bool.not_eq_true',Bool.not_eq_false'] at hb)<;>have hc:=hb<;>(try simp only [hcs,reduceCtorEq] at hc)<;>(try (exfalso;omega))<;>simp only [hb]<;>clear hb)|(refine zalc ?_;intro gb wb hS)|(refine zbsl ?_;intro gb wb hS)|((with_reducible (show SemK _ (Instr.box _ _) _ _ _ _));refine zbox ?_;intro gb wb hS)|((with_reducible (show StK _ _ (Value.pointer _) _ _ _ _ _));refine zst ?_;intro wb hS;(try simp only [sets] at hS))|(refine zcv ?_)|(refine zcp 44 (cut_spec s 32 _ hl) ?_;intro wb hS)|(refine zcp 138 (csuf_spec _ _ zo) ?_;intro wb hS)|(refine zcp 139 (unspell_spec _ _ zo) ?_;intro wb hS)|(refine zcp 104 (valid_spec _ _ zo) ?_;intro wb hS)|(refine G.drt mixed fun K hK wd hxd=>?_;have hS:=Sep.ext ‹_› hxd)|with_reducible refine OT_leaf ?_|(with_reducible refine OT_tail fun K2 hK2=>?_)|(refine kO ?_;clear hK2 K2;intro wd hxd;have hS:=Sep.ext ‹_› hxd)|with_reducible refine OT_br fun K2 hK2=>?_|(refine hK2 _ _ ?_ ?_<;>clear hK2 K2)|refine G.drg mixed fun K hK=>?_|(refine G.cond (by simp only [push_cast,↓reduceIte,zq1,zq2,zq3,zq4,zq5,hp,hn,hv,Option.isSome_some,Option.getD_some];rfl) ?_ ?_<;>intro hc<;>(try simp only [hcs,reduceCtorEq] at hc)<;>(try (exfalso;omega))))
     all_goals
      first
       | rw [if_pos ‹_›] at e
       | rw [if_neg ‹_›,if_pos ‹_›] at e
       | rw [if_neg ‹_›,if_neg ‹_›,if_pos ‹_›] at e
       | rw [if_neg ‹_›,if_neg ‹_›,if_neg ‹_›] at e
      (have fct:=@e;refine rM ?_)
      (first|exact Sep.xt ‹_›|exact ⟨rfl,Sep.xt ‹_›⟩)
    ·rw [if_neg hv] at e
     repeat' (first|refine aM ?_|refine G.reg fun K hK=>?_|(refine kM ?_;clear hK K)|(refine kN ?_;clear hK K;intro wd hxd;have hS:=Sep.ext ‹_› hxd)|((first|have hk:=hK|have hk:=hK2);clear hk;simp (disch:=(first|exact dis|fail)) only [push_cast,↓reduceIte,zq1,zq2,zq3,zq4,zq5,hp,hn,hv,Option.isSome_some,Option.getD_some])|((first|refine brO_mk ?_ ?_|refine brQ_mk ?_ ?_)<;>intro hb<;>(try simp only [Bool.not_eq_true',Bool.not_eq_false'] at hb)<;>have hc:=hb<;>(try simp only [hcs,reduceCtorEq] at hc)<;>(try (exfalso;omega))<;>simp only [hb]<;>clear hb)|(refine zalc ?_;intro gb wb hS)|(refine zbsl ?_;intro gb wb hS)|((with_reducible (show SemK _ (Instr.box _ _) _ _ _ _));refine zbox ?_;intro gb wb hS)|((with_reducible (show StK _ _ (Value.pointer _) _ _ _ _ _));refine zst ?_;intro wb hS;(try simp only [sets] at hS))|(refine zcv ?_)|(refine zcp 44 (cut_spec s 32 _ hl) ?_;intro wb hS)|(refine zcp 138 (csuf_spec _ _ zo) ?_;intro wb hS)|(refine zcp 139 (unspell_spec _ _ zo) ?_;intro wb hS)|(refine zcp 104 (valid_spec _ _ zo) ?_;intro wb hS)|(refine G.drt mixed fun K hK wd hxd=>?_;have hS:=Sep.ext ‹_› hxd)|with_reducible refine OT_leaf ?_|(with_reducible refine OT_tail fun K2 hK2=>?_)|(refine kO ?_;clear hK2 K2;intro wd hxd;have hS:=Sep.ext ‹_› hxd)|with_reducible refine OT_br fun K2 hK2=>?_|(refine hK2 _ _ ?_ ?_<;>clear hK2 K2)|refine G.drg mixed fun K hK=>?_|(refine G.cond (by simp only [push_cast,↓reduceIte,zq1,zq2,zq3,zq4,zq5,hp,hn,hv,Option.isSome_some,Option.getD_some];rfl) ?_ ?_<;>intro hc<;>(try simp only [hcs,reduceCtorEq] at hc)<;>(try (exfalso;omega))))
     (have fct:=@e;refine rM ?_)
     (first|exact Sep.xt ‹_›|exact ⟨rfl,Sep.xt ‹_›⟩)
 ·have hnl:True:=trivial
  have e:colM s=none:=by unfold colM;rw [hcc,if_neg hp]
  (have fct:=@hp;repeat' (first|refine G.reg fun K hK=>?_|(refine kM ?_;clear hK K)|refine sA ?_|(refine brO_n ?_ ?_<;>intro hb hc<;>first|exact zxf|(simp only [hb];clear hb))|(refine zalc ?_;intro gb wb hS)|((with_reducible refine gSt ?_);refine zs2 ?_;intro wb hS)|(refine zcp 44 (cut_spec s 32 _ hl) ?_;intro wb hS)|(refine zcp 138 (csuf_spec _ _ zo) ?_;intro wb hS)|(refine zcp 139 (unspell_spec _ _ zo) ?_;intro wb hS)|(refine zcp 104 (valid_spec _ _ zo) ?_;intro wb hS)|(refine G.cn ?_ ?_<;>intro hc<;>try exact zxf)))<;>(try clear fct)
  (have fct:=@e;refine rM ?_)
  (first|exact Sep.xt ‹_›|exact ⟨rfl,Sep.xt ‹_›⟩)
noncomputable def eqD {α:Type} (a b:α):Bool:=@decide (a=b) (Classical.propDecidable _)
def fndM (l:List Col) (s:Str):Col×Int×Bool:=if 0≤atM (namesC l) s then (l.getD (atM (namesC l) s).toNat default,atM (namesC l) s,true) else (default,0,false)
def c77l1:MC:=(Z (yr [qq 12 (yb .lss (Y 11) (Y 10))]) (Z (yd (Y 12) yk (.exit 0)) (Z (.blk 1 (Z (yr [qm 13 11,qq 14 (.adr 3 (Y 9) (Y 11)),qq 15 (.ld (.some 3) (Y 14)),qq 8 (.alc 121 [(S []),(.int .i64 0),(.bool false)]),qm 7 13,qn (.st 3 (Y 8) (Y 15))]) (Z (yr [qq 16 (.fad 0 (Y 8)),qq 17 (.ld none (Y 16)),qm 18 1,qq 19 (yb .eql (Y 17) (Y 18))]) (yd (Y 19) (Z (yr [qq 20 (.ld (.some 3) (Y 8)),qm 21 7,qn (.st 3 (Y 4) (Y 20)),qm 5 21,qq 6 (.mv (kb true))]) .ret) yk)))) (yr [qq 22 (yb .add (Y 11) (ki 1)),qm 11 22]))))
def c77:MC:=(Z (yr [qq 4 (.alc 121 [(S []),(.int .i64 0),(.bool false)]),qq 5 (.mv (ki 0)),qq 6 (.mv (kb false))]) (Z (Z (yr [qm 9 0,qq 10 (.len (Y 9)),qq 11 (.mv (ki 0))]) (.blk 0 (.loop c77l1))) (Z (yr [qq 23 (.bld [(S []),(.int .i64 0),(.bool false)] []),qn (.st 3 (Y 4) (Y 23)),qq 5 (.mv (ki 0)),qq 6 (.mv (kb false))]) .ret)))
theorem find_spec {v:Value} {l:List Col} {w:World} (hr:Rd w eC v l) (name:Str):Pu Tryz.prog 77 #[v,S name] w (.tuple #[vC (fndM l name).1,I (fndM l name).2.1,.bool (fndM l name).2.2]):=by
 refine En 24 c77 Tryz.func77 ?_
 have hS:=Sep.start w
 have hbd:=hr.bd
 repeat' (first|refine G.reg fun K hK=>?_|(refine kM ?_;clear hK K)|refine sA ?_|(refine zalc ?_;intro gb wb hS)|((with_reducible refine gSt ?_);refine zs2 ?_;intro wb hS)|(refine G.cn ?_ ?_<;>intro hc<;>try exact zxf))
 refine G.loop (fun r w'=>∃ k:Nat,k≤l.length∧r 11=I k∧r 10=I l.length∧r 9=v∧r 1=S name∧r 4=.pointer (some ⟨gb,0,none⟩)∧atM (namesC l) name=atF ((namesC l).drop k) name k∧Sep w w' [boxC gb 121 [S [],I 0,.bool false]]) (fun r _=>l.length - toN (r 11)) ?_ ?_
 ·refine ⟨0,?_⟩
  ((repeat' apply aI)<;>first|exact dj|(simp only [push_cast,↓reduceIte,zq1,zq2,zq3,zq4,zq5]<;>omega)|skip)
  all_goals rfl
 ·clear hS
  rintro u wl ⟨k,hk,h11,h10,h9,h1,h4,e,hS⟩ ih
  by_cases hlt:(k:Int) < l.length
  ·have hd:(namesC l).drop k=(l.getD k default).name :: (namesC l).drop (k+1):=by unfold namesC;exact mapD (·.name) l k hlt
   rw [hd,atF] at e
   (have fct:=(a5 @h11 @h10 @h9 @h1 @h4);repeat' (first|refine G.reg fun K hK=>?_|(refine kM ?_;clear hK K)|refine sA ?_|(refine zalc ?_;intro gb wb hS)|((with_reducible refine gSt ?_);refine zs2 ?_;intro wb hS)|(refine G.cn ?_ ?_<;>intro hc<;>try exact zxf)))<;>(try clear fct)
   ·(have fct:=(a5 @h11 @h10 @h9 @h1 @h4);refine rM ?_)
    rw [if_pos hc] at e
    have e2:fndM l name=(l.getD k default,(k:Int),true):=by unfold fndM;rw [e,if_pos zo,Int.toNat_natCast]
    rw [e2]
    (first|exact Sep.xt ‹_›|exact ⟨rfl,Sep.xt ‹_›⟩)
   ·rw [if_neg hc] at e
    (refine ih _ _ ⟨k+1,?_⟩ ?_;rotate_left;(focus ((simp only [push_cast,↓reduceIte,zq1,zq2,zq3,zq4,zq5,toN_i,h11,h10,h9,h1,h4]<;>omega)));((repeat' apply aI)<;>first|exact dj|(simp only [push_cast,↓reduceIte,zq1,zq2,zq3,zq4,zq5,h11,h10,h9,h1,h4]<;>omega)|skip))
  ·(have fct:=(a5 @h11 @h10 @h9 @h1 @h4);repeat' (first|refine G.reg fun K hK=>?_|(refine kM ?_;clear hK K)|refine sA ?_|(refine zalc ?_;intro gb wb hS)|((with_reducible refine gSt ?_);refine zs2 ?_;intro wb hS)|(refine G.cn ?_ ?_<;>intro hc<;>try exact zxf)))<;>(try clear fct)
   (have fct:=(a5 @h11 @h10 @h9 @h1 @h4);refine rM ?_)
   have hn:(namesC l).length=l.length:=by simp [namesC]
   rw [List.drop_eq_nil_of_le zo,atF] at e
   have e2:fndM l name=(default,0,false):=by unfold fndM;rw [e];rfl
   rw [e2]
   (first|exact Sep.xt ‹_›|exact ⟨rfl,Sep.xt ‹_›⟩)
theorem eqD_t {α:Type} {a b:α} (h:a=b):eqD a b=true:=by unfold eqD;exact @decide_eq_true _ (Classical.propDecidable _) h
theorem eqD_f {α:Type} {a b:α} (h:¬ a=b):eqD a b=false:=by unfold eqD;exact @decide_eq_false _ (Classical.propDecidable _) h
theorem col_ext {c d:Col} (h:c.name=d.name∧c.kind=d.kind∧c.null=d.null):c=d:=by cases c;cases d;simp_all
theorem take_ext {α:Type} [Inhabited α] {a b:List α} {k:Nat} (hl:a.length=b.length) (hk:(k:Int) < a.length) (h:a.take k=b.take k) (he:a.getD k default=b.getD k default):a.take (k+1)=b.take (k+1):=by
 rw [takeD _ _ hk,takeD _ _ zo,h,he]
theorem get_ne {α:Type} [Inhabited α] {a b:List α} {k:Nat} (he:¬ a.getD k default=b.getD k default):¬ a=b:=fun h=>he (by rw [h])
def c149l1:MC:=(Z (yr [qq 14 (yb .lss (Y 13) (Y 12))]) (Z (yd (Y 14) yk (.exit 0)) (Z (.blk 1 (Z (yr [qm 15 13,qm 5 15]) (Z (.drg [qm 16 0,qm 17 5,qq 18 (.adr 3 (Y 16) (Y 17)),qq 19 (.ld (.some 3) (Y 18)),qm 20 1,qm 21 5,qq 22 (.adr 3 (Y 20) (Y 21)),qq 23 (.ld (.some 3) (Y 22)),qq 24 (.eqA true [.s,.i,.b] (Y 19) (Y 23))] none) (yd (Y 24) (Z (yr [qq 4 (.mv (kb false))]) .ret) yk)))) (yr [qq 25 (yb .add (Y 13) (ki 1)),qm 13 25]))))
def c149:MC:=(Z (yr [qq 4 (.mv (kb false))]) (Z (Z (yr [qm 6 0,qq 7 (.len (Y 6)),qm 8 1,qq 9 (.len (Y 8)),qq 10 (yb .neq (Y 7) (Y 9))]) (yd (Y 10) (Z (yr [qq 4 (.mv (kb false))]) .ret) yk)) (Z (Z (yr [qm 11 0,qq 12 (.len (Y 11)),qq 13 (.mv (ki 0))]) (.blk 0 (.loop c149l1))) (Z (yr [qq 4 (.mv (kb true))]) .ret))))
theorem equal_spec {va vb:Value} {a b:List Col} {w:World} (ha:Rd w eC va a) (hb:Rd w eC vb b):Pu Tryz.prog 149 #[va,vb] w (.bool (eqD a b)):=by
 refine En 26 c149 Tryz.func149 ?_
 have hS:=Sep.start w
 have hbd:=ha.bd
 have hbd2:=hb.bd
 by_cases hl:a.length=b.length
 ·repeat' (first|(refine gO ?_;intro K hK)|(refine kP ?_;clear hK K)|(intro wd hxd;have hS:=Sep.xx hxd)|refine sA ?_|(refine G.cn ?_ ?_<;>intro hc<;>try exact zxf))
  refine G.loop (fun r w'=>∃ k:Nat,k≤a.length∧r 13=I k∧r 12=I a.length∧r 0=va∧r 1=vb∧a.take k=b.take k∧Sep w w' []) (fun r _=>a.length - toN (r 13)) ?_ ?_
  ·refine ⟨0,?_⟩
   ((repeat' apply aI)<;>first|exact dj|(simp only [push_cast,↓reduceIte,zq1,zq2,zq3,zq4,zq5]<;>omega)|skip)
   all_goals rfl
  ·clear hS
   rintro u wl ⟨k,hk,h13,h12,h0,h1,e,hS⟩ ih
   by_cases hlt:(k:Int) < a.length
   ·(have fct:=(a4 @h13 @h12 @h0 @h1);repeat' (first|(refine gO ?_;intro K hK)|(refine kP ?_;clear hK K)|(intro wd hxd;have hS:=Sep.xx hxd)|refine sA ?_|(refine G.cn ?_ ?_<;>intro hc<;>try exact zxf)))<;>(try clear fct)
    ·(have fct:=(a4 @h13 @h12 @h0 @h1);refine rM ?_)
     rw [eqD_f (get_ne (k:=k) (fun h=>by rw [h] at hc;simp at hc))]
     (first|exact Sep.xt ‹_›|exact ⟨rfl,Sep.xt ‹_›⟩)
    ·have:=take_ext hl hlt e (col_ext hc)
     (refine ih _ _ ⟨k+1,?_⟩ ?_;rotate_left;(focus ((simp only [push_cast,↓reduceIte,zq1,zq2,zq3,zq4,zq5,toN_i,h13,h12,h0,h1]<;>omega)));((repeat' apply aI)<;>first|exact dj|(simp only [push_cast,↓reduceIte,zq1,zq2,zq3,zq4,zq5,h13,h12,h0,h1]<;>omega)|skip))
   ·(have fct:=(a4 @h13 @h12 @h0 @h1);repeat' (first|(refine gO ?_;intro K hK)|(refine kP ?_;clear hK K)|(intro wd hxd;have hS:=Sep.xx hxd)|refine sA ?_|(refine G.cn ?_ ?_<;>intro hc<;>try exact zxf)))<;>(try clear fct)
    (have fct:=(a4 @h13 @h12 @h0 @h1);refine rM ?_)
    rw [List.take_of_length_le zo,List.take_of_length_le zo] at e
    rw [eqD_t e]
    (first|exact Sep.xt ‹_›|exact ⟨rfl,Sep.xt ‹_›⟩)
 ·repeat' (first|(refine gO ?_;intro K hK)|(refine kP ?_;clear hK K)|(intro wd hxd;have hS:=Sep.xx hxd)|refine sA ?_|(refine G.cn ?_ ?_<;>intro hc<;>try exact zxf))
  refine rM ?_
  have:¬ a=b:=fun h=>hl (by rw [h])
  rw [eqD_f this]
  (first|exact Sep.xt ‹_›|exact ⟨rfl,Sep.xt ‹_›⟩)
def c108:MC:=(Z (yr [qq 4 (.mv (kb false))]) (Z (yr [qm 5 0,qm 6 1,qq 7 (yl 149 [(Y 5),(Y 6)]),qm 4 7]) .ret))
theorem same18_spec {va vb:Value} {a b:List Col} {w:World} (ha:Rd w eC va a) (hb:Rd w eC vb b):Pu Tryz.prog 108 #[va,vb] w (.bool (eqD a b)):=by
 refine En 8 c108 Tryz.func108 ?_
 have hS:=Sep.start w
 repeat' (first|refine G.reg fun K hK=>?_|(refine kM ?_;clear hK K)|refine sA ?_|(refine zcp 149 (equal_spec (ha.ext hS.x) (hb.ext hS.x)) ?_;intro wb hS))
 refine rM ?_
 (first|exact Sep.xt ‹_›|exact ⟨rfl,Sep.xt ‹_›⟩)
theorem text_take (l:List Col) (k:Nat):(textM (l.take k)).length≤(textM l).length:=by
 have:textM l=textM (l.take k)++textM (l.drop k):=by
  have e:l=l.take k++l.drop k:=(List.take_append_drop k l).symm
  conv=>lhs;rw [e]
  exact List.flatMap_append
 rw [this,List.length_append];omega
theorem text_step (l:List Col) (k:Nat) (h:(k:Int) < l.length):textM (l.take (k+1))=textM (l.take k)++lineC (l.getD k default):=by
 rw [takeD _ _ h];simp [textM]
theorem line_len (c:Col):(lineC c).length=(wordM c.kind).length+(quM c.null).length+(sqM c.name).length+2:=by
 simp [lineC];omega
def c63l1:MC:=(Z (yr [qq 20 (yb .lss (Y 19) (Y 18))]) (Z (yd (Y 20) yk (.exit 0)) (Z (.blk 1 (Z (yr [qq 21 (.adr 3 (Y 17) (Y 19)),qq 22 (.ld (.some 3) (Y 21)),qq 8 (.alc 121 [(S []),(.int .i64 0),(.bool false)]),qn (.st 3 (Y 8) (Y 22))]) (Z (yr [qq 23 (.fad 1 (Y 8)),qq 24 (.ld none (Y 23)),qq 25 (yl 97 [(Y 24)]),qq 26 (yl 34 [(Y 6),(Y 25)])]) (Z (Z (yr [qq 27 (.fad 2 (Y 8)),qq 28 (.ld none (Y 27))]) (yd (Y 28) (yr [qq 29 (yl 35 [(Y 6),(yc (.int .u8 63))])]) yk)) (Z (yr [qq 30 (yl 35 [(Y 6),(yc (.int .u8 32))])]) (Z (yr [qq 31 (.fad 0 (Y 8)),qq 32 (.ld none (Y 31)),qq 33 (yl 98 [(Y 32)]),qq 34 (yl 34 [(Y 6),(Y 33)])]) (yr [qq 35 (yl 35 [(Y 6),(yc (.int .u8 10))])]))))))) (yr [qq 36 (yb .add (Y 19) (ki 1)),qm 19 36]))))
def c63:MC:=(Z (yr [qq 2 (.mv (yc (S []))),qq 3 (.mv (ki 0))]) (Z (Z (yr [qm 10 0,qq 11 (yl 96 [(Y 10)]),qm 9 11,qq 12 (.ext 0 (Y 9)),qq 13 (.ext 1 (Y 9)),qm 4 12,qm 5 13]) (Z (yr [qm 14 5,qq 15 (yb .neq (Y 14) (ki 0))]) (yd (Y 15) (Z (yr [qm 16 5,qq 2 (.mv (yc (S []))),qm 3 16]) .ret) yk))) (Z (yr [qq 6 (.alc 67 [(.pointer none),(.slice none 0 0)])]) (Z (Z (yr [qm 17 0,qq 18 (.len (Y 17)),qq 19 (.mv (ki 0))]) (.blk 0 (.loop c63l1))) (Z (yr [qq 37 (yl 36 [(Y 6)]),qm 2 37,qq 3 (.mv (ki 0))]) .ret)))))
theorem text_spec {v:Value} {l:List Col} {w:World} (hr:Rd w eC v l) (hl2:∀ c∈l,c.name.length≤100000000000) (hl:(textM l).length≤1000000000) :
 Pu Tryz.prog 63 #[v] w (.tuple #[S (if (checkM (l.map nkC)).2=0 then textM l else []),I (checkM (l.map nkC)).2]):=by
 refine En 38 c63 Tryz.func63 ?_
 have hS:=Sep.start w
 have hbd:=hr.bd
 by_cases hc0:(checkM (l.map nkC)).2=0
 ·(have fct:=@hc0;repeat' (first|refine G.reg fun K hK=>?_|(refine kM ?_;clear hK K)|refine sA ?_|(refine zalc ?_;intro gb wb hS)|((with_reducible refine gSt ?_);refine zs2 ?_;intro wb hS)|(refine zcp 96 (check_spec (hr.ext hS.x) hl2) ?_;intro wb hS)|(refine G.cn ?_ ?_<;>intro hc<;>try exact zxf)))<;>(try clear fct)
  have hS:=hS.newB 5
  obtain ⟨gB,rfl⟩:∃ gB,gB=gb:=⟨_,rfl⟩
  refine G.loop (fun r w'=>∃ k:Nat,k≤l.length∧r 19=I k∧r 18=I l.length∧r 17=v∧r 6=.pointer (some ⟨gB,0,none⟩)∧Sep w w' [bldC gB 67 5 (textM (l.take k))]) (fun r _=>l.length - toN (r 19)) ?_ ?_
  ·refine ⟨0,?_⟩
   ((repeat' apply aI)<;>first|exact dj|(simp only [push_cast,↓reduceIte,zq1,zq2,zq3,zq4,zq5]<;>omega)|skip)
  ·clear hS
   rintro u wl ⟨k,hk,h19,h18,h17,h6,hS⟩ ih
   by_cases hlt:(k:Int) < l.length
   ·have hlen:=hl2 _ (getD_mem l k hlt)
    have hst:=text_step l k hlt
    have hll:=line_len (l.getD k default)
    have htl:=text_take l (k+1)
    rw [hst,List.length_append] at htl
    have hw1:∀ n:Int,(wordM n).length≤4:=fun n=>by unfold wordM;split<;>(try split)<;>(try split)<;>simp
    have hw:=hw1 (l.getD k default).kind
    generalize hx:l.getD k default=c at *
    (have fct:=(a5 @h19 @h18 @h17 @h6 @hx);repeat' (first|refine G.reg fun K hK=>?_|(refine kM ?_;clear hK K)|refine sA ?_|(refine zalc ?_;intro gb wb hS)|((with_reducible refine gSt ?_);refine zs2 ?_;intro wb hS)|((with_reducible (show CallK _ 35 [_,Value.int _ 63] _ _ _ _));refine zco 35 (bwb_c 63 63 rfl hS zr (by (try simp only [lens]);omega)) ?_;rintro vb wb ⟨rfl,hS⟩)|((with_reducible (show CallK _ 35 [_,Value.int _ 32] _ _ _ _));refine zco 35 (bwb_c 32 32 rfl hS zr (by (try simp only [lens]);omega)) ?_;rintro vb wb ⟨rfl,hS⟩)|((with_reducible (show CallK _ 35 [_,Value.int _ 10] _ _ _ _));refine zco 35 (bwb_c 10 10 rfl hS zr (by (try simp only [lens]);omega)) ?_;rintro vb wb ⟨rfl,hS⟩)|(refine zco 34 (bws_spec hS zr (by (try simp only [lens]);omega) zo) ?_;rintro vb wb ⟨rfl,hS⟩)|(refine zcp 97 (sword_spec _ _) ?_;intro wb hS)|(refine zcp 98 (spell_spec _ _ zo) ?_;intro wb hS)|(refine G.cn ?_ ?_<;>intro hc<;>try exact zxf)))<;>(try clear fct)
    all_goals
     have hS2:Sep w wb [bldC gB 67 5 (textM (l.take (k+1))),boxC gb 121 [S c.name,I c.kind,.bool c.null]]:=by
      rw [hst];simpa [lineC,quM,hc] using hS
     clear hS
     have hS:=hS2
     (refine ih _ _ ⟨k+1,?_⟩ ?_;rotate_left;(focus ((simp only [push_cast,↓reduceIte,zq1,zq2,zq3,zq4,zq5,toN_i,h19,h18,h17,h6]<;>omega)));((repeat' apply aI)<;>first|exact dj|(simp only [push_cast,↓reduceIte,zq1,zq2,zq3,zq4,zq5,h19,h18,h17,h6]<;>omega)|skip))
   ·(have fct:=(a4 @h19 @h18 @h17 @h6);repeat' (first|refine G.reg fun K hK=>?_|(refine kM ?_;clear hK K)|refine sA ?_|(refine zalc ?_;intro gb wb hS)|((with_reducible refine gSt ?_);refine zs2 ?_;intro wb hS)|(refine zco 36 (bst_spec hS .h) ?_;rintro vb wb ⟨rfl,hS⟩)|(refine G.cn ?_ ?_<;>intro hc<;>try exact zxf)))<;>(try clear fct)
    (have fct:=(a4 @h19 @h18 @h17 @h6);refine rM ?_)
    rw [List.take_of_length_le zo,if_pos hc0,hc0]
    (first|exact Sep.xt ‹_›|exact ⟨rfl,Sep.xt ‹_›⟩)
 ·repeat' (first|refine G.reg fun K hK=>?_|(refine kM ?_;clear hK K)|refine sA ?_|(refine zalc ?_;intro gb wb hS)|((with_reducible refine gSt ?_);refine zs2 ?_;intro wb hS)|(refine zcp 96 (check_spec (hr.ext hS.x) hl2) ?_;intro wb hS)|(refine G.cn ?_ ?_<;>intro hc<;>try exact zxf))
  refine rM ?_
  rw [if_neg hc0]
  (first|exact Sep.xt ‹_›|exact ⟨rfl,Sep.xt ‹_›⟩)
def sN:Value→Nat
 | .string b=>b.size
 | _=>0
theorem sN_s (s:Str):sN (S s)=s.length:=by simp [sN,S,ByteArray.size]
theorem lc_no (s:Str) (h:cutM 10 s=none):lcM s=none:=by unfold lcM;rw [h]
theorem lc_at (a:Str) (h:(10:UInt8) ∉ a):lcM (a++[10])=colM a:=by unfold lcM;rw [cut_at 10 a [] h];simp
theorem prs_step (acc:List Col) (cur:Str) (h:cur≠[]):prsF acc (linesF [] cur)=if (cutT 10 cur).2.2=true then (match colM (cutT 10 cur).1 with
 | none=>([],(acc.length:Int)+1,23)
 | some c=>if 0≤atM (acc.map (·.name)) c.name then ([],(acc.length:Int)+1,23) else prsF (acc++[c]) (linesF [] (cutT 10 cur).2.1)) else ([],(acc.length:Int)+1,23):=by
 rw [linesF_cut]
 cases hc:cutM 10 cur with
 | none =>
   have ht:(cutT 10 cur).2.2=false:=by simp [cutT,hc]
   rw [ht]
   simp [prsF,lc_no _ hc,h]
 | some p =>
   obtain ⟨a,r⟩:=p
   obtain ⟨_,hn⟩:=cut_of 10 cur hc
   have ht:cutT 10 cur=(a,r,true):=by simp [cutT,hc]
   rw [ht]
   simp only [List.nil_append,prsF,lc_at a hn,if_pos]
   rfl
def c64l1:MC:=(Z (Z (yr [qm 15 0,qq 16 (yb .neq (Y 15) (yc (S [])))]) (yd (Y 16) yk (.exit 0))) (.blk 1 (Z (yr [qm 18 0,qq 19 (yl 44 [(Y 18),(yc (S [10]))]),qm 17 19,qq 20 (.ext 0 (Y 17)),qq 21 (.ext 1 (Y 17)),qq 22 (.ext 2 (Y 17)),qm 7 20,qm 8 21,qm 9 22]) (Z (yr [qm 24 7,qq 25 (yl 99 [(Y 24)]),qm 23 25,qq 26 (.ext 0 (Y 23)),qq 27 (.ext 1 (Y 23)),qq 10 (.alc 121 [(S []),(.int .i64 0),(.bool false)]),qn (.st 3 (Y 10) (Y 26)),qm 11 27]) (Z (Z (yr [qm 28 9,qq 29 (.un .not (Y 28)),qm 30 29,qmf 30 31 11,qf 30 32 (.un .not (Y 31)),qq 33 (.pick (Y 30) (kb true) (Y 32)),qm 34 33,qmf 34 35 6,qf 34 36 (.fad 0 (Y 10)),qf 34 37 (.ld none (Y 36)),qf 34 38 (.raw (.lookup 149 (Y 35) (Y 37) false) 4),qq 39 (.pick (Y 34) (kb true) (Y 38))]) (yd (Y 39) (Z (yr [qm 40 5,qq 41 (.len (Y 40)),qq 42 (yb .add (Y 41) (ki 1)),qq 2 (.mv (yc (.slice none 0 0))),qm 3 42,qq 4 (.mv (ki 23))]) .ret) yk)) (Z (yr [qm 43 6,qq 44 (.fad 0 (Y 10)),qq 45 (.ld none (Y 44)),qn (.raw (.mapUpdate 149 (Y 43) (Y 45) (kb true)) 0)]) (Z (yr [qm 46 5,qq 47 (.ld (.some 3) (Y 10)),qq 48 (.bsl 121 [(S []),(.int .i64 0),(.bool false)] 1 [⟨0,⟨3,(Y 47)⟩⟩]),qq 49 (.raw (.call ⟨(.builtin .append),#[(Y 46),(Y 48)],#[53,53]⟩) 53),qm 5 49]) (yr [qm 50 8,qm 0 50]))))))))
def c64:MC:=(Z (yr [qq 2 (.mv (yc (.slice none 0 0))),qq 3 (.mv (ki 0)),qq 4 (.mv (ki 0))]) (Z (Z (yr [qm 12 0,qq 13 (yb .eql (Y 12) (yc (S [])))]) (yd (Y 13) (Z (yr [qq 2 (.mv (yc (.slice none 0 0))),qq 3 (.mv (ki 0)),qq 4 (.mv (ki 23))]) .ret) yk)) (Z (yr [qq 5 (.mv (yc (.slice none 0 0)))]) (Z (yr [qq 14 (.raw (.makeMap 149 none) 149),qm 6 14]) (Z (.blk 0 (.loop c64l1)) (Z (yr [qm 51 5,qm 52 5,qq 53 (.len (Y 52)),qm 2 51,qm 3 53,qq 4 (.mv (ki 0))]) .ret))))))
theorem sparse_spec (s:Str) (w:World) (hl:s.length≤1000000000):Ret Tryz.prog 64 #[S s] w fun res w'=>∃ lv,res=.tuple #[lv,I (prsM s).2.1,I (prsM s).2.2]∧Sep w w' [accC lv 121 eC (prsM s).1]:=by
 refine En 54 c64 Tryz.func64 ?_
 have hS:=Sep.start w
 have nilR:∀ {wx:World} {L:List Chk},Sep w wx L→Sep w wx [accC (.slice none 0 0) 121 eC []]:=fun h=>(Sep.sub h Sub.n).nil _ _
 by_cases hs:s=[]
 ·have e:prsM s=([],0,23):=by unfold prsM;rw [if_pos hs]
  rw [e]
  subst hs
  have hz:(([]:Str) == [])=true:=rfl
  (have fct:=@hz;repeat' (first|refine G.reg fun K hK=>?_|(refine kM ?_;clear hK K)|refine sA ?_|(refine brO_n ?_ ?_<;>intro hb hc<;>first|exact zxf|(simp only [hb];clear hb))|((first|refine zalc ?_|refine zbsl ?_);intro gb wb hS)|((with_reducible refine gSt ?_);refine zs2 ?_;intro wb hS)|(refine G.cn ?_ ?_<;>intro hc<;>try exact zxf)))<;>(try clear fct)
  refine rM ?_
  exact ⟨_,rfl,nilR hS⟩
 ·have e : prsM s=prsF [] (linesF [] s):=by unfold prsM;rw [if_neg hs]
  have hz:(s == [])=false:=by simpa using hs
  (have fct:=@hz;repeat' (first|refine G.reg fun K hK=>?_|(refine kM ?_;clear hK K)|refine sA ?_|(refine brO_n ?_ ?_<;>intro hb hc<;>first|exact zxf|(simp only [hb];clear hb))|((first|refine zalc ?_|refine zbsl ?_);intro gb wb hS)|((with_reducible refine gSt ?_);refine zs2 ?_;intro wb hS)|(refine zmm Value.bool ?_;intro gb wb hS)|(refine G.cn ?_ ?_<;>intro hc<;>try exact zxf)))<;>(try clear fct)
  rw [←mbM_nil] at hS
  have hS:=hS.nil 121 eC
  obtain ⟨gm,rfl⟩:∃ gm,gm=gb:=⟨_,rfl⟩
  refine G.loop (fun r w'=>∃ (cur:Str) (acc:List Col) (lv:Value),acc.length+cur.length≤s.length∧r 0=S cur∧r 5=lv∧r 6=.map (some gm)∧prsM s=prsF acc (linesF [] cur)∧Sep w w' [accC lv 121 eC acc,mapC gm Value.bool (mbM (acc.map (·.name)))]) (fun r _=>sN (r 0)) ?_ ?_
  ·refine ⟨s,[],.slice none 0 0,?_⟩
   ((repeat' apply aI)<;>first|exact dj|(simp only [push_cast,↓reduceIte,zq1,zq2,zq3,zq4,zq5]<;>omega)|skip)
  ·clear hS e
   rintro u wl ⟨cur,acc,lv,hle,h0,h5,h6,e,hS⟩ ih
   by_cases hcur:cur=[]
   ·have hz:(cur == [])=true:=by rw [hcur];rfl
    repeat' (first|refine aM ?_|refine G.reg fun K hK=>?_|(refine kM ?_;clear hK K)|(refine kN ?_;clear hK K;intro wd hxd;have hS:=Sep.ext ‹_› hxd)|((first|have hk:=hK|have hk:=hK2);clear hk;simp (disch:=(first|exact dis|fail)) only [push_cast,↓reduceIte,zq1,zq2,zq3,zq4,zq5,h0,h5,h6,hz,Bool.not_true,Bool.not_false])|((first|refine brO_mk ?_ ?_|refine brQ_mk ?_ ?_)<;>intro hb<;>(try simp only [Bool.not_eq_true',Bool.not_eq_false'] at hb)<;>have hc:=hb<;>(try simp only [hcs,reduceCtorEq] at hc)<;>(try (exfalso;omega))<;>simp only [hb]<;>clear hb)|(refine zalc ?_;intro gb wb hS)|(refine zbsl ?_;intro gb wb hS)|((with_reducible (show SemK _ (Instr.box _ _) _ _ _ _));refine zbox ?_;intro gb wb hS)|((with_reducible (show StK _ _ (Value.pointer _) _ _ _ _ _));refine zst ?_;intro wb hS;(try simp only [sets] at hS))|(refine zcv ?_)  | (refine G.drt mixed fun K hK wd hxd=>?_;have hS:=Sep.ext ‹_› hxd)|with_reducible refine OT_leaf ?_|(with_reducible refine OT_tail fun K2 hK2=>?_)|(refine kO ?_;clear hK2 K2;intro wd hxd;have hS:=Sep.ext ‹_› hxd)|with_reducible refine OT_br fun K2 hK2=>?_|(refine hK2 _ _ ?_ ?_<;>clear hK2 K2)|refine G.drg mixed fun K hK=>?_|(refine G.cond (by simp only [push_cast,↓reduceIte,zq1,zq2,zq3,zq4,zq5,h0,h5,h6,hz,Bool.not_true,Bool.not_false];rfl) ?_ ?_<;>intro hc<;>(try simp only [hcs,reduceCtorEq] at hc)<;>(try (exfalso;omega))))
    (have fct:=(a3 @h0 @h5 @h6);refine rM ?_)
    rw [hcur] at e
    have e2:prsM s=(acc,(acc.length:Int),0):=by rw [e];simp [linesF,prsF]
    rw [e2]
    exact ⟨_,rfl,Sep.sub hS zr⟩
   ·have hz:(cur == [])=false:=by simpa using hcur
    rw [prs_step acc cur hcur] at e
    have hcl:=cutT_len 10 cur
    have hbd:=(Sep.rd hS zr:Rd wl eC lv acc).bd
    by_cases hp:(cutT 10 cur).2.2=true
    ·rw [if_pos hp] at e
     have hlt:=hcl.2.2 hp
     cases hco:colM (cutT 10 cur).1 with
     | none =>
       rw [hco] at e
       simp only at e
       repeat' (first|refine aM ?_|refine G.reg fun K hK=>?_|(refine kM ?_;clear hK K)|(refine kN ?_;clear hK K;intro wd hxd;have hS:=Sep.ext ‹_› hxd)|((first|have hk:=hK|have hk:=hK2);clear hk;simp (disch:=(first|exact dis|fail)) only [push_cast,↓reduceIte,zq1,zq2,zq3,zq4,zq5,h0,h5,h6,hz,Bool.not_true,Bool.not_false,hp,hco,vC,Option.isSome_none,Option.getD_none])|((first|refine brO_mk ?_ ?_|refine brQ_mk ?_ ?_)<;>intro hb<;>(try simp only [Bool.not_eq_true',Bool.not_eq_false'] at hb)<;>have hc:=hb<;>(try simp only [hcs,reduceCtorEq] at hc)<;>(try (exfalso;omega))<;>simp only [hb]<;>clear hb)|(refine zalc ?_;intro gb wb hS)|(refine zbsl ?_;intro gb wb hS)|((with_reducible (show SemK _ (Instr.box _ _) _ _ _ _));refine zbox ?_;intro gb wb hS)|((with_reducible (show StK _ _ (Value.pointer _) _ _ _ _ _));refine zst ?_;intro wb hS;(try simp only [sets] at hS))|(refine zcv ?_)|(refine zcp 44 (cut_spec cur 10 _ zo) ?_;intro wb hS)|(refine zcp 99 (kcolS_spec _ _ zo) ?_;intro wb hS)|(refine zlk ?_)|(refine zmu ?_;intro wb hS)|(refine G.drt mixed fun K hK wd hxd=>?_;have hS:=Sep.ext ‹_› hxd)|with_reducible refine OT_leaf ?_|(with_reducible refine OT_tail fun K2 hK2=>?_)|(refine kO ?_;clear hK2 K2;intro wd hxd;have hS:=Sep.ext ‹_› hxd)|with_reducible refine OT_br fun K2 hK2=>?_|(refine hK2 _ _ ?_ ?_<;>clear hK2 K2)|refine G.drg mixed fun K hK=>?_|(refine G.cond (by simp only [push_cast,↓reduceIte,zq1,zq2,zq3,zq4,zq5,h0,h5,h6,hz,Bool.not_true,Bool.not_false,hp,hco,vC,Option.isSome_none,Option.getD_none];rfl) ?_ ?_<;>intro hc<;>(try simp only [hcs,reduceCtorEq] at hc)<;>(try (exfalso;omega))))
       (have fct:=(a3 @h0 @h5 @h6);refine rM ?_)
       rw [e]
       exact ⟨_,rfl,nilR hS⟩
     | some c =>
       rw [hco] at e
       simp only at e
       by_cases ha:0≤atM (acc.map (·.name)) c.name
       ·rw [if_pos ha] at e
        repeat' (first|refine aM ?_|refine G.reg fun K hK=>?_|(refine kM ?_;clear hK K)|(refine kN ?_;clear hK K;intro wd hxd;have hS:=Sep.ext ‹_› hxd)|((first|have hk:=hK|have hk:=hK2);clear hk;simp (disch:=(first|exact dis|fail)) only [push_cast,↓reduceIte,zq1,zq2,zq3,zq4,zq5,h0,h5,h6,hz,Bool.not_true,Bool.not_false,hp,hco,vC,mbM_get,Option.isSome_some,Option.getD_some])|((first|refine brO_mk ?_ ?_|refine brQ_mk ?_ ?_)<;>intro hb<;>(try simp only [Bool.not_eq_true',Bool.not_eq_false'] at hb)<;>have hc:=hb<;>(try simp only [hcs,reduceCtorEq] at hc)<;>(try (exfalso;omega))<;>simp only [hb]<;>clear hb)|(refine zalc ?_;intro gb wb hS)|(refine zbsl ?_;intro gb wb hS)|((with_reducible (show SemK _ (Instr.box _ _) _ _ _ _));refine zbox ?_;intro gb wb hS)|((with_reducible (show StK _ _ (Value.pointer _) _ _ _ _ _));refine zst ?_;intro wb hS;(try simp only [sets] at hS))|(refine zcv ?_)|(refine zcp 44 (cut_spec cur 10 _ zo) ?_;intro wb hS)|(refine zcp 99 (kcolS_spec _ _ zo) ?_;intro wb hS)|(refine zlk ?_)|(refine zmu ?_;intro wb hS)|(refine G.drt mixed fun K hK wd hxd=>?_;have hS:=Sep.ext ‹_› hxd)|with_reducible refine OT_leaf ?_|(with_reducible refine OT_tail fun K2 hK2=>?_)|(refine kO ?_;clear hK2 K2;intro wd hxd;have hS:=Sep.ext ‹_› hxd)|with_reducible refine OT_br fun K2 hK2=>?_|(refine hK2 _ _ ?_ ?_<;>clear hK2 K2)|refine G.drg mixed fun K hK=>?_|(refine G.cond (by simp only [push_cast,↓reduceIte,zq1,zq2,zq3,zq4,zq5,h0,h5,h6,hz,Bool.not_true,Bool.not_false,hp,hco,vC,mbM_get,Option.isSome_some,Option.getD_some];rfl) ?_ ?_<;>intro hc<;>(try simp only [hcs,reduceCtorEq] at hc)<;>(try (exfalso;omega))))
        (have fct:=(a3 @h0 @h5 @h6);refine rM ?_)
        rw [e]
        exact ⟨_,rfl,nilR hS⟩
       ·rw [if_neg ha] at e
        repeat' (first|refine aM ?_|refine G.reg fun K hK=>?_|(refine kM ?_;clear hK K)|(refine kN ?_;clear hK K;intro wd hxd;have hS:=Sep.ext ‹_› hxd)|((first|have hk:=hK|have hk:=hK2);clear hk;simp (disch:=(first|exact dis|fail)) only [push_cast,↓reduceIte,zq1,zq2,zq3,zq4,zq5,h0,h5,h6,hz,Bool.not_true,Bool.not_false,hp,hco,vC,mbM_get,Option.isSome_some,Option.getD_some])|((first|refine brO_mk ?_ ?_|refine brQ_mk ?_ ?_)<;>intro hb<;>(try simp only [Bool.not_eq_true',Bool.not_eq_false'] at hb)<;>have hc:=hb<;>(try simp only [hcs,reduceCtorEq] at hc)<;>(try (exfalso;omega))<;>simp only [hb]<;>clear hb)|(refine zalc ?_;intro gb wb hS)|(refine zbsl ?_;intro gb wb hS)|((with_reducible (show SemK _ (Instr.box _ _) _ _ _ _));refine zbox ?_;intro gb wb hS)|((with_reducible (show StK _ _ (Value.pointer _) _ _ _ _ _));refine zst ?_;intro wb hS;(try simp only [sets] at hS))|(refine zcv ?_)|(refine zcp 44 (cut_spec cur 10 _ zo) ?_;intro wb hS)|(refine zcp 99 (kcolS_spec _ _ zo) ?_;intro wb hS)|(refine zlk ?_)|(refine zmu ?_;intro wb hS)|(refine zap (y:=c) ?_ (hy:=by rfl);intro vb wb hS)|(refine G.drt mixed fun K hK wd hxd=>?_;have hS:=Sep.ext ‹_› hxd)|with_reducible refine OT_leaf ?_|(with_reducible refine OT_tail fun K2 hK2=>?_)|(refine kO ?_;clear hK2 K2;intro wd hxd;have hS:=Sep.ext ‹_› hxd)|with_reducible refine OT_br fun K2 hK2=>?_|(refine hK2 _ _ ?_ ?_<;>clear hK2 K2)|refine G.drg mixed fun K hK=>?_|(refine G.cond (by simp only [push_cast,↓reduceIte,zq1,zq2,zq3,zq4,zq5,h0,h5,h6,hz,Bool.not_true,Bool.not_false,hp,hco,vC,mbM_get,Option.isSome_some,Option.getD_some];rfl) ?_ ?_<;>intro hc<;>(try simp only [hcs,reduceCtorEq] at hc)<;>(try (exfalso;omega))))
        have hmx:(acc++[c]).map (·.name)=acc.map (·.name)++[c.name]:=by simp
        rw [mbM_put,←hmx] at hS
        have hlx:(acc++[c]).length=acc.length+1:=by simp
        (refine ih _ _ ⟨(cutT 10 cur).2.1,acc++[c],vb,?_⟩ ?_;rotate_left;(focus ((simp only [push_cast,↓reduceIte,zq1,zq2,zq3,zq4,zq5,toN_i,h0,h5,h6,sN_s]<;>omega)));((repeat' apply aI)<;>first|exact dj|(simp only [push_cast,↓reduceIte,zq1,zq2,zq3,zq4,zq5,h0,h5,h6,sN_s]<;>omega)|skip))
    ·rw [if_neg hp] at e
     repeat' (first|refine aM ?_|refine G.reg fun K hK=>?_|(refine kM ?_;clear hK K)|(refine kN ?_;clear hK K;intro wd hxd;have hS:=Sep.ext ‹_› hxd)|((first|have hk:=hK|have hk:=hK2);clear hk;simp (disch:=(first|exact dis|fail)) only [push_cast,↓reduceIte,zq1,zq2,zq3,zq4,zq5,h0,h5,h6,hz,Bool.not_true,Bool.not_false,hp,vC])|((first|refine brO_mk ?_ ?_|refine brQ_mk ?_ ?_)<;>intro hb<;>(try simp only [Bool.not_eq_true',Bool.not_eq_false'] at hb)<;>have hc:=hb<;>(try simp only [hcs,reduceCtorEq] at hc)<;>(try (exfalso;omega))<;>simp only [hb]<;>clear hb)|(refine zalc ?_;intro gb wb hS)|(refine zbsl ?_;intro gb wb hS)|((with_reducible (show SemK _ (Instr.box _ _) _ _ _ _));refine zbox ?_;intro gb wb hS)|((with_reducible (show StK _ _ (Value.pointer _) _ _ _ _ _));refine zst ?_;intro wb hS;(try simp only [sets] at hS))|(refine zcv ?_)|(refine zcp 44 (cut_spec cur 10 _ zo) ?_;intro wb hS)|(refine zcp 99 (kcolS_spec _ _ zo) ?_;intro wb hS)|(refine zlk ?_)|(refine zmu ?_;intro wb hS)|(refine G.drt mixed fun K hK wd hxd=>?_;have hS:=Sep.ext ‹_› hxd)|with_reducible refine OT_leaf ?_|(with_reducible refine OT_tail fun K2 hK2=>?_)|(refine kO ?_;clear hK2 K2;intro wd hxd;have hS:=Sep.ext ‹_› hxd)|with_reducible refine OT_br fun K2 hK2=>?_|(refine hK2 _ _ ?_ ?_<;>clear hK2 K2)|refine G.drg mixed fun K hK=>?_|(refine G.cond (by simp only [push_cast,↓reduceIte,zq1,zq2,zq3,zq4,zq5,h0,h5,h6,hz,Bool.not_true,Bool.not_false,hp,vC];rfl) ?_ ?_<;>intro hc<;>(try simp only [hcs,reduceCtorEq] at hc)<;>(try (exfalso;omega))))
     (have fct:=(a3 @h0 @h5 @h6);refine rM ?_)
     rw [e]
     exact ⟨_,rfl,nilR hS⟩
end Go.Proofs.YtllanbmpacgigaaGreatDoor
