/- Texts of the proof, joined. -/
import Derived.Test.YtllanbmpacgigaaGreatDoorIN31
import Derived.Test.YtllanbmpacgigaaGreatDoorIF31
namespace Go.Proofs.YtllanbmpacgigaaGreatDoor
open Operand renaming tmp→Y,const→yc
open MC renaming seq→Z,reg→yr,skip→yk,cond→yd
open MO renaming call→yl,bin→yb
open Nat renaming reduceAdd→zq1,reduceLeDiff→zq2,reduceEqDiff→zq3,reduceLT→zq4
open Int renaming reduceToNat→zq5
set_option linter.unusedSimpArgs false
set_option linter.unusedVariables false
attribute [local irreducible] SemK UnitK StK AlcK BslK CallK CallV Instr.box Builtin.append_ Instr.makeSlice Instr.makeMap Instr.lookup Instr.mapUpdate Instr.sliceAt convert
open Go.RowKit
def c14:MC:=(Z (yr [qq 2 (.alc 31 [(S []),(S []),(S []),(S []),(.int .i64 0)])]) (Z (yr [qm 19 0,qq 20 (yl 31 [(Y 19)]),qm 18 20,qq 21 (.ext 0 (Y 18)),qq 22 (.ext 1 (Y 18)),qq 23 (.ext 2 (Y 18)),qm 3 21,qm 4 22,qm 5 23]) (Z (Z (yr [qm 24 3]) (.blk 0 (Z (yr [qq 26 (yb .eql (Y 24) (yc (S [99,108,101,97,114]))),qm 25 26]) (yd (Y 25) (Z (Z (yr [qm 27 5,qq 28 (.un .not (Y 27))]) (yd (Y 28) (Z (yr [qm 29 3,qq 30 (.bld [(S []),(S []),(S []),(S []),(.int .i64 0)] [⟨0,⟨1,(Y 29)⟩⟩]),qn (.st 5 (Y 2) (Y 30))]) .ret) yk)) (Z (yr [qq 31 (.bld [(S []),(S []),(S []),(S []),(.int .i64 0)] []),qn (.st 5 (Y 2) (Y 31))]) .ret)) (Z (Z (yr [qq 33 (yb .eql (Y 24) (yc (S [100,105,97,108,101,99,116]))),qm 32 33]) (yd (Y 32) yk (yr [qq 34 (yb .eql (Y 24) (yc (S [99,111,108,117,109,110]))),qm 32 34]))) (yd (Y 32) (Z (Z (yr [qm 35 5]) (yd (Y 35) (Z (yr [qm 36 3,qm 37 4,qq 38 (.bld [(S []),(S []),(S []),(S []),(.int .i64 0)] [⟨0,⟨1,(Y 36)⟩⟩,⟨3,⟨1,(Y 37)⟩⟩]),qn (.st 5 (Y 2) (Y 38))]) .ret) yk)) (Z (yr [qq 39 (.bld [(S []),(S []),(S []),(S []),(.int .i64 0)] []),qn (.st 5 (Y 2) (Y 39))]) .ret)) yk)))))) (Z (yr [qm 41 4,qq 42 (yl 31 [(Y 41)]),qm 40 42,qq 43 (.ext 0 (Y 40)),qq 44 (.ext 1 (Y 40)),qq 45 (.ext 2 (Y 40)),qm 6 43,qm 4 44,qm 7 45]) (Z (Z (yr [qm 46 5,qq 47 (.un .not (Y 46)),qm 48 47,qmf 48 49 6,qf 48 50 (yl 32 [(Y 49)]),qf 48 51 (.un .not (Y 50)),qq 52 (.pick (Y 48) (kb true) (Y 51))]) (yd (Y 52) (Z (yr [qq 53 (.bld [(S []),(S []),(S []),(S []),(.int .i64 0)] []),qn (.st 5 (Y 2) (Y 53))]) .ret) yk)) (Z (yr [qm 54 3,qm 55 6,qq 56 (.bld [(S []),(S []),(S []),(S []),(.int .i64 0)] [⟨0,⟨1,(Y 54)⟩⟩,⟨1,⟨1,(Y 55)⟩⟩]),qq 8 (.alc 31 [(S []),(S []),(S []),(S []),(.int .i64 0)]),qn (.st 5 (Y 8) (Y 56))]) (Z (yr [qm 58 4,qq 59 (yl 31 [(Y 58)]),qm 57 59,qq 60 (.ext 0 (Y 57)),qq 61 (.ext 1 (Y 57)),qq 62 (.ext 2 (Y 57)),qm 9 60,qm 10 61,qm 11 62]) (Z (yr [qm 64 9,qq 65 (yl 33 [(Y 64)]),qm 63 65,qq 66 (.ext 0 (Y 63)),qq 67 (.ext 1 (Y 63)),qm 12 66,qm 13 67]) (Z (Z (yr [qm 68 3]) (.blk 1 (Z (Z (yr [qq 70 (yb .eql (Y 68) (yc (S [112,117,116]))),qm 69 70]) (yd (Y 69) yk (yr [qq 71 (yb .eql (Y 68) (yc (S [97,100,100]))),qm 69 71]))) (yd (Y 69) (Z (yr [qm 73 4,qq 74 (yl 17 [(Y 73)]),qm 72 74,qq 75 (.ext 0 (Y 72)),qq 76 (.ext 1 (Y 72)),qm 14 75,qm 15 76]) (Z (yr [qm 77 14,qq 78 (.fad 3 (Y 8)),qn (.st 1 (Y 78) (Y 77))]) (Z (yr [qm 79 7,qm 80 79,qmt 80 81 15,qq 82 (.pick (Y 80) (Y 81) (kb false))]) (yd (Y 82) (Z (yr [qq 83 (.ld (.some 5) (Y 8)),qn (.st 5 (Y 2) (Y 83))]) .ret) yk)))) (Z (Z (yr [qq 85 (yb .eql (Y 68) (yc (S [115,104,111,119]))),qm 84 85]) (yd (Y 84) yk (Z (yr [qq 86 (yb .eql (Y 68) (yc (S [99,104,101,99,107]))),qm 84 86]) (yd (Y 84) yk (Z (yr [qq 87 (yb .eql (Y 68) (yc (S [112,108,97,105,110]))),qm 84 87]) (yd (Y 84) yk (Z (yr [qq 88 (yb .eql (Y 68) (yc (S [115,110,105,102,102]))),qm 84 88]) (yd (Y 84) yk (yr [qq 89 (yb .eql (Y 68) (yc (S [114,111,119,115]))),qm 84 89]))))))))) (yd (Y 84) (Z (yr [qm 90 7,qq 91 (.un .not (Y 90))]) (yd (Y 91) (Z (yr [qq 92 (.ld (.some 5) (Y 8)),qn (.st 5 (Y 2) (Y 92))]) .ret) yk)) (Z (yr [qq 94 (yb .eql (Y 68) (yc (S [103,101,116]))),qm 93 94]) (yd (Y 93) (Z (yr [qm 95 12,qq 96 (.fad 4 (Y 8)),qn (.st 1 (Y 96) (Y 95))]) (Z (yr [qm 97 7,qm 98 97,qmt 98 99 13,qt 98 100 (yb .eql (Y 99) (ki 0)),qq 101 (.pick (Y 98) (Y 100) (kb false)),qm 102 101,qmt 102 103 12,qt 102 104 (yb .geq (Y 103) (ki 0)),qq 105 (.pick (Y 102) (Y 104) (kb false)),qm 106 105,qmt 106 107 11,qt 106 108 (.un .not (Y 107)),qq 109 (.pick (Y 106) (Y 108) (kb false))]) (yd (Y 109) (Z (yr [qq 110 (.ld (.some 5) (Y 8)),qn (.st 5 (Y 2) (Y 110))]) .ret) yk))) (Z (yr [qq 112 (yb .eql (Y 68) (yc (S [115,101,116]))),qm 111 112]) (yd (Y 111) (Z (yr [qm 114 10,qq 115 (yl 17 [(Y 114)]),qm 113 115,qq 116 (.ext 0 (Y 113)),qq 117 (.ext 1 (Y 113)),qm 16 116,qm 17 117]) (Z (yr [qm 118 12,qm 119 16,qq 120 (.fad 4 (Y 8)),qn (.st 1 (Y 120) (Y 118)),qq 121 (.fad 3 (Y 8)),qn (.st 1 (Y 121) (Y 119))]) (Z (yr [qm 122 7,qm 123 122,qmt 123 124 13,qt 123 125 (yb .eql (Y 124) (ki 0)),qq 126 (.pick (Y 123) (Y 125) (kb false)),qm 127 126,qmt 127 128 12,qt 127 129 (yb .geq (Y 128) (ki 0)),qq 130 (.pick (Y 127) (Y 129) (kb false)),qm 131 130,qmt 131 132 11,qq 133 (.pick (Y 131) (Y 132) (kb false)),qm 134 133,qmt 134 135 17,qq 136 (.pick (Y 134) (Y 135) (kb false))]) (yd (Y 136) (Z (yr [qq 137 (.ld (.some 5) (Y 8)),qn (.st 5 (Y 2) (Y 137))]) .ret) yk)))) (Z (yr [qq 139 (yb .eql (Y 68) (yc (S [100,105,102,102]))),qm 138 139]) (yd (Y 138) (Z (yr [qm 140 9,qm 141 10,qq 142 (.fad 2 (Y 8)),qn (.st 1 (Y 142) (Y 140)),qq 143 (.fad 3 (Y 8)),qn (.st 1 (Y 143) (Y 141))]) (Z (yr [qm 144 7,qm 145 144,qmt 145 146 9,qt 145 147 (yl 32 [(Y 146)]),qq 148 (.pick (Y 145) (Y 147) (kb false)),qm 149 148,qmt 149 150 11,qq 151 (.pick (Y 149) (Y 150) (kb false))]) (yd (Y 151) (Z (yr [qq 152 (.ld (.some 5) (Y 8)),qn (.st 5 (Y 2) (Y 152))]) .ret) yk))) yk)))))))))))) (Z (yr [qq 153 (.bld [(S []),(S []),(S []),(S []),(.int .i64 0)] []),qn (.st 5 (Y 2) (Y 153))]) .ret))))))))))
set_option maxHeartbeats 4000000 in
theorem read30_spec (s:Str) (w:World) (hl:s.length≤100000):Ret Tryz.prog 14 #[S s] w fun v w'=>(∃ x a b c n,v=.agg #[S x,S a,S b,S c,I n]∧x=readW s)∧Ext w w':=by
 refine En 154 c14 Tryz.func14 ?_
 have hS:=Sep.start w
 obtain ⟨X,hX⟩:∃ X,X=readW s:=⟨_,rfl⟩
 rw [←hX]
 obtain ⟨v,rest,p,hc1⟩:∃ a b c,cutT 32 s=(a,b,c):=⟨_,_,_,rfl⟩
 obtain ⟨nm,r2,so,hc2⟩:∃ a b c,cutT 32 rest=(a,b,c):=⟨_,_,_,rfl⟩
 obtain ⟨a,b,tw,hc3⟩:∃ a b c,cutT 32 r2=(a,b,c):=⟨_,_,_,rfl⟩
 have hl1:=cutT_len 32 s
 have hl2:=cutT_len 32 rest
 have hl3:=cutT_len 32 r2
 have hcu1:=fun w=>rcut30_spec s w zo
 rw [hc1] at hl1 hcu1
 dsimp only at hl1 hcu1
 have hcu2:=fun w=>rcut30_spec rest w zo
 rw [hc2] at hl2 hcu2
 dsimp only at hl2 hcu2
 have hcu3:=fun w=>rcut30_spec r2 w zo
 rw [hc3] at hl3 hcu3
 dsimp only at hl3 hcu3
 have hpr:=fun w=>rparse16_spec a w zo
 have hu2:=fun w=>runspell_spec r2 w zo
 have hu3:=fun w=>runspell_spec b w zo
 simp only [readW,aw1,aw2,awP,awS,awG,awT,awD,hc1,hc2,hc3,beq_iff_eq] at hX
 have hn1:=fun w=>rname30_spec nm w zo
 have hn2:=fun w=>rname30_spec a w zo
 clear hc1 hc2 hc3 hl1 hl2 hl3 hl
 generalize (pnM a).1=k at *
 generalize (pnM a).2=er at *
 generalize (unL r2).getD []=t2 at *
 generalize (unL r2).isSome=i2 at *
 generalize (unL b).getD []=t3 at *
 generalize (unL b).isSome=i3 at *
 generalize nmM nm=m1 at *
 generalize nmM a=m2 at *
 repeat' (first|refine G.reg fun K hK=>?_|(refine kM ?_;clear hK K)|refine sA ?_|(refine brO_n ?_ ?_<;>intro hb hc<;>first|exact zxf|(simp only [hb];clear hb))|(refine zalc ?_;intro gb wb hS)|((with_reducible refine gSt ?_);refine zs2 ?_;intro wb hS)|((with_reducible (show CallK _ 31 [S s] _ _ _ _));refine zcp 31 (hcu1 _) ?_;intro wb hS)|((with_reducible (show CallK _ 31 [S rest] _ _ _ _));refine zcp 31 (hcu2 _) ?_;intro wb hS)|((with_reducible (show CallK _ 31 [S r2] _ _ _ _));refine zcp 31 (hcu3 _) ?_;intro wb hS)|(refine zcp 33 (hpr _) ?_;intro wb hS)|((with_reducible (show CallK _ 32 [S nm] _ _ _ _));refine zcp 32 (hn1 _) ?_;intro wb hS)|((with_reducible (show CallK _ 32 [S a] _ _ _ _));refine zcp 32 (hn2 _) ?_;intro wb hS)|((with_reducible (show CallK _ 17 [S r2] _ _ _ _));refine zcp 17 (hu2 _) ?_;intro wb hS)|((with_reducible (show CallK _ 17 [S b] _ _ _ _));refine zcp 17 (hu3 _) ?_;intro wb hS)|(refine G.cn ?_ ?_<;>intro hc<;>try exact zxf))
 all_goals
  refine rM ?_
  clear hcu1 hcu2 hcu3 hpr hu2 hu3 hn1 hn2
  refine ⟨⟨_,_,_,_,_,rfl,?_⟩,Sep.xt ‹_›⟩
  first|contradiction|(rw [hX];simp [*];done)|(have hk:=Int.not_le.2 ‹k < 0›;rw [hX];simp [*];done)|(exfalso;simp_all;done)
theorem law_ask {v:Value} {l:List Str} {ask:Str} {a:Int} (w:World) (hr:Rd w eS v l) (hb:∀ s∈l,s.length≤140737488355328) (hal:ask.length≤9223372036854775807) (ha:0≤a∧a≤255) (hv:ErrV w) (ht:Tab w):Pu Tryz.prog 4 #[v,S ask,U a] w (.bool true):=by
 refine En 73 c4 Tryz.func4 ?_
 have hS:=Sep.start w
 rw [askC_eq]
 have hgr:=fun w2 (hx:Ext w w2)=>great30_spec (hr.ext hx) hb
 have htail:=fun {n':Nat} {wl:World} {ρ:Fr} hlen htl hal hkeep q0 q1 q2 hS=>ask_tail (n':=n') (ρ:=ρ) (v:=v) (l:=l) (ask:=ask) (a:=a) (w:=w) (wl:=wl) hr hb hlen htl hal ha hkeep hv ht q0 q1 q2 hS
 by_cases hg:grK l=true
 ·rw [hg] at hgr
  generalize askT=T at *
  repeat' (first|refine G.reg fun K hK=>?_|(refine kM ?_;clear hK K)|refine sA ?_|(refine brO_n ?_ ?_<;>intro hb hc<;>first|exact zxf|(simp only [hb];clear hb))|(refine zcp 8 (hgr _ (Sep.xt ‹_›)) ?_;intro wb hS)|(refine zcp 9 (awake30_spec _ (hv.ext (Sep.xt ‹_›)) (ht.ext (Sep.xt ‹_›))) ?_;intro wb hS)|(refine G.cn ?_ ?_<;>intro hc<;>try exact zxf))
  all_goals
   refine rM ?_
   (first|exact Sep.xt ‹_›|exact ⟨rfl,Sep.xt ‹_›⟩)
 rw [Bool.not_eq_true] at hg
 rw [hg] at hgr
 unfold grK at hg
 rw [Bool.or_eq_false_iff,decide_eq_false_iff_not] at hg
 have hl2:=grF_no l 0 zd hg.1
 have hlen:=hg.2
 clear hg
 by_cases hq:(ask.length:Int)≤100
 rotate_left
 ·generalize askT=T at *
  repeat' (first|refine G.reg fun K hK=>?_|(refine kM ?_;clear hK K)|refine sA ?_|(refine brO_n ?_ ?_<;>intro hb hc<;>first|exact zxf|(simp only [hb];clear hb))|(refine zcp 8 (hgr _ (Sep.xt ‹_›)) ?_;intro wb hS)|(refine zcp 9 (awake30_spec _ (hv.ext (Sep.xt ‹_›)) (ht.ext (Sep.xt ‹_›))) ?_;intro wb hS)|(refine G.cn ?_ ?_<;>intro hc<;>try exact zxf))
  all_goals
   refine rM ?_
   (first|exact Sep.xt ‹_›|exact ⟨rfl,Sep.xt ‹_›⟩)
 have hrd:=fun w=>read30_spec ask w zo
 have hkp:=fun h=>read_keeps (s:=ask) h
 generalize readW ask=x at *
 by_cases hx:x∈askL
 rotate_left
 ·simp only [askL,List.mem_cons,List.not_mem_nil,or_false,not_or] at hx
  obtain ⟨x1,x2,x3,x4,x5,x6⟩:=hx
  have m1:=beq_eq_false_iff_ne.2 x1
  have m2:=beq_eq_false_iff_ne.2 x2
  have m3:=beq_eq_false_iff_ne.2 x3
  have m4:=beq_eq_false_iff_ne.2 x4
  have m5:=beq_eq_false_iff_ne.2 x5
  have m6:=beq_eq_false_iff_ne.2 x6
  clear x1 x2 x3 x4 x5 x6 hkp
  generalize askT=T at *
  (have fct:=(a6 @m1 @m2 @m3 @m4 @m5 @m6);repeat' (first|refine G.reg fun K hK=>?_|(refine kM ?_;clear hK K)|refine sA ?_|(refine brO_n ?_ ?_<;>intro hb hc<;>first|exact zxf|(simp only [hb];clear hb))|(refine zcp 8 (hgr _ (Sep.xt ‹_›)) ?_;intro wb hS)|(refine zco 14 (hrd _) ?_;rintro vb wb ⟨⟨y,b1,b2,b3,b4,rfl,rfl⟩,hx2⟩;have hS:=Sep.xx hx2)|(refine zcp 9 (awake30_spec _ (hv.ext (Sep.xt ‹_›)) (ht.ext (Sep.xt ‹_›))) ?_;intro wb hS)|(refine G.cn ?_ ?_<;>intro hc<;>try exact zxf)))<;>(try clear fct)
  all_goals
   refine rM ?_
   (first|exact Sep.xt ‹_›|exact ⟨rfl,Sep.xt ‹_›⟩)
 ·have htl:=fun {n':Nat} {wl:World} {ρ:Fr}=>htail (n':=n') (wl:=wl) (ρ:=ρ) zo zo zo (hkp hx)
  clear htail hkp
  clear hx
  generalize askT=T at *
  repeat' (first|refine G.reg fun K hK=>?_|(refine kM ?_;clear hK K)|refine sA ?_|(refine brO_n ?_ ?_<;>intro hb hc<;>first|exact zxf|(simp only [hb];clear hb))|(refine zcp 8 (hgr _ (Sep.xt ‹_›)) ?_;intro wb hS)|(refine zco 14 (hrd _) ?_;rintro vb wb ⟨⟨y,b1,b2,b3,b4,rfl,rfl⟩,hx2⟩;have hS:=Sep.xx hx2)|(refine zcp 9 (awake30_spec _ (hv.ext (Sep.xt ‹_›)) (ht.ext (Sep.xt ‹_›))) ?_;intro wb hS)|(refine G.cn ?_ ?_<;>intro hc<;>try exact zxf))
  all_goals first
   | exact htl (by simp only [push_cast,↓reduceIte,zq1,zq2,zq3,zq4,zq5]) (by simp only [push_cast,↓reduceIte,zq1,zq2,zq3,zq4,zq5]) (by simp only [push_cast,↓reduceIte,zq1,zq2,zq3,zq4,zq5]) hS
   | (refine rM ?_
      (first|exact Sep.xt ‹_›|exact ⟨rfl,Sep.xt ‹_›⟩))
end Go.Proofs.YtllanbmpacgigaaGreatDoor
