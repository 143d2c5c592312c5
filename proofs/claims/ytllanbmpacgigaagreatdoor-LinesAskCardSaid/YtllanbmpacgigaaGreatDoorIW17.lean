/- Texts of the proof, joined. -/
import Derived.Test.YtllanbmpacgigaaGreatDoorIR02
import Derived.Test.YtllanbmpacgigaaGreatDoorIW02
namespace Go.Proofs.YtllanbmpacgigaaGreatDoor
open Operand renaming tmp→Y,const→yc
open MC renaming seq→Z,reg→yr,skip→yk,cond→yd
open MO renaming call→yl,bin→yb
open Nat renaming reduceAdd→zq1,reduceLeDiff→zq2,reduceEqDiff→zq3,reduceLT→zq4
open Int renaming reduceToNat→zq5
set_option linter.unusedSimpArgs false
set_option linter.unusedVariables false
attribute [local irreducible] SemK UnitK StK AlcK BslK CallK CallV Instr.box Builtin.append_ Instr.makeSlice Instr.makeMap Instr.lookup Instr.mapUpdate Instr.sliceAt convert
open Go.RowKit
theorem right_iff (v:Val):rightM v=true↔(v.kind=0∧v.s=[]∧v.n=0∧v.b=false)∨(v.kind=1∧validM v.s=true∧v.n=0∧v.b=false)∨(v.kind=2∧v.s=[]∧v.b=false)∨(v.kind=3∧v.s=[]∧v.n=0):=by
 constructor
 ·intro h
  obtain ⟨⟨h0,h3,a1,a2,a3⟩,hv⟩:=right_of h
  have:v.kind=0∨v.kind=1∨v.kind=2∨v.kind=3:=by omega
  rcases this with e|e|e|e
  ·exact .inl ⟨e,a1.resolve_left zo,a2.resolve_left zo,a3.resolve_left zo⟩
  ·exact .inr (.inl ⟨e,hv,a2.resolve_left zo,a3.resolve_left zo⟩)
  ·exact .inr (.inr (.inl ⟨e,a1.resolve_left zo,a3.resolve_left zo⟩))
  ·exact .inr (.inr (.inr ⟨e,a1.resolve_left zo,a2.resolve_left zo⟩))
 ·have hn:validM []=true:=rfl
  rintro (⟨e,h1,h2,h3⟩|⟨e,h1,h2,h3⟩|⟨e,h1,h3⟩|⟨e,h1,h2⟩)<;>simp [rightM, *]
def c113:MC:=(Z (yr [qq 2 (.mv (kb false))]) (Z (yr [qm 3 0,qq 4 (yb .eql (Y 3) (ki 1)),qm 5 4,qmf 5 6 0,qf 5 7 (yb .eql (Y 6) (ki 2)),qq 8 (.pick (Y 5) (kb true) (Y 7)),qm 9 8,qmf 9 10 0,qf 9 11 (yb .eql (Y 10) (ki 3)),qq 12 (.pick (Y 9) (kb true) (Y 11)),qm 2 12]) .ret))
theorem known_spec (k:Int) (w:World):Pu Tryz.prog 113 #[I k] w (.bool (decide (1≤k∧k≤3))):=by
 refine En 13 c113 Tryz.func113 ?_
 have hS:=Sep.start w
 repeat' (first|refine G.reg fun K hK=>?_|(refine kM ?_;clear hK K)|refine sA ?_|(refine brO_n ?_ ?_<;>intro hb hc<;>first|exact zxf|(simp only [hb];clear hb)))
 all_goals
  refine rM ?_
  refine ⟨?_,Sep.xt ‹_›⟩
  congr 1
  rw [Bool.eq_iff_iff]
  simp only [beq_iff_eq,decide_eq_true_eq,true_iff]
  omega
def c153:MC:=(Z (yr [qq 2 (.alc 129 [(.int .i64 0),(S []),(.int .i64 0),(.bool false)])]) (Z (yr [qm 3 0,qq 4 (.bld [(.int .i64 0),(S []),(.int .i64 0),(.bool false)] [⟨0,⟨1,(ki 1)⟩⟩,⟨1,⟨1,(Y 3)⟩⟩]),qn (.st 4 (Y 2) (Y 4))]) .ret))
theorem text17_spec (s:Str) (w:World):Pu Tryz.prog 153 #[S s] w (.agg #[I 1,S s,I 0,.bool false]):=by
 refine En 5 c153 Tryz.func153 ?_
 have hS:=Sep.start w
 repeat' (first|refine G.reg fun K hK=>?_|(refine kM ?_;clear hK K)|refine sA ?_|(refine zalc ?_;intro gb wb hS)|((with_reducible refine gSt ?_);refine zs2 ?_;intro wb hS))
 refine rM ?_
 (first|exact Sep.xt ‹_›|exact ⟨rfl,Sep.xt ‹_›⟩)
def c154:MC:=(Z (yr [qq 2 (.alc 129 [(.int .i64 0),(S []),(.int .i64 0),(.bool false)])]) (Z (yr [qm 3 0,qq 4 (.bld [(.int .i64 0),(S []),(.int .i64 0),(.bool false)] [⟨0,⟨1,(ki 2)⟩⟩,⟨2,⟨1,(Y 3)⟩⟩]),qn (.st 4 (Y 2) (Y 4))]) .ret))
theorem int17_spec (n:Int) (w:World):Pu Tryz.prog 154 #[I n] w (.agg #[I 2,S [],I n,.bool false]):=by
 refine En 5 c154 Tryz.func154 ?_
 have hS:=Sep.start w
 repeat' (first|refine G.reg fun K hK=>?_|(refine kM ?_;clear hK K)|refine sA ?_|(refine zalc ?_;intro gb wb hS)|((with_reducible refine gSt ?_);refine zs2 ?_;intro wb hS))
 refine rM ?_
 (first|exact Sep.xt ‹_›|exact ⟨rfl,Sep.xt ‹_›⟩)
def c155:MC:=(Z (yr [qq 2 (.alc 129 [(.int .i64 0),(S []),(.int .i64 0),(.bool false)])]) (Z (yr [qm 3 0,qq 4 (.bld [(.int .i64 0),(S []),(.int .i64 0),(.bool false)] [⟨0,⟨1,(ki 3)⟩⟩,⟨3,⟨1,(Y 3)⟩⟩]),qn (.st 4 (Y 2) (Y 4))]) .ret))
theorem bool17_spec (b:Bool) (w:World):Pu Tryz.prog 155 #[.bool b] w (.agg #[I 3,S [],I 0,.bool b]):=by
 refine En 5 c155 Tryz.func155 ?_
 have hS:=Sep.start w
 repeat' (first|refine G.reg fun K hK=>?_|(refine kM ?_;clear hK K)|refine sA ?_|(refine zalc ?_;intro gb wb hS)|((with_reducible refine gSt ?_);refine zs2 ?_;intro wb hS))
 refine rM ?_
 (first|exact Sep.xt ‹_›|exact ⟨rfl,Sep.xt ‹_›⟩)
def c114:MC:=(Z (yr [qq 1 (.raw (.box 129 (Y 0)) 0),qq 2 (.mv (kb false))]) (Z (Z (yr [qq 3 (.fad 0 (Y 1)),qq 4 (.ld none (Y 3))]) (.blk 0 (Z (yr [qq 6 (yb .eql (Y 4) (ki 0)),qm 5 6]) (yd (Y 5) (Z (yr [qq 7 (.ld (.some 4) (Y 1)),qq 8 (.bld [(.int .i64 0),(S []),(.int .i64 0),(.bool false)] []),qq 9 (.eqA false [.i,.s,.i,.b] (Y 7) (Y 8)),qm 2 9]) .ret) (Z (yr [qq 11 (yb .eql (Y 4) (ki 1)),qm 10 11]) (yd (Y 10) (Z (.drg [qq 12 (.ld (.some 4) (Y 1)),qq 13 (.fad 1 (Y 1)),qq 14 (.ld none (Y 13)),qq 15 (yl 153 [(Y 14)]),qq 16 (.eqA false [.i,.s,.i,.b] (Y 12) (Y 15)),qm 17 16,qt 17 18 (.fad 1 (Y 1)),qt 17 19 (.ld none (Y 18)),qt 17 20 (yl 104 [(Y 19)]),qq 21 (.pick (Y 17) (Y 20) (kb false)),qm 2 21] (.some (.br [qq 13 (.fad 1 (Y 1))] (.leaf [qq 12 (.ld (.some 4) (Y 1)),qq 14 (.ld none (Y 13)),qq 15 (yl 153 [(Y 14)]),qq 16 (.eqA false [.i,.s,.i,.b] (Y 12) (Y 15)),qm 17 16,qt 17 18 (.fad 1 (Y 1)),qt 17 19 (.ld none (Y 18)),qt 17 20 (yl 104 [(Y 19)]),qq 21 (.pick (Y 17) (Y 20) (kb false)),qm 2 21]) (.br [qq 14 (.ld none (Y 13))] (.leaf [qq 12 (.ld (.some 4) (Y 1)),qq 15 (yl 153 [(Y 14)]),qq 16 (.eqA false [.i,.s,.i,.b] (Y 12) (Y 15)),qm 17 16,qt 17 18 (.fad 1 (Y 1)),qt 17 19 (.ld none (Y 18)),qt 17 20 (yl 104 [(Y 19)]),qq 21 (.pick (Y 17) (Y 20) (kb false)),qm 2 21]) (.leaf [qq 15 (yl 153 [(Y 14)]),qq 12 (.ld (.some 4) (Y 1)),qq 16 (.eqA false [.i,.s,.i,.b] (Y 12) (Y 15)),qm 17 16,qt 17 18 (.fad 1 (Y 1)),qt 17 19 (.ld none (Y 18)),qt 17 20 (yl 104 [(Y 19)]),qq 21 (.pick (Y 17) (Y 20) (kb false)),qm 2 21]))))) .ret) (Z (yr [qq 23 (yb .eql (Y 4) (ki 2)),qm 22 23]) (yd (Y 22) (Z (.drg [qq 24 (.ld (.some 4) (Y 1)),qq 25 (.fad 2 (Y 1)),qq 26 (.ld none (Y 25)),qq 27 (yl 154 [(Y 26)]),qq 28 (.eqA false [.i,.s,.i,.b] (Y 24) (Y 27)),qm 2 28] (.some (.br [qq 25 (.fad 2 (Y 1))] (.leaf [qq 24 (.ld (.some 4) (Y 1)),qq 26 (.ld none (Y 25)),qq 27 (yl 154 [(Y 26)]),qq 28 (.eqA false [.i,.s,.i,.b] (Y 24) (Y 27)),qm 2 28]) (.br [qq 26 (.ld none (Y 25))] (.leaf [qq 24 (.ld (.some 4) (Y 1)),qq 27 (yl 154 [(Y 26)]),qq 28 (.eqA false [.i,.s,.i,.b] (Y 24) (Y 27)),qm 2 28]) (.leaf [qq 27 (yl 154 [(Y 26)]),qq 24 (.ld (.some 4) (Y 1)),qq 28 (.eqA false [.i,.s,.i,.b] (Y 24) (Y 27)),qm 2 28]))))) .ret) (Z (yr [qq 30 (yb .eql (Y 4) (ki 3)),qm 29 30]) (yd (Y 29) (Z (.drg [qq 31 (.ld (.some 4) (Y 1)),qq 32 (.fad 3 (Y 1)),qq 33 (.ld none (Y 32)),qq 34 (yl 155 [(Y 33)]),qq 35 (.eqA false [.i,.s,.i,.b] (Y 31) (Y 34)),qm 2 35] (.some (.br [qq 32 (.fad 3 (Y 1))] (.leaf [qq 31 (.ld (.some 4) (Y 1)),qq 33 (.ld none (Y 32)),qq 34 (yl 155 [(Y 33)]),qq 35 (.eqA false [.i,.s,.i,.b] (Y 31) (Y 34)),qm 2 35]) (.br [qq 33 (.ld none (Y 32))] (.leaf [qq 31 (.ld (.some 4) (Y 1)),qq 34 (yl 155 [(Y 33)]),qq 35 (.eqA false [.i,.s,.i,.b] (Y 31) (Y 34)),qm 2 35]) (.leaf [qq 34 (yl 155 [(Y 33)]),qq 31 (.ld (.some 4) (Y 1)),qq 35 (.eqA false [.i,.s,.i,.b] (Y 31) (Y 34)),qm 2 35]))))) .ret) yk)))))))))) (Z (yr [qq 2 (.mv (kb false))]) .ret)))
theorem right17_spec (v:Val) (w:World) (hl:v.s.length≤1000000):Pu Tryz.prog 114 #[(.agg #[I v.kind,S v.s,I v.n,.bool v.b])] w (.bool (rightM v)):=by
 refine En 36 c114 Tryz.func114 ?_
 have hS:=Sep.start w
 repeat' (first|(refine gO ?_;intro K hK)|(refine kP ?_;clear hK K)|(refine hK _ _ ?_ ?_<;>clear hK K)|(intro wd hxd;have hS:=Sep.xx hxd)|refine sA ?_|(refine bM ?_ ?_<;>intro hb hc<;>first|exact zxf|(simp only [hb];clear hb))|(((with_reducible refine gBox ?_);refine zbox ?_);intro gb wb hS)|(refine zcp 153 (text17_spec _ _) ?_;intro wb hS)|(refine zcp 154 (int17_spec _ _) ?_;intro wb hS)|(refine zcp 155 (bool17_spec _ _) ?_;intro wb hS)|(refine zcp 104 (valid_spec _ _ zo) ?_;intro wb hS)|(refine G.cn ?_ ?_<;>intro hc<;>try exact zxf))
 all_goals
  refine rM ?_
  refine ⟨?_,Sep.xt ‹_›⟩
  clear hS
  congr 1
  rw [Bool.eq_iff_iff,right_iff]
  first|(simp_all;done)|grind
theorem hpre0_spec (s:Str) (c:UInt8) (w:World) (hl:s.length≤1000000000):Pu Tryz.prog 157 #[S s,S [c]] w (.bool (decide (s.take 1=[c]))):=by
 have h:=hp_spec s [c] w hl ze
 have e:(s.take [c].length == [c])=decide (s.take 1=[c]):=by rw [Bool.eq_iff_iff];simp
 rw [e] at h;exact h
theorem hpre_spec (s:Str) (c:UInt8) (w:World) (hl:s.length≤1000000000):Pu Tryz.prog 116 #[S s,S [c]] w (.bool (decide (s.take 1=[c]))):=by
 have h:=shp_spec s [c] w hl ze
 have e:(s.take [c].length == [c])=decide (s.take 1=[c]):=by rw [Bool.eq_iff_iff];simp
 rw [e] at h;exact h
def i64M (n:Int):Prop:=-9223372036854775808≤n∧n≤9223372036854775807
def c115:MC:=(.seq (.reg [qq 2 (.mv (.const (S [])))]) (.seq (.reg [qm 3 0,qq 4 (.call 156 [(.tmp 3),(ki 10)]),qm 2 4]) .ret))
theorem print_spec (n:Int) (w:World) (hn:i64M n) (ht:Tab w):Pu Tryz.prog 115 #[I n] w (S (Lib.itoa n)):=by
 refine En 5 c115 Tryz.func115 ?_
 have hS:=Sep.start w
 repeat' (first|refine G.reg fun K hK=>?_|(refine kM ?_;clear hK K)|refine sA ?_|(refine zcp 156 (fi_spec n _ hn.1 hn.2 (ht.ext hS.x)) ?_;intro wb hS))
 refine rM ?_
 (first|exact Sep.xt ‹_›|exact ⟨rfl,Sep.xt ‹_›⟩)
theorem enc_fin {a:Str} {n:Int} {p:Str×Int} (h:p=(a,n)):Value.tuple #[S a,.int .i64 n]=.tuple #[S p.1,I p.2]:=by rw [h]
def c78:MC:=(Z (yr [qq 2 (.raw (.box 129 (Y 0)) 0),qq 3 (.raw (.box 121 (Y 1)) 0),qq 4 (.mv (yc (S []))),qq 5 (.mv (ki 0))]) (Z (Z (yr [qq 6 (.fad 1 (Y 3)),qq 7 (.ld none (Y 6)),qq 8 (yl 113 [(Y 7)]),qq 9 (.un .not (Y 8))]) (yd (Y 9) (Z (yr [qq 4 (.mv (yc (S []))),qq 5 (.mv (ki 22))]) .ret) yk)) (Z (Z (yr [qq 10 (.ld (.some 4) (Y 2)),qq 11 (yl 114 [(Y 10)]),qq 12 (.un .not (Y 11)),qm 13 12,qf 13 14 (.fad 0 (Y 2)),qf 13 15 (.ld none (Y 14)),qf 13 16 (yb .neq (Y 15) (ki 0)),qmf 13 17 16,qt 17 18 (.fad 0 (Y 2)),qt 17 19 (.ld none (Y 18)),qt 17 20 (.fad 1 (Y 3)),qt 17 21 (.ld none (Y 20)),qt 17 22 (yb .neq (Y 19) (Y 21)),qf 13 23 (.pick (Y 17) (Y 22) (kb false)),qq 24 (.pick (Y 13) (kb true) (Y 23))]) (yd (Y 24) (Z (yr [qq 4 (.mv (yc (S []))),qq 5 (.mv (ki 21))]) .ret) yk)) (Z (Z (yr [qq 25 (.fad 0 (Y 2)),qq 26 (.ld none (Y 25))]) (.blk 0 (Z (yr [qq 28 (yb .eql (Y 26) (ki 0)),qm 27 28]) (yd (Y 27) (Z (Z (yr [qq 29 (.fad 2 (Y 3)),qq 30 (.ld none (Y 29)),qq 31 (.un .not (Y 30))]) (yd (Y 31) (Z (yr [qq 4 (.mv (yc (S []))),qq 5 (.mv (ki 20))]) .ret) yk)) (Z (yr [qq 4 (.mv (yc (S []))),qq 5 (.mv (ki 0))]) .ret)) (Z (yr [qq 33 (yb .eql (Y 26) (ki 2)),qm 32 33]) (yd (Y 32) (Z (yr [qq 34 (.fad 2 (Y 2)),qq 35 (.ld none (Y 34)),qq 36 (yl 115 [(Y 35)]),qm 4 36,qq 5 (.mv (ki 0))]) .ret) (Z (yr [qq 38 (yb .eql (Y 26) (ki 3)),qm 37 38]) (yd (Y 37) (Z (Z (yr [qq 39 (.fad 3 (Y 2)),qq 40 (.ld none (Y 39))]) (yd (Y 40) (Z (yr [qq 4 (.mv (yc (S [116,114,117,101]))),qq 5 (.mv (ki 0))]) .ret) yk)) (Z (yr [qq 4 (.mv (yc (S [102,97,108,115,101]))),qq 5 (.mv (ki 0))]) .ret)) yk)))))))) (Z (Z (yr [qq 41 (.fad 2 (Y 3)),qq 42 (.ld none (Y 41)),qm 43 42,qt 43 44 (.fad 1 (Y 2)),qt 43 45 (.ld none (Y 44)),qt 43 46 (yb .eql (Y 45) (yc (S []))),qmt 43 47 46,qf 47 48 (.fad 1 (Y 2)),qf 47 49 (.ld none (Y 48)),qf 47 50 (yl 116 [(Y 49),(yc (S [92]))]),qt 43 51 (.pick (Y 47) (kb true) (Y 50)),qq 52 (.pick (Y 43) (Y 51) (kb false))]) (yd (Y 52) (Z (yr [qq 53 (.fad 1 (Y 2)),qq 54 (.ld none (Y 53)),qq 55 (yb .add (yc (S [92])) (Y 54)),qm 4 55,qq 5 (.mv (ki 0))]) .ret) yk)) (Z (yr [qq 56 (.fad 1 (Y 2)),qq 57 (.ld none (Y 56)),qm 4 57,qq 5 (.mv (ki 0))]) .ret))))))
theorem enc_spec (v:Val) (nm:Str) (k:Int) (nl:Bool) (w:World) (hl:v.s.length≤1000000) (hn:i64M v.n) (ht:Tab w) :
 Pu Tryz.prog 78 #[(.agg #[I v.kind,S v.s,I v.n,.bool v.b]),.agg #[S nm,I k,.bool nl]] w (.tuple #[S (encM v k nl).1,I (encM v k nl).2]):=by
 refine En 58 c78 Tryz.func78 ?_
 have hS:=Sep.start w
 unfold encM
 by_cases hk:1≤k∧k≤3
 ·rw [if_neg (not_not_intro hk)]
  repeat' (first|refine aM ?_|refine G.reg fun K hK=>?_|(refine kM ?_;clear hK K)|(refine kN ?_;clear hK K;intro wd hxd;have hS:=Sep.ext ‹_› hxd)|((first|have hk:=hK|have hk:=hK2);clear hk;simp (disch:=(first|exact dis|fail)) only [push_cast,↓reduceIte,zq1,zq2,zq3,zq4,zq5,decide_eq_true hk])|((first|refine brO_mk ?_ ?_|refine brQ_mk ?_ ?_)<;>intro hb<;>(try simp only [Bool.not_eq_true',Bool.not_eq_false'] at hb)<;>have hc:=hb<;>(try simp only [hcs,reduceCtorEq] at hc)<;>(try (exfalso;omega))<;>simp only [hb]<;>clear hb)|(refine zalc ?_;intro gb wb hS)|(refine zbsl ?_;intro gb wb hS)|((with_reducible (show SemK _ (Instr.box _ _) _ _ _ _));refine zbox ?_;intro gb wb hS)|((with_reducible (show StK _ _ (Value.pointer _) _ _ _ _ _));refine zst ?_;intro wb hS;(try simp only [sets] at hS))|(refine zcv ?_)|(refine zcp 113 (known_spec k _) ?_;intro wb hS)|(refine zcp 114 (right17_spec v _ hl) ?_;intro wb hS)|(refine zcp 115 (print_spec v.n _ hn (ht.ext hS.x)) ?_;intro wb hS)|(refine zcp 116 (hpre_spec v.s 92 _ zo) ?_;intro wb hS)|(refine G.drt mixed fun K hK wd hxd=>?_;have hS:=Sep.ext ‹_› hxd)|with_reducible refine OT_leaf ?_|(with_reducible refine OT_tail fun K2 hK2=>?_)|(refine kO ?_;clear hK2 K2;intro wd hxd;have hS:=Sep.ext ‹_› hxd)|with_reducible refine OT_br fun K2 hK2=>?_|(refine hK2 _ _ ?_ ?_<;>clear hK2 K2)|refine G.drg mixed fun K hK=>?_|(refine G.cond (by simp only [push_cast,↓reduceIte,zq1,zq2,zq3,zq4,zq5,decide_eq_true hk];rfl) ?_ ?_<;>intro hc<;>(try simp only [hcs,reduceCtorEq] at hc)<;>(try (exfalso;omega))))
  all_goals
   refine rM ?_
   refine ⟨enc_fin ?_,Sep.xt ‹_›⟩
   clear hS
   first|(simp_all [mkdM];done)|grind [mkdM]
 ·rw [if_pos hk]
  repeat' (first|refine aM ?_|refine G.reg fun K hK=>?_|(refine kM ?_;clear hK K)|(refine kN ?_;clear hK K;intro wd hxd;have hS:=Sep.ext ‹_› hxd)|((first|have hk:=hK|have hk:=hK2);clear hk;simp (disch:=(first|exact dis|fail)) only [push_cast,↓reduceIte,zq1,zq2,zq3,zq4,zq5,decide_eq_false hk])|((first|refine brO_mk ?_ ?_|refine brQ_mk ?_ ?_)<;>intro hb<;>(try simp only [Bool.not_eq_true',Bool.not_eq_false'] at hb)<;>have hc:=hb<;>(try simp only [hcs,reduceCtorEq] at hc)<;>(try (exfalso;omega))<;>simp only [hb]<;>clear hb)|(refine zalc ?_;intro gb wb hS)|(refine zbsl ?_;intro gb wb hS)|((with_reducible (show SemK _ (Instr.box _ _) _ _ _ _));refine zbox ?_;intro gb wb hS)|((with_reducible (show StK _ _ (Value.pointer _) _ _ _ _ _));refine zst ?_;intro wb hS;(try simp only [sets] at hS))|(refine zcv ?_)|(refine zcp 113 (known_spec k _) ?_;intro wb hS)|(refine G.drt mixed fun K hK wd hxd=>?_;have hS:=Sep.ext ‹_› hxd)|with_reducible refine OT_leaf ?_|(with_reducible refine OT_tail fun K2 hK2=>?_)|(refine kO ?_;clear hK2 K2;intro wd hxd;have hS:=Sep.ext ‹_› hxd)|with_reducible refine OT_br fun K2 hK2=>?_|(refine hK2 _ _ ?_ ?_<;>clear hK2 K2)|refine G.drg mixed fun K hK=>?_|(refine G.cond (by simp only [push_cast,↓reduceIte,zq1,zq2,zq3,zq4,zq5,decide_eq_false hk];rfl) ?_ ?_<;>intro hc<;>(try simp only [hcs,reduceCtorEq] at hc)<;>(try (exfalso;omega))))
  refine rM ?_
  (first|exact Sep.xt ‹_›|exact ⟨rfl,Sep.xt ‹_›⟩)
theorem nz (c:Bool):(if c=true then (-1:Int) else 1)≠0:=by cases c<;>simp
def eW:Enc Val:=⟨4,fun v=>[I v.kind,S v.s,I v.n,.bool v.b],fun _=>rfl⟩
instance : EncSz eW 4 := ⟨rfl⟩
end Go.Proofs.YtllanbmpacgigaaGreatDoor
