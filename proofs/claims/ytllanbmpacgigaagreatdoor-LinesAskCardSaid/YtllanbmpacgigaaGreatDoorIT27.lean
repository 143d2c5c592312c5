/- Texts of the proof, joined. -/
import Derived.Test.YtllanbmpacgigaaGreatDoorIW27
namespace Go.Proofs.YtllanbmpacgigaaGreatDoor
open Operand renaming tmp→Y,const→yc
open MC renaming seq→Z,reg→yr,skip→yk,cond→yd
open MO renaming call→yl,bin→yb
open Nat renaming reduceAdd→zq1,reduceLeDiff→zq2,reduceEqDiff→zq3,reduceLT→zq4
open Int renaming reduceToNat→zq5
set_option linter.unusedSimpArgs false
set_option linter.unusedVariables false
attribute [local irreducible] SemK UnitK StK AlcK BslK CallK CallV Instr.box Builtin.append_ Instr.makeSlice Instr.makeMap Instr.lookup Instr.mapUpdate Instr.sliceAt convert
open Go.RowKit
def c67:MC:=(Z (yr [qq 2 (.raw (.box 39 (Y 0)) 0),qq 4 (.mv (yc (.pointer none))),qq 5 (.alc 77 [(.int .i64 0),(.int .i64 0)])]) (Z (Z (yr [qq 11 (.ld (.some 3) (Y 2)),qq 12 (yl 85 [(Y 11)]),qm 6 12]) (Z (yr [qm 13 6,qq 14 (yb .neq (Y 13) (ki 0))]) (yd (Y 14) (Z (yr [qm 15 6,qq 16 (.bld [(.int .i64 0),(.int .i64 0)] [⟨0,⟨1,(Y 15)⟩⟩]),qq 4 (.mv (yc (.pointer none))),qn (.st 2 (Y 5) (Y 16))]) .ret) yk))) (Z (.drg [qq 18 (.ld (.some 3) (Y 2)),qq 19 (yl 72 []),qm 20 1,qq 21 (yl 38 [(Y 18),(Y 19),(Y 20)]),qm 17 21,qq 22 (.ext 0 (Y 17)),qq 23 (.ext 1 (Y 17)),qq 8 (.alc 77 [(.int .i64 0),(.int .i64 0)]),qm 7 22,qn (.st 2 (Y 8) (Y 23))] (.some (.br [qm 20 1] (.br [qq 18 (.ld (.some 3) (Y 2))] (.br [qq 19 (yl 72 [])] (.leaf [qq 21 (yl 38 [(Y 18),(Y 19),(Y 20)]),qm 17 21,qq 22 (.ext 0 (Y 17)),qq 23 (.ext 1 (Y 17)),qq 8 (.alc 77 [(.int .i64 0),(.int .i64 0)]),qm 7 22,qn (.st 2 (Y 8) (Y 23))]) (.leaf [qq 8 (.alc 77 [(.int .i64 0),(.int .i64 0)]),qq 21 (yl 38 [(Y 18),(Y 19),(Y 20)]),qm 17 21,qq 22 (.ext 0 (Y 17)),qq 23 (.ext 1 (Y 17)),qm 7 22,qn (.st 2 (Y 8) (Y 23))])) (.leaf [qq 8 (.alc 77 [(.int .i64 0),(.int .i64 0)]),qq 19 (yl 72 []),qq 21 (yl 38 [(Y 18),(Y 19),(Y 20)]),qm 17 21,qq 22 (.ext 0 (Y 17)),qq 23 (.ext 1 (Y 17)),qm 7 22,qn (.st 2 (Y 8) (Y 23))])) (.br [] (.br [qq 19 (yl 72 [])] (.br [qq 18 (.ld (.some 3) (Y 2))] (.leaf [qq 21 (yl 38 [(Y 18),(Y 19),(Y 20)]),qm 17 21,qq 22 (.ext 0 (Y 17)),qq 23 (.ext 1 (Y 17)),qq 8 (.alc 77 [(.int .i64 0),(.int .i64 0)]),qm 7 22,qn (.st 2 (Y 8) (Y 23))]) (.leaf [qq 8 (.alc 77 [(.int .i64 0),(.int .i64 0)]),qq 21 (yl 38 [(Y 18),(Y 19),(Y 20)]),qm 17 21,qq 22 (.ext 0 (Y 17)),qq 23 (.ext 1 (Y 17)),qm 7 22,qn (.st 2 (Y 8) (Y 23))])) (.leaf [qq 8 (.alc 77 [(.int .i64 0),(.int .i64 0)]),qq 18 (.ld (.some 3) (Y 2)),qq 21 (yl 38 [(Y 18),(Y 19),(Y 20)]),qm 17 21,qq 22 (.ext 0 (Y 17)),qq 23 (.ext 1 (Y 17)),qm 7 22,qn (.st 2 (Y 8) (Y 23))])) (.br [qq 8 (.alc 77 [(.int .i64 0),(.int .i64 0)])] (.leaf [qq 18 (.ld (.some 3) (Y 2)),qq 19 (yl 72 []),qq 21 (yl 38 [(Y 18),(Y 19),(Y 20)]),qm 17 21,qq 22 (.ext 0 (Y 17)),qq 23 (.ext 1 (Y 17)),qm 7 22,qn (.st 2 (Y 8) (Y 23))]) (.leaf [qq 19 (yl 72 []),qq 18 (.ld (.some 3) (Y 2)),qq 21 (yl 38 [(Y 18),(Y 19),(Y 20)]),qm 17 21,qq 22 (.ext 0 (Y 17)),qq 23 (.ext 1 (Y 17)),qm 7 22,qn (.st 2 (Y 8) (Y 23))])))))) (Z (yr [qm 24 1,qq 25 (.lenS (Y 24)),qm 9 25]) (Z (Z (yr [qq 26 (.fad 0 (Y 8)),qq 27 (.ld none (Y 26)),qq 28 (yb .neq (Y 27) (ki 0))]) (yd (Y 28) (yr [qq 29 (.fad 1 (Y 8)),qq 30 (.ld none (Y 29)),qm 9 30]) yk)) (Z (yr [qq 31 (.ld (.some 3) (Y 2)),qm 32 1,qq 33 (.ld (.some 2) (Y 8)),qm 34 7,qq 35 (.bld [(.int .u8 0),(.int .u8 0),(.int .i64 0),(S []),(.int .i64 0),(.int .i64 0),(.slice none 0 0),(.slice none 0 0)] [⟨0,⟨3,(Y 31)⟩⟩,⟨3,⟨1,(Y 32)⟩⟩,⟨4,⟨2,(Y 33)⟩⟩,⟨6,⟨1,(Y 34)⟩⟩]),qq 36 (.raw (.box 156 (Y 35)) 101),qm 10 36]) (Z (yr [qm 37 10,qq 38 (.ld (.some 3) (Y 2)),qm 39 1,qm 40 9,qm 41 7,qq 42 (.len (Y 41)),qq 43 (yl 101 [(Y 38),(Y 39),(Y 40),(Y 42)]),qq 44 (.nck (Y 37)),qq 45 (.fad 7 (Y 44)),qn (.st 1 (Y 45) (Y 43))]) (Z (.drg [qm 46 10,qq 47 (.ld (.some 2) (Y 8)),qm 4 46,qn (.st 2 (Y 5) (Y 47))] (.some (.leaf [qm 46 10,qm 4 46,qq 47 (.ld (.some 2) (Y 8)),qn (.st 2 (Y 5) (Y 47))]))) .ret))))))))
set_option maxHeartbeats 1000000 in
theorem inew_spec1 (d:Dl) (s:Str) (w:World) (hl:s.length≤900000) (hr:rightD d=true) {R:Rs} {SP:List (Nat×Nat)} (hR:parM d wideL s=R) (hSP:spM d s=SP) :
 Ret Tryz.prog 67 #[(.agg #[U d.dl,U d.q,I d.e]),S s] w fun res w'=>∃ g v vs sv,res=.tuple #[(.pointer (some ⟨g,0,none⟩)),.agg #[I R.k,I R.a]]∧vs.length=R.rs.length ∧
  Sep w w' [boxC g 156 [U d.dl,U d.q,I d.e,S s,I R.k,I R.a,v,sv],accC sv 161 eP SP,accC v 22 eV vs,frzC eS vs (R.rs.map Prod.fst)]:=by
 refine En 48 c67 Tryz.func67 ?_
 have hS:=Sep.start w
 have hp:=fun w=>wpar_spec d s w hl hr
 have hq:=fun w e he=>spans_spec (e:=e) d s hl he w
 rw [hR] at hp hq
 rw [hSP] at hq
 have hq2:=fun w e he (n:Nat) (hn:n=R.rs.length)=>hn ▸ hq w e he
 clear hq
 by_cases hz:R.k=0
 ·have hq0:=fun w=>hq2 w s.length (by rw [if_pos hz])
  (have fct:=(aI @hr @hz);repeat' (first|(refine gO ?_;intro K hK)|(refine kP ?_;clear hK K)|(refine hK _ _ ?_ ?_<;>clear hK K)|(intro wd hxd;have hS:=Sep.xx hxd)|refine sA ?_|((first|refine zalc ?_|((with_reducible refine gBox ?_);refine zbox ?_));intro gb wb hS)|((with_reducible refine gSt ?_);refine zs2 ?_;intro wb hS)|(refine zcp 85 (checkD_spec d _) ?_;intro wb hS)|((with_reducible (show CallK _ 72 [] _ _ _ _));refine zcp 72 (wide_spec _) ?_;intro wb hS)|(refine zco 38 (hp _) ?_;rintro vb wb ⟨v,vs,rfl,hvl,hS2⟩;have hS:=hS2.ap;simp only [apps] at hS)|(refine zco 101 (hq0 _ _ hvl) ?_;rintro vb wb hS2;have hS:=hS2.ap;simp only [apps] at hS)|(refine G.cn ?_ ?_<;>intro hc<;>try exact zxf)))<;>(try clear fct)
  all_goals
   (have fct:=@hz;refine rM ?_)
   exact ⟨_,_,_,_,rfl,hvl,(Sep.sub hS zw)⟩
 ·have hq1:=fun w=>hq2 w R.a (by rw [if_neg hz])
  (have fct:=(aI @hr @hz);repeat' (first|(refine gO ?_;intro K hK)|(refine kP ?_;clear hK K)|(refine hK _ _ ?_ ?_<;>clear hK K)|(intro wd hxd;have hS:=Sep.xx hxd)|refine sA ?_|((first|refine zalc ?_|((with_reducible refine gBox ?_);refine zbox ?_));intro gb wb hS)|((with_reducible refine gSt ?_);refine zs2 ?_;intro wb hS)|(refine zcp 85 (checkD_spec d _) ?_;intro wb hS)|((with_reducible (show CallK _ 72 [] _ _ _ _));refine zcp 72 (wide_spec _) ?_;intro wb hS)|(refine zco 38 (hp _) ?_;rintro vb wb ⟨v,vs,rfl,hvl,hS2⟩;have hS:=hS2.ap;simp only [apps] at hS)|(refine zco 101 (hq1 _ _ hvl) ?_;rintro vb wb hS2;have hS:=hS2.ap;simp only [apps] at hS)|(refine G.cn ?_ ?_<;>intro hc<;>try exact zxf)))<;>(try clear fct)
  all_goals
   refine rM ?_
   exact ⟨_,_,_,_,rfl,hvl,(Sep.sub hS zw)⟩
section
variable {d:Dl} {s:Str} {R:Rs} {SP:List (Nat×Nat)} {x0 x1 x2 x3 x4 x5 v sv:Value} {w:World} {g:Nat}
def c74:MC:=(Z (yr [qq 2 (.mv (yc (S [])))]) (Z (yr [qm 3 0,qq 4 (.nck (Y 3)),qq 5 (.fad 3 (Y 4)),qq 6 (.ld none (Y 5)),qm 2 6]) .ret))
theorem itext_spec (hB:Blk w g 156 ([x0,x1,x2,x3,x4,x5,v,sv]:List Value).toArray):Pu Tryz.prog 74 #[(.pointer (some ⟨g,0,none⟩))] w x3:=by
 refine En 7 c74 Tryz.func74 ?_
 have hS:=Sep.start w
 repeat' (first|refine G.reg fun K hK=>?_|(refine kM ?_;clear hK K)|refine sA ?_|fail)
 refine rM ?_
 exact Sep.xt ‹_›
def c102:MC:=(Z (yr [qq 4 (.mv (kb false))]) (Z (yr [qm 5 1,qq 6 (yb .leq (ki 0) (Y 5)),qm 7 6,qmt 7 8 1,qmt 7 9 0,qt 7 10 (.nck (Y 9)),qt 7 11 (.fad 7 (Y 10)),qt 7 12 (.ld none (Y 11)),qt 7 13 (.len (Y 12)),qt 7 14 (yb .lss (Y 8) (Y 13)),qq 15 (.pick (Y 7) (Y 14) (kb false)),qm 4 15]) .ret))
theorem ihas_spec (hB:Blk w g 156 ([x0,x1,x2,x3,x4,x5,v,sv]:List Value).toArray) (hP:Rd w eP sv SP) (i:Int):Pu Tryz.prog 102 #[(.pointer (some ⟨g,0,none⟩)),I i] w (.bool (decide (0≤i∧i < SP.length))):=by
 refine En 16 c102 Tryz.func102 ?_
 have hS:=Sep.start w
 repeat' (first|refine G.reg fun K hK=>?_|(refine kM ?_;clear hK K)|refine sA ?_|(refine brO_n ?_ ?_<;>intro hb hc<;>first|exact zxf|(simp only [hb];clear hb)))
 all_goals
  refine rM ?_
  first
  | exact ⟨by congr 1;first|(rw [decide_eq_true zo])|(rw [decide_eq_false zo])|(exact (Bool.decide_and ..).symm)|simp_all,Sep.xt ‹_›⟩
def c68:MC:=(Z (yr [qq 4 (.mv (yc (.slice none 0 0))),qq 5 (.mv (ki 0))]) (Z (Z (yr [qm 6 0,qm 7 1,qq 8 (yl 102 [(Y 6),(Y 7)]),qq 9 (.un .not (Y 8))]) (yd (Y 9) (Z (yr [qq 4 (.mv (yc (.slice none 0 0))),qq 5 (.mv (ki 25))]) .ret) yk)) (Z (yr [qm 10 0,qq 11 (.nck (Y 10)),qq 12 (.fad 6 (Y 11)),qq 13 (.ld none (Y 12)),qm 14 1,qq 15 (.adr 1 (Y 13) (Y 14)),qq 16 (.ld none (Y 15)),qq 17 (yl 103 [(Y 16)]),qm 4 17,qq 5 (.mv (ki 0))]) .ret)))
theorem iget_spec0 (hB:Blk w g 156 ([x0,x1,x2,x3,x4,x5,v,sv]:List Value).toArray) (hP:Rd w eP sv SP) (i:Int) (hi:¬ (0≤i∧i < SP.length)):Pu Tryz.prog 68 #[(.pointer (some ⟨g,0,none⟩)),I i] w (.tuple #[.slice none 0 0,I 25]):=by
 refine En 18 c68 Tryz.func68 ?_
 have hS:=Sep.start w
 have hd:decide (0≤i∧i < SP.length)=false:=decide_eq_false hi
 (have fct:=@hd;repeat' (first|refine G.reg fun K hK=>?_|(refine kM ?_;clear hK K)|refine sA ?_|(refine zcp 102 (ihas_spec (Blk.old hB hS) (Rd.old hP hS) i) ?_;intro wb hS)|(refine G.cn ?_ ?_<;>intro hc<;>try exact zxf)))<;>(try clear fct)
 all_goals
  refine rM ?_
  exact Sep.xt ‹_›
theorem iget_spec1 {vs:List Value} {r:List Str} (hB:Blk w g 156 ([x0,x1,x2,x3,x4,x5,v,sv]:List Value).toArray) (hP:Rd w eP sv SP) (hV:Rd w eV v vs) (i:Int) (hi:0≤i∧i < SP.length) (hvl:vs.length=SP.length) (hr:Rd w eS (vs.getD i.toNat default) r) (hrl:r.length≤1000000000000) :
 Ret Tryz.prog 68 #[(.pointer (some ⟨g,0,none⟩)),I i] w fun res w'=>∃ rv,res=.tuple #[rv,I 0]∧Sep w w' [accC rv 9 eS r]:=by
 refine En 18 c68 Tryz.func68 ?_
 have hS:=Sep.start w
 have hd:decide (0≤i∧i < SP.length)=true:=decide_eq_true hi
 (have fct:=(aI @hd @hvl);repeat' (first|refine G.reg fun K hK=>?_|(refine kM ?_;clear hK K)|refine sA ?_|(refine zcp 102 (ihas_spec (Blk.old hB hS) (Rd.old hP hS) i) ?_;intro wb hS)|(refine zco 103 (clone_spec (Rd.old hr hS) hrl) ?_;rintro vb wb hS2;have hS:=hS2.ap;simp only [apps] at hS)|(refine G.cn ?_ ?_<;>intro hc<;>try exact zxf)))<;>(try clear fct)
 all_goals
  refine rM ?_
  exact ⟨_,rfl,(Sep.sub hS zw)⟩
end
end Go.Proofs.YtllanbmpacgigaaGreatDoor
