/- Texts of the proof, joined. -/
import Derived.Test.YtllanbmpacgigaaGreatDoorIP10
import Derived.Test.YtllanbmpacgigaaGreatDoorIV06
namespace Go.Proofs.YtllanbmpacgigaaGreatDoor
open Operand renaming tmp→Y,const→yc
open MC renaming seq→Z,reg→yr,skip→yk,cond→yd
open MO renaming call→yl,bin→yb
open Nat renaming reduceAdd→zq1,reduceLeDiff→zq2,reduceEqDiff→zq3,reduceLT→zq4
open Int renaming reduceToNat→zq5
set_option linter.unusedSimpArgs false
set_option linter.unusedVariables false
attribute [local irreducible] SemK UnitK StK AlcK BslK CallK CallV Instr.box Builtin.append_ Instr.makeSlice Instr.makeMap Instr.lookup Instr.mapUpdate Instr.sliceAt convert
open Go.RowKit
section
variable {w:World}
def c201:MC:=(Z (yr [qq 4 (.mv (ki 0))]) (Z (yr [qm 5 0,qm 6 1,qq 7 (yl 133 [(Y 5),(Y 6)]),qm 4 7]) .ret))
theorem ib_spec (f:Str) (c:UInt8) (n:Int) (hn:(c.toNat:Int)=n) (w:World):Pu Tryz.prog 201 #[S f,U n] w (I (Lib.indexByte f c)):=by
 refine En 8 c201 Tryz.func201 ?_
 have hS:=Sep.start w
 repeat' (first|refine G.reg fun K hK=>?_|(refine kM ?_;clear hK K)|refine sA ?_|(refine zcp 133 (ib1_spec f c _ hn _) ?_;intro wb hS))
 refine rM ?_
 exact Sep.xt ‹_›
def c179:MC:=(Z (yr [qq 4 (.raw (.box 39 (Y 0)) 0),qq 8 (.mv (ki 0))]) (Z (.blk 0 (Z (yr [qm 10 1,qq 11 (.fad 0 (Y 4)),qq 12 (.ld none (Y 11)),qq 13 (yl 201 [(Y 10),(Y 12)]),qq 14 (yb .geq (Y 13) (ki 0)),qm 9 14]) (yd (Y 9) (Z (yr [qq 8 (.mv (ki 1))]) .ret) (Z (yr [qm 16 1,qq 17 (.fad 1 (Y 4)),qq 18 (.ld none (Y 17)),qq 19 (yl 201 [(Y 16),(Y 18)]),qq 20 (yb .geq (Y 19) (ki 0)),qm 15 20]) (yd (Y 15) (Z (yr [qq 8 (.mv (ki 2))]) .ret) (Z (yr [qm 22 1,qq 23 (yl 201 [(Y 22),(yc (.int .u8 13))]),qq 24 (yb .geq (Y 23) (ki 0)),qm 25 24,qmf 25 26 1,qf 25 27 (yl 201 [(Y 26),(yc (.int .u8 10))]),qf 25 28 (yb .geq (Y 27) (ki 0)),qq 29 (.pick (Y 25) (kb true) (Y 28)),qm 21 29]) (yd (Y 21) (Z (yr [qq 8 (.mv (ki 3))]) .ret) (Z (yr [qm 31 1,qq 32 (yb .eql (Y 31) (yc (S []))),qm 33 32,qmt 33 34 2,qq 35 (.pick (Y 33) (Y 34) (kb false)),qm 30 35]) (yd (Y 30) (Z (yr [qq 8 (.mv (ki 4))]) .ret) (Z (yr [qm 37 3,qm 38 37,qmt 38 39 1,qt 38 40 (yl 116 [(Y 39),(yc (S [239,187,191]))]),qq 41 (.pick (Y 38) (Y 40) (kb false)),qm 36 41]) (yd (Y 36) (Z (yr [qq 8 (.mv (ki 5))]) .ret) yk))))))))))) (Z (yr [qq 8 (.mv (ki 0))]) .ret)))
set_option maxHeartbeats 1000000 in
set_option maxRecDepth 8000 in
theorem why_spec (d:Dl) (hd:byD d) (f:Str) (a b:Bool) (w:World) (hl:f.length≤1000000000):Pu Tryz.prog 179 #[(.agg #[U d.dl,U d.q,I d.e]),S f,.bool a,.bool b] w (I (whyM d f a b)):=by
 refine En 42 c179 Tryz.func179 ?_
 have hS:=Sep.start w
 obtain ⟨d0,d1,d2,d3⟩:=hd
 have i1:=idx_has f (bD d)
 have i2:=idx_has f (bQ d)
 have i3:=idx_has f 13
 have i4:=idx_has f 10
 (have fct:=(a4 @i1 @i2 @i3 @i4);repeat' (first|refine G.reg fun K hK=>?_|(refine kM ?_;clear hK K)|refine sA ?_|(refine brO_n ?_ ?_<;>intro hb hc<;>first|exact zxf|(simp only [hb];clear hb))|(((with_reducible refine gBox ?_);refine zbox ?_);intro gb wb hS)|((with_reducible (show CallK _ 201 [_,U d.dl] _ _ _ _));refine zcp 201 (ib_spec f (bD d) _ (byte_of ⟨d0,d1⟩) _) ?_;intro wb hS)|((with_reducible (show CallK _ 201 [_,U d.q] _ _ _ _));refine zcp 201 (ib_spec f (bQ d) _ (byte_of ⟨d2,d3⟩) _) ?_;intro wb hS)|((with_reducible (show CallK _ 201 [_,U 13] _ _ _ _));refine zcp 201 (ib_spec f 13 _ zd _) ?_;intro wb hS)|((with_reducible (show CallK _ 201 [_,U 10] _ _ _ _));refine zcp 201 (ib_spec f 10 _ zd _) ?_;intro wb hS)|(refine zcp 116 (shp_spec f _ _ hl zd) ?_;intro wb hS)|(refine G.cn ?_ ?_<;>intro hc<;>try exact zxf)))<;>(try clear fct)
 all_goals
  refine rM ?_
  exact ⟨by clear hS;simp_all [whyM],Sep.xt ‹_›⟩
end
section
variable {w:World}
def c143:MC:=(Z (yr [qq 4 (.raw (.box 39 (Y 0)) 0),qq 8 (.mv (kb false))]) (Z (yr [qq 9 (.ld (.some 3) (Y 4)),qm 10 1,qm 11 2,qm 12 3,qq 13 (yl 179 [(Y 9),(Y 10),(Y 11),(Y 12)]),qq 14 (yb .neq (Y 13) (ki 0)),qm 8 14]) .ret))
theorem need_spec (d:Dl) (hd:byD d) (f:Str) (a b:Bool) (w:World) (hl:f.length≤1000000000):Pu Tryz.prog 143 #[(.agg #[U d.dl,U d.q,I d.e]),S f,.bool a,.bool b] w (.bool (decide (0 < whyM d f a b))):=by
 refine En 15 c143 Tryz.func143 ?_
 have hS:=Sep.start w
 have hp:=whyM_pos d f a b
 repeat' (first|refine G.reg fun K hK=>?_|(refine kM ?_;clear hK K)|refine sA ?_|(((with_reducible refine gBox ?_);refine zbox ?_);intro gb wb hS)|(refine zcp 179 (why_spec d hd f a b _ hl) ?_;intro wb hS))
 all_goals
  refine rM ?_
  exact ⟨by congr 1;apply Bool.eq_iff_iff.2;simp;omega,Sep.xt ‹_›⟩
theorem bwbI_spec {g:Nat} {xs:Str} {L R:List Chk} {w w0:World} {n:Int} (c:UInt8) (hn:(c.toNat:Int)=n) (hS:Sep w0 w L) (he:Ex (bldC g 67 5 xs) L R) (hl:xs.length≤1000000000000) :
 Ret Tryz.prog 35 #[.pointer (some ⟨g,0,none⟩),U n] w fun res w'=>res=.nilIface∧Sep w0 w' (bldC g 67 5 (xs++[c]) :: R):=by
 subst hn;exact bwb_spec c hS he hl
theorem u8_ofI {b c:UInt8} {n:Int} (hc:(c.toNat:Int)=n) (h:(b.toNat:Int)=n):b=c:=UInt8.toNat_inj.1 zo
theorem quoB_snoc0 (q:UInt8) (f:Str) (k:Nat) (hk:(k:Int) < f.length):(f.take (k+1)).flatMap (quoB q)=(f.take k).flatMap (quoB q)++quoB q (f.getD k 0):=quoB_snoc q f k hk
def c144l1:MC:=(Z (yr [qq 13 (yb .lss (Y 12) (Y 11))]) (Z (yd (Y 13) yk (.exit 0)) (Z (.blk 1 (Z (yr [qm 14 12,qm 6 14]) (Z (Z (.drg [qm 15 1,qm 16 6,qq 17 (.idxS (Y 15) (Y 16)),qq 18 (.fad 1 (Y 2)),qq 19 (.ld none (Y 18)),qq 20 (yb .eql (Y 17) (Y 19))] none) (yd (Y 20) (yr [qq 21 (.fad 1 (Y 2)),qq 22 (.ld none (Y 21)),qq 23 (yl 35 [(Y 5),(Y 22)])]) yk)) (yr [qm 24 1,qm 25 6,qq 26 (.idxS (Y 24) (Y 25)),qq 27 (yl 35 [(Y 5),(Y 26)])])))) (yr [qq 28 (yb .add (Y 12) (ki 1)),qm 12 28]))))
def c144:MC:=(Z (yr [qq 2 (.raw (.box 39 (Y 0)) 0),qq 4 (.mv (yc (S [])))]) (Z (yr [qq 5 (.alc 67 [(.pointer none),(.slice none 0 0)])]) (Z (yr [qq 7 (.fad 1 (Y 2)),qq 8 (.ld none (Y 7)),qq 9 (yl 35 [(Y 5),(Y 8)])]) (Z (Z (yr [qm 10 1,qq 11 (.lenS (Y 10)),qq 12 (.mv (ki 0))]) (.blk 0 (.loop c144l1))) (Z (yr [qq 29 (.fad 1 (Y 2)),qq 30 (.ld none (Y 29)),qq 31 (yl 35 [(Y 5),(Y 30)])]) (Z (yr [qq 32 (yl 36 [(Y 5)]),qm 4 32]) .ret))))))
theorem quoted_spec (d:Dl) (hd:byD d) (f:Str) (w:World) (hl:f.length≤1000000000):Pu Tryz.prog 144 #[(.agg #[U d.dl,U d.q,I d.e]),S f] w (S (quoM d f)):=by
 refine En 33 c144 Tryz.func144 ?_
 have hS:=Sep.start w
 have hq:((bQ d).toNat:Int)=d.q:=byte_of ⟨hd.2.2.1,hd.2.2.2⟩
 have hql:=quoB_len (bQ d)
 repeat' (first|(refine gO ?_;intro K hK)|(refine kP ?_;clear hK K)|(intro wd hxd;have hS:=Sep.xx hxd)|refine sA ?_|((first|refine zalc ?_|((with_reducible refine gBox ?_);refine zbox ?_));intro gb wb hS)|(have hS:=hS.newB 5;((with_reducible (show CallK _ 35 _ _ _ _ _));refine zco 35 (bwbI_spec (bQ d) hq hS zr (by first|omega|(simp only [lens];omega))) ?_;rintro vb wb ⟨rfl,hS⟩))|(refine G.cn ?_ ?_<;>intro hc<;>try exact zxf))
 refine G.loop (fun r w'=>∃ (k g2 gB:Nat),k≤f.length∧r 1=S f∧r 2=.pointer (some ⟨g2,0,none⟩)∧r 5=.pointer (some ⟨gB,0,none⟩)∧r 11=I f.length∧r 12=I k∧Sep w w' [bldC gB 67 5 (bQ d :: (f.take k).flatMap (quoB (bQ d))),boxC g2 39 [U d.dl,U d.q,I d.e]]) (fun r _=>f.length - toN (r 12)) ?_ ?_
 ·exact ⟨0,_,_,Nat.zero_le _,by exact sf,by exact sf,by exact sf,by exact sf,by exact sf,(Sep.sub hS zw)⟩
 ·clear hS
  rintro u wl ⟨k,g2,gB,hk,q1,q2,q5,q11,q12,hS⟩ ih
  have hm:toN (u 12)=k:=by rw [q12];simp [toN]
  have hqk:=hql (f.take k)
  have htk:(f.take k).length≤k:=by rw [List.length_take];omega
  by_cases hkk:(k:Int) < f.length
  ·have hsn:=quoB_snoc0 (bQ d) f k hkk
   by_cases hcq:((f.getD k 0).toNat:Int)=d.q
   ·have hfc:=u8_ofI hq hcq
    have hqb:quoB (bQ d) (f.getD k 0)=[bQ d]++[f.getD k 0]:=by rw [hfc];simp [quoB]
    rw [hqb] at hsn
    (have fct:=(a5 @q1 @q2 @q5 @q11 @q12);repeat' (first|(refine gO ?_;intro K hK)|(refine kP ?_;clear hK K)|(intro wd hxd;have hS:=Sep.xx hxd)|refine sA ?_|((first|refine zalc ?_|((with_reducible refine gBox ?_);refine zbox ?_));intro gb wb hS)|((with_reducible (show CallK _ 35 _ _ _ _ _));refine zco 35 (bwbI_spec (bQ d) hq hS zr (by first|omega|(simp only [lens];omega))) ?_;rintro vb wb ⟨rfl,hS⟩)|((with_reducible (show CallK _ 35 _ _ _ _ _));refine zco 35 (bwbI_spec (f.getD k 0) rfl hS zr (by first|omega|(simp only [lens];omega))) ?_;rintro vb wb ⟨rfl,hS⟩)|(refine G.cn ?_ ?_<;>intro hc<;>try exact zxf)))<;>(try clear fct)
    all_goals
     rw [List.cons_append,List.cons_append,List.append_assoc,←hsn] at hS
     have fct:=(a5 @q1 @q2 @q5 @q11 @q12);refine ih _ _ ⟨k+1,g2,gB,by omega,by exact sf,by exact sf,by exact sf,by exact sf,by exact sf,(Sep.sub hS zw)⟩ ?_
     rw [hm];simp only [push_cast,↓reduceIte,zq1,zq2,zq3,zq4,zq5,toN_i,q1,q2,q5,q11,q12];omega
   ·have hfc:¬ f.getD k 0=bQ d:=fun e=>hcq (by rw [e];exact hq)
    have hqb:quoB (bQ d) (f.getD k 0)=[f.getD k 0]:=by simp only [quoB,if_neg hfc]
    rw [hqb] at hsn
    (have fct:=(a5 @q1 @q2 @q5 @q11 @q12);repeat' (first|(refine gO ?_;intro K hK)|(refine kP ?_;clear hK K)|(intro wd hxd;have hS:=Sep.xx hxd)|refine sA ?_|((first|refine zalc ?_|((with_reducible refine gBox ?_);refine zbox ?_));intro gb wb hS)|((with_reducible (show CallK _ 35 _ _ _ _ _));refine zco 35 (bwbI_spec (f.getD k 0) rfl hS zr (by first|omega|(simp only [lens];omega))) ?_;rintro vb wb ⟨rfl,hS⟩)|(refine G.cn ?_ ?_<;>intro hc<;>try exact zxf)))<;>(try clear fct)
    all_goals
     rw [List.cons_append,←hsn] at hS
     have fct:=(a5 @q1 @q2 @q5 @q11 @q12);refine ih _ _ ⟨k+1,g2,gB,by omega,by exact sf,by exact sf,by exact sf,by exact sf,by exact sf,(Sep.sub hS zw)⟩ ?_
     rw [hm];simp only [push_cast,↓reduceIte,zq1,zq2,zq3,zq4,zq5,toN_i,q1,q2,q5,q11,q12];omega
  ·have hta:f.take k=f:=List.take_of_length_le zo
   rw [hta] at hS hqk
   (have fct:=(a5 @q1 @q2 @q5 @q11 @q12);repeat' (first|(refine gO ?_;intro K hK)|(refine kP ?_;clear hK K)|(intro wd hxd;have hS:=Sep.xx hxd)|refine sA ?_|((first|refine zalc ?_|((with_reducible refine gBox ?_);refine zbox ?_));intro gb wb hS)|((with_reducible (show CallK _ 35 _ _ _ _ _));refine zco 35 (bwbI_spec (bQ d) hq hS zr (by first|omega|(simp only [lens];omega))) ?_;rintro vb wb ⟨rfl,hS⟩)|((with_reducible (show CallK _ 36 _ _ _ _ _));refine zco 36 (bst_spec hS zr) ?_;rintro vb wb ⟨rfl,hS⟩)|(refine G.cn ?_ ?_<;>intro hc<;>try exact zxf)))<;>(try clear fct)
   all_goals
    (have fct:=(a5 @q1 @q2 @q5 @q11 @q12);refine rM ?_)
    exact ⟨rfl,Sep.xt ‹_›⟩
def c105:MC:=(Z (yr [qq 4 (.raw (.box 39 (Y 0)) 0),qq 8 (.mv (yc (S [])))]) (Z (Z (yr [qq 9 (.ld (.some 3) (Y 4)),qm 10 1,qm 11 2,qm 12 3,qq 13 (yl 143 [(Y 9),(Y 10),(Y 11),(Y 12)])]) (yd (Y 13) (Z (yr [qq 14 (.ld (.some 3) (Y 4)),qm 15 1,qq 16 (yl 144 [(Y 14),(Y 15)]),qm 8 16]) .ret) yk)) (Z (yr [qm 17 1,qm 8 17]) .ret)))
theorem written_spec (d:Dl) (hd:byD d) (f:Str) (a b:Bool) (w:World) (hl:f.length≤1000000000):Pu Tryz.prog 105 #[(.agg #[U d.dl,U d.q,I d.e]),S f,.bool a,.bool b] w (S (wrM d f a b)):=by
 refine En 18 c105 Tryz.func105 ?_
 have hS:=Sep.start w
 unfold wrM
 by_cases h:0 < whyM d f a b
 ·rw [if_pos h]
  repeat' (first|refine G.reg fun K hK=>?_|(refine kM ?_;clear hK K)|refine sA ?_|(((with_reducible refine gBox ?_);refine zbox ?_);intro gb wb hS)|(refine zcp 143 (need_spec d hd f a b _ hl) ?_;intro wb hS)|(refine zcp 144 (quoted_spec d hd f _ hl) ?_;intro wb hS)|(refine G.cn ?_ ?_<;>intro hc<;>try exact zxf))
  all_goals
   refine rM ?_
   exact Sep.xt ‹_›
 ·rw [if_neg h]
  repeat' (first|refine G.reg fun K hK=>?_|(refine kM ?_;clear hK K)|refine sA ?_|(((with_reducible refine gBox ?_);refine zbox ?_);intro gb wb hS)|(refine zcp 143 (need_spec d hd f a b _ hl) ?_;intro wb hS)|(refine zcp 144 (quoted_spec d hd f _ hl) ?_;intro wb hS)|(refine G.cn ?_ ?_<;>intro hc<;>try exact zxf))
  all_goals
   refine rM ?_
   exact Sep.xt ‹_›
def c71:MC:=(Z (yr [qq 1 (.raw (.box 39 (Y 0)) 0),qq 2 (.mv (yc (S [])))]) (Z (.blk 0 (Z (yr [qq 4 (.ld (.some 3) (Y 1)),qq 5 (yl 85 [(Y 4)]),qq 6 (yb .neq (Y 5) (ki 0)),qm 3 6]) (yd (Y 3) (Z (yr [qq 2 (.mv (yc (S [])))]) .ret) (Z (yr [qq 8 (.fad 2 (Y 1)),qq 9 (.ld none (Y 8)),qq 10 (yb .eql (Y 9) (ki 2)),qm 7 10]) (yd (Y 7) (Z (yr [qq 2 (.mv (yc (S [13,10])))]) .ret) yk))))) (Z (yr [qq 2 (.mv (yc (S [10])))]) .ret)))
theorem dend_spec (d:Dl) (hr:rightD d=true) (w:World):Pu Tryz.prog 71 #[(.agg #[U d.dl,U d.q,I d.e])] w (S (endM d)):=by
 refine En 11 c71 Tryz.func71 ?_
 have hS:=Sep.start w
 unfold endM
 by_cases h:d.e=2
 ·rw [if_pos h]
  (have fct:=@hr;repeat' (first|refine G.reg fun K hK=>?_|(refine kM ?_;clear hK K)|refine sA ?_|(((with_reducible refine gBox ?_);refine zbox ?_);intro gb wb hS)|(refine zcp 85 (checkD_spec d _) ?_;intro wb hS)|(refine G.cn ?_ ?_<;>intro hc<;>try exact zxf)))<;>(try clear fct)
  all_goals
   refine rM ?_
   exact Sep.xt ‹_›
 ·rw [if_neg h]
  (have fct:=@hr;repeat' (first|refine G.reg fun K hK=>?_|(refine kM ?_;clear hK K)|refine sA ?_|(((with_reducible refine gBox ?_);refine zbox ?_);intro gb wb hS)|(refine zcp 85 (checkD_spec d _) ?_;intro wb hS)|(refine G.cn ?_ ?_<;>intro hc<;>try exact zxf)))<;>(try clear fct)
  all_goals
   refine rM ?_
   exact Sep.xt ‹_›
end
def lineV (d:Dl) (r:List Str) (first:Bool):Value:=if rightD d=false then .tuple #[S [],I 1] else if mayR r=0 then .tuple #[S (lineM d r first),I 0] else .tuple #[S [],I (mayR r)]
section
variable {w:World} {v:Value} {r:List Str}
def c69l1:MC:=(Z (yr [qq 25 (yb .lss (Y 24) (Y 23))]) (Z (yd (Y 25) yk (.exit 0)) (Z (.blk 1 (Z (yr [qq 26 (.adr 1 (Y 22) (Y 24)),qq 27 (.ld none (Y 26)),qm 10 27]) (Z (yr [qm 28 10,qq 29 (yl 104 [(Y 28)]),qq 30 (.un .not (Y 29))]) (yd (Y 30) (Z (yr [qq 6 (.mv (yc (S []))),qq 7 (.mv (ki 14))]) .ret) yk)))) (yr [qq 31 (yb .add (Y 24) (ki 1)),qm 24 31]))))
def c69l2:MC:=(Z (yr [qq 35 (yb .lss (Y 34) (Y 33))]) (Z (yd (Y 35) yk (.exit 2)) (Z (.blk 3 (Z (yr [qm 36 34,qq 37 (.adr 1 (Y 32) (Y 34)),qq 38 (.ld none (Y 37)),qm 12 36,qm 13 38]) (Z (Z (yr [qm 39 12,qq 40 (yb .gtr (Y 39) (ki 0))]) (yd (Y 40) (yr [qq 41 (.fad 0 (Y 3)),qq 42 (.ld none (Y 41)),qq 43 (yl 35 [(Y 11),(Y 42)])]) yk)) (yr [qq 44 (.ld (.some 3) (Y 3)),qm 45 13,qm 46 1,qq 47 (.len (Y 46)),qq 48 (yb .eql (Y 47) (ki 1)),qm 49 2,qm 50 49,qmt 50 51 12,qt 50 52 (yb .eql (Y 51) (ki 0)),qq 53 (.pick (Y 50) (Y 52) (kb false)),qq 54 (yl 105 [(Y 44),(Y 45),(Y 48),(Y 53)]),qq 55 (yl 34 [(Y 11),(Y 54)])])))) (yr [qq 56 (yb .add (Y 34) (ki 1)),qm 34 56]))))
def c69:MC:=(Z (yr [qq 3 (.raw (.box 39 (Y 0)) 0),qq 6 (.mv (yc (S []))),qq 7 (.mv (ki 0))]) (Z (Z (yr [qq 14 (.ld (.some 3) (Y 3)),qq 15 (yl 85 [(Y 14)]),qm 8 15]) (Z (yr [qm 16 8,qq 17 (yb .neq (Y 16) (ki 0))]) (yd (Y 17) (Z (yr [qm 18 8,qq 6 (.mv (yc (S []))),qm 7 18]) .ret) yk))) (Z (Z (yr [qm 19 1,qq 20 (.len (Y 19)),qq 21 (yb .eql (Y 20) (ki 0))]) (yd (Y 21) (Z (yr [qq 6 (.mv (yc (S []))),qq 7 (.mv (ki 13))]) .ret) yk)) (Z (Z (yr [qm 22 1,qq 23 (.len (Y 22)),qq 24 (.mv (ki 0))]) (.blk 0 (.loop c69l1))) (Z (yr [qq 11 (.alc 67 [(.pointer none),(.slice none 0 0)])]) (Z (Z (yr [qm 32 1,qq 33 (.len (Y 32)),qq 34 (.mv (ki 0))]) (.blk 2 (.loop c69l2))) (Z (yr [qq 57 (.ld (.some 3) (Y 3)),qq 58 (yl 71 [(Y 57)]),qq 59 (yl 34 [(Y 11),(Y 58)])]) (Z (yr [qq 60 (yl 36 [(Y 11)]),qm 6 60,qq 7 (.mv (ki 0))]) .ret))))))))
def wlineV (T:MC):MC:=match c69 with
 | .seq a (.seq b (.seq c (.seq d _)))=>.seq a (.seq b (.seq c (.seq d T)))
 | _=>.skip
def wlineT:MC:=match c69 with
 | .seq _ (.seq _ (.seq _ (.seq _ T)))=>T
 | _=>.skip
set_option maxHeartbeats 1000000 in
theorem wline_tail {n:Nat} {ρ:Fr} {w':World} {g3:Nat} (d:Dl) (hd:byD d) (hrt:rightD d=true) (first:Bool) (hr:Rd w eS v r) (hN:∀ f∈r,f.length≤1000000) (hl:r.length≤10000) (q1:ρ 1=v) (q2:ρ 2=.bool first) (q3:ρ 3=.pointer (some ⟨g3,0,none⟩)) (hS:Sep w w' [boxC g3 39 [U d.dl,U d.q,I d.e]]) :
 G Tryz.prog Tryz.f69 n [.c wlineT] (fun res w'=>res=.tuple #[S (lineM d r first),I 0]∧Ext w w') ρ w':=by
 unfold wlineT c69
 dsimp only
 have hb0:((bD d).toNat:Int)=d.dl:=byte_of ⟨hd.1,hd.2.1⟩
 (have fct:=(a3 @q1 @q2 @q3);repeat' (first|refine G.reg fun K hK=>?_|(refine kM ?_;clear hK K)|refine sA ?_|(refine brO_n ?_ ?_<;>intro hb hc<;>first|exact zxf|(simp only [hb];clear hb))|((first|refine zalc ?_|((with_reducible refine gBox ?_);refine zbox ?_));intro gb wb hS)|(refine G.cn ?_ ?_<;>intro hc<;>try exact zxf)))<;>(try clear fct)
 have hS:=hS.newB 5
 refine G.loop (fun x w'=>∃ (k gB:Nat),k≤r.length∧x 1=v∧x 2=.bool first∧x 3=.pointer (some ⟨g3,0,none⟩)∧x 11=.pointer (some ⟨gB,0,none⟩)∧x 32=v∧x 33=I r.length∧x 34=I k∧Sep w w' [bldC gB 67 5 (lineF d r.length first 0 (r.take k)),boxC g3 39 [U d.dl,U d.q,I d.e]]) (fun x _=>r.length - toN (x 34)) ?_ ?_
 ·exact ⟨0,_,Nat.zero_le _,by simp only [push_cast,↓reduceIte,zq1,zq2,zq3,zq4,zq5,q1],by simp only [push_cast,↓reduceIte,zq1,zq2,zq3,zq4,zq5,q2],by simp only [push_cast,↓reduceIte,zq1,zq2,zq3,zq4,zq5,q3],by simp only [push_cast,↓reduceIte,zq1,zq2,zq3,zq4,zq5]<;>rfl,by simp only [push_cast,↓reduceIte,zq1,zq2,zq3,zq4,zq5,q1],by simp only [push_cast,↓reduceIte,zq1,zq2,zq3,zq4,zq5],by simp only [push_cast,↓reduceIte,zq1,zq2,zq3,zq4,zq5]<;>rfl,hS⟩
 ·clear hS q1 q2 q3
  rintro u wl ⟨k,gB,hk,q1,q2,q3,q11,q32,q33,q34,hS⟩ ih
  have hm:toN (u 34)=k:=by rw [q34];simp [toN]
  have hfl:=lineF_len d r.length first 1000000 (r.take k) 0 (fun f hf=>hN f (List.mem_of_mem_take hf))
  have htl:(r.take k).length≤10000:=by rw [List.length_take];omega
  have hfl2:(lineF d r.length first 0 (r.take k)).length≤20000030000:=Nat.le_trans hfl (Nat.le_trans (Nat.mul_le_mul_right _ htl) zd)
  clear hfl
  by_cases hkk:(k:Int) < r.length
  ·have hst:=lineF_step d r.length first r k hkk
   have hfk:=hN _ (getD_mem r k hkk)
   have hwl:=fun a b=>wrM_len d (r.getD k default) a b
   have hn1:((r.length:Int) == 1)=decide (r.length=1):=by rw [Bool.eq_iff_iff];simp;omega
   by_cases hk0:k=0
   ·subst hk0
    have hpc:pieceM d r.length first 0 (r.getD 0 default)=wrM d (r.getD 0 default) (decide (r.length=1)) first:=by simp [pieceM]
    have hwl2:=hwl (decide (r.length=1)) first
    rw [hpc] at hst
    cases first
    all_goals
     (have fct:=(a8 @q1 @q2 @q3 @q11 @q32 @q33 @q34 @hn1);repeat' (first|refine G.reg fun K hK=>?_|(refine kM ?_;clear hK K)|refine sA ?_|(refine brO_n ?_ ?_<;>intro hb hc<;>first|exact zxf|(simp only [hb];clear hb))|((first|refine zalc ?_|((with_reducible refine gBox ?_);refine zbox ?_));intro gb wb hS)|(refine zcp 105 (written_spec d hd _ _ _ _ zo) ?_;intro wb hS)|((with_reducible (show CallK _ 35 _ _ _ _ _));refine zco 35 (bwbI_spec (bD d) hb0 hS zr (by first|omega|(simp only [lens];omega))) ?_;rintro vb wb ⟨rfl,hS⟩)|((with_reducible (show CallK _ 34 _ _ _ _ _));refine zco 34 (bws_spec hS zr (by first|omega|(simp only [lens];omega)) (by first|omega|(simp only [lens];omega))) ?_;rintro vb wb ⟨rfl,hS⟩)|(refine G.cn ?_ ?_<;>intro hc<;>try exact zxf)))<;>(try clear fct)
     all_goals
      rw [←hst] at hS
      have fct:=(a7 @q1 @q2 @q3 @q11 @q32 @q33 @q34);refine ih _ _ ⟨0+1,gB,by omega,by exact sf,by exact sf,by exact sf,by exact sf,by exact sf,by exact sf,by exact sf,(Sep.sub hS zw)⟩ ?_
      rw [hm];simp only [push_cast,↓reduceIte,zq1,zq2,zq3,zq4,zq5,toN_i,q1,q2,q3,q11,q32,q33,q34];omega
   ·have hkb:((k:Int) == 0)=false:=by simp;omega
    have hpc:pieceM d r.length first k (r.getD k default)=[bD d]++wrM d (r.getD k default) (decide (r.length=1)) false:=by simp [pieceM,hk0,show 0 < k by omega]
    have hwl2:=hwl (decide (r.length=1)) false
    rw [hpc,←List.append_assoc] at hst
    cases first
    all_goals
     (have fct:=(a9 @q1 @q2 @q3 @q11 @q32 @q33 @q34 @hn1 @hkb);repeat' (first|refine G.reg fun K hK=>?_|(refine kM ?_;clear hK K)|refine sA ?_|(refine brO_n ?_ ?_<;>intro hb hc<;>first|exact zxf|(simp only [hb];clear hb))|((first|refine zalc ?_|((with_reducible refine gBox ?_);refine zbox ?_));intro gb wb hS)|(refine zcp 105 (written_spec d hd _ _ _ _ zo) ?_;intro wb hS)|((with_reducible (show CallK _ 35 _ _ _ _ _));refine zco 35 (bwbI_spec (bD d) hb0 hS zr (by first|omega|(simp only [lens];omega))) ?_;rintro vb wb ⟨rfl,hS⟩)|((with_reducible (show CallK _ 34 _ _ _ _ _));refine zco 34 (bws_spec hS zr (by first|omega|(simp only [lens];omega)) (by first|omega|(simp only [lens];omega))) ?_;rintro vb wb ⟨rfl,hS⟩)|(refine G.cn ?_ ?_<;>intro hc<;>try exact zxf)))<;>(try clear fct)
     all_goals
      rw [←hst] at hS
      have fct:=(a7 @q1 @q2 @q3 @q11 @q32 @q33 @q34);refine ih _ _ ⟨k+1,gB,by omega,by exact sf,by exact sf,by exact sf,by exact sf,by exact sf,by exact sf,by exact sf,(Sep.sub hS zw)⟩ ?_
      rw [hm];simp only [push_cast,↓reduceIte,zq1,zq2,zq3,zq4,zq5,toN_i,q1,q2,q3,q11,q32,q33,q34];omega
  ·have hta:r.take k=r:=List.take_of_length_le zo
   rw [hta] at hS hfl2
   have hel:(endM d).length≤2:=by unfold endM;split<;>simp
   (have fct:=(a7 @q1 @q2 @q3 @q11 @q32 @q33 @q34);repeat' (first|refine G.reg fun K hK=>?_|(refine kM ?_;clear hK K)|refine sA ?_|(refine brO_n ?_ ?_<;>intro hb hc<;>first|exact zxf|(simp only [hb];clear hb))|((first|refine zalc ?_|((with_reducible refine gBox ?_);refine zbox ?_));intro gb wb hS)|(refine zcp 71 (dend_spec d hrt _) ?_;intro wb hS)|((with_reducible (show CallK _ 34 _ _ _ _ _));refine zco 34 (bws_spec hS zr (by first|omega|(simp only [lens];omega)) (by first|omega|(simp only [lens];omega))) ?_;rintro vb wb ⟨rfl,hS⟩)|((with_reducible (show CallK _ 36 _ _ _ _ _));refine zco 36 (bst_spec hS zr) ?_;rintro vb wb ⟨rfl,hS⟩)|(refine G.cn ?_ ?_<;>intro hc<;>try exact zxf)))<;>(try clear fct)
   all_goals
    (have fct:=(a7 @q1 @q2 @q3 @q11 @q32 @q33 @q34);refine rM ?_)
    exact ⟨rfl,Sep.xt ‹_›⟩
set_option maxHeartbeats 1000000 in
theorem wline_pre {n:Nat} {TT:MC} (d:Dl) (first:Bool) (w:World) (hr:Rd w eS v r) (hN:∀ f∈r,f.length≤1000000) (hl:r.length≤10000)
 (ht:∀ {ρ:Fr} {w':World} {g3:Nat},rightD d=true→mayR r=0→ρ 1=v→ρ 2=.bool first→ρ 3=.pointer (some ⟨g3,0,none⟩)→Sep w w' [boxC g3 39 [U d.dl,U d.q,I d.e]]→G Tryz.prog Tryz.f69 n [.c TT] (fun res w'=>res=lineV d r first∧Ext w w') ρ w') :
 G Tryz.prog Tryz.f69 n [.c (wlineV TT)] (fun res w'=>res=lineV d r first∧Ext w w') (frL 0 [(.agg #[U d.dl,U d.q,I d.e]),v,.bool first]) w:=by
 unfold wlineV c69
 dsimp only
 have hS:=Sep.start w
 cases hrt:rightD d
 ·(have fct:=@hrt;repeat' (first|refine G.reg fun K hK=>?_|(refine kM ?_;clear hK K)|refine sA ?_|(refine brO_n ?_ ?_<;>intro hb hc<;>first|exact zxf|(simp only [hb];clear hb))|((first|refine zalc ?_|((with_reducible refine gBox ?_);refine zbox ?_));intro gb wb hS)|(refine zcp 85 (checkD_spec d _) ?_;intro wb hS)|(refine G.cn ?_ ?_<;>intro hc<;>try exact zxf)))<;>(try clear fct)
  all_goals
   refine rM ?_
   exact ⟨by unfold lineV;rw [if_pos hrt],Sep.xt ‹_›⟩
 ·by_cases hr0:r=[]
  ·have hl0:r.length=0:=by rw [hr0];rfl
   (have fct:=(aI @hrt @hl0);repeat' (first|refine G.reg fun K hK=>?_|(refine kM ?_;clear hK K)|refine sA ?_|(refine brO_n ?_ ?_<;>intro hb hc<;>first|exact zxf|(simp only [hb];clear hb))|((first|refine zalc ?_|((with_reducible refine gBox ?_);refine zbox ?_));intro gb wb hS)|(refine zcp 85 (checkD_spec d _) ?_;intro wb hS)|(refine G.cn ?_ ?_<;>intro hc<;>try exact zxf)))<;>(try clear fct)
   all_goals
    refine rM ?_
    exact ⟨by unfold lineV mayR;rw [if_neg (by rw [hrt];decide),if_pos hr0,if_neg zd],Sep.xt ‹_›⟩
  ·have hl0 : 0 < r.length:=List.length_pos_iff.2 hr0
   (have fct:=@hrt;repeat' (first|refine G.reg fun K hK=>?_|(refine kM ?_;clear hK K)|refine sA ?_|(refine brO_n ?_ ?_<;>intro hb hc<;>first|exact zxf|(simp only [hb];clear hb))|((first|refine zalc ?_|((with_reducible refine gBox ?_);refine zbox ?_));intro gb wb hS)|(refine zcp 85 (checkD_spec d _) ?_;intro wb hS)|(refine G.cn ?_ ?_<;>intro hc<;>try exact zxf)))<;>(try clear fct)
   rename_i g3 _ _ _
   refine G.loop (fun x w'=>∃ (k g3:Nat),k≤r.length∧x 1=v∧x 2=.bool first∧x 3=.pointer (some ⟨g3,0,none⟩)∧x 22=v∧x 23=I r.length∧x 24=I k∧(r.drop k).all validM=r.all validM∧Sep w w' [boxC g3 39 [U d.dl,U d.q,I d.e]]) (fun x _=>r.length - toN (x 24)) ?_ ?_
   ·exact ⟨0,_,Nat.zero_le _,by exact sf,by exact sf,by exact sf,by exact sf,by exact sf,by exact sf,rfl,(Sep.sub hS zw)⟩
   ·clear hS
    rintro u wl ⟨k,g3,hk,q1,q2,q3,q22,q23,q24,hv,hS⟩ ih
    have hm:toN (u 24)=k:=by rw [q24];simp [toN]
    by_cases hkk:(k:Int) < r.length
    ·have hst:=allV_step r k hkk
     have hfk:=hN _ (getD_mem r k hkk)
     rw [hv] at hst
     cases hvk:validM (r.getD k default)
     ·rw [hvk,Bool.false_and] at hst
      (have fct:=(a7 @q1 @q2 @q3 @q22 @q23 @q24 @hvk);repeat' (first|refine G.reg fun K hK=>?_|(refine kM ?_;clear hK K)|refine sA ?_|(refine brO_n ?_ ?_<;>intro hb hc<;>first|exact zxf|(simp only [hb];clear hb))|((first|refine zalc ?_|((with_reducible refine gBox ?_);refine zbox ?_));intro gb wb hS)|(refine zcp 104 (valid_spec _ _ zo) ?_;intro wb hS)|(refine G.cn ?_ ?_<;>intro hc<;>try exact zxf)))<;>(try clear fct)
      all_goals
       (have fct:=(a6 @q1 @q2 @q3 @q22 @q23 @q24);refine rM ?_)
       have hmr:mayR r=14:=by unfold mayR;rw [if_neg hr0,if_neg (show ¬ r.all validM=true by rw [hst];decide)]
       exact ⟨by unfold lineV;rw [if_neg (by rw [hrt];decide),hmr,if_neg zd],Sep.xt ‹_›⟩
     ·rw [hvk,Bool.true_and] at hst
      (have fct:=(a7 @q1 @q2 @q3 @q22 @q23 @q24 @hvk);repeat' (first|refine G.reg fun K hK=>?_|(refine kM ?_;clear hK K)|refine sA ?_|(refine brO_n ?_ ?_<;>intro hb hc<;>first|exact zxf|(simp only [hb];clear hb))|((first|refine zalc ?_|((with_reducible refine gBox ?_);refine zbox ?_));intro gb wb hS)|(refine zcp 104 (valid_spec _ _ zo) ?_;intro wb hS)|(refine G.cn ?_ ?_<;>intro hc<;>try exact zxf)))<;>(try clear fct)
      all_goals
       have fct:=(a6 @q1 @q2 @q3 @q22 @q23 @q24);refine ih _ _ ⟨k+1,g3,by omega,by exact sf,by exact sf,by exact sf,by exact sf,by exact sf,by exact sf,hst.symm,(Sep.sub hS zw)⟩ ?_
       rw [hm];simp only [push_cast,↓reduceIte,zq1,zq2,zq3,zq4,zq5,toN_i,q1,q2,q3,q22,q23,q24];omega
    ·rw [List.drop_eq_nil_of_le zo] at hv
     have hmr:mayR r=0:=by unfold mayR;rw [if_neg hr0,if_pos (show r.all validM=true from hv.symm)]
     (have fct:=(a6 @q1 @q2 @q3 @q22 @q23 @q24);repeat' (first|refine G.reg fun K hK=>?_|(refine kM ?_;clear hK K)|refine sA ?_|(refine brO_n ?_ ?_<;>intro hb hc<;>first|exact zxf|(simp only [hb];clear hb))|((first|refine zalc ?_|((with_reducible refine gBox ?_);refine zbox ?_));intro gb wb hS)|(refine G.cn ?_ ?_<;>intro hc<;>try exact zxf)))<;>(try clear fct)
     all_goals exact ht hrt hmr (by simp only [push_cast,↓reduceIte,zq1,zq2,zq3,zq4,zq5,q1,q2,q3,q22,q23,q24]) (by simp only [push_cast,↓reduceIte,zq1,zq2,zq3,zq4,zq5,q1,q2,q3,q22,q23,q24]) (by simp only [push_cast,↓reduceIte,zq1,zq2,zq3,zq4,zq5,q1,q2,q3,q22,q23,q24]) hS
theorem line_spec (d:Dl) (hd:byD d) (first:Bool) (w:World) (hr:Rd w eS v r) (hN:∀ f∈r,f.length≤1000000) (hl:r.length≤10000):Pu Tryz.prog 69 #[(.agg #[U d.dl,U d.q,I d.e]),v,.bool first] w (lineV d r first):=by
 refine En 61 c69 Tryz.func69 ?_
 change G _ _ _ [.c (wlineV wlineT)] _ _ _
 refine wline_pre d first w hr hN hl ?_
 intro ρ w' g3 hrt hm q1 q2 q3 hS
 have e:lineV d r first=.tuple #[S (lineM d r first),I 0]:=by unfold lineV;rw [if_neg (by rw [hrt];decide),if_pos hm]
 rw [e]
 exact wline_tail d hd hrt first hr hN hl q1 q2 q3 hS
end
end Go.Proofs.YtllanbmpacgigaaGreatDoor
