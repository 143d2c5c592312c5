/- Texts of the proof, joined. -/
import Derived.Test.YtllanbmpacgigaaGreatDoorIT27
import Derived.Test.YtllanbmpacgigaaGreatDoorIW10
import Derived.Test.YtllanbmpacgigaaGreatDoorIS10
namespace Go.Proofs.YtllanbmpacgigaaGreatDoor
open Operand renaming tmp→Y,const→yc
open MC renaming seq→Z,reg→yr,skip→yk,cond→yd
open MO renaming call→yl,bin→yb
open Nat renaming reduceAdd→zq1,reduceLeDiff→zq2,reduceEqDiff→zq3,reduceLT→zq4
open Int renaming reduceToNat→zq5
set_option linter.unusedSimpArgs false
set_option linter.unusedVariables false
attribute [local irreducible] SemK UnitK StK AlcK BslK CallK CallV Instr.box Builtin.append_ Instr.makeSlice Instr.makeMap Instr.lookup Instr.mapUpdate Instr.sliceAt convert
open Go.RowKit
section
variable {s a e:Str}
theorem hsfx_spec (w:World) (hl:s.length=a.length+e.length) (hb:s.length≤1000000000000) (hd:s.drop a.length=e):Pu Tryz.prog 145 #[S s,S e] w (.bool true):=by
 refine En 21 c145 Tryz.func145 ?_
 have hS:=Sep.start w
 have hT:((s.length:Int) - (e.length:Int)).toNat=a.length:=by omega
 have hT2:s.length - a.length=e.length:=by omega
 have hd2:(s.drop a.length).take e.length=e:=by rw [hd,List.take_length]
 (have fct:=(a4 @hT @hT2 @hd @hd2);repeat' (first|refine G.reg fun K hK=>?_|(refine kM ?_;clear hK K)|refine sA ?_|(refine brO_n ?_ ?_<;>intro hb hc<;>first|exact zxf|(simp only [hb];clear hb))))<;>(try clear fct)
 all_goals
  refine rM ?_
  exact Sep.xt ‹_›
def c106:MC:=(Z (yr [qq 4 (.mv (yc (S [])))]) (Z (Z (yr [qm 5 0,qm 6 1,qq 7 (yl 145 [(Y 5),(Y 6)])]) (yd (Y 7) (Z (yr [qm 8 0,qm 9 0,qq 10 (.lenS (Y 9)),qm 11 1,qq 12 (.lenS (Y 11)),qq 13 (yb .sub (Y 10) (Y 12)),qq 14 (.slS (Y 8) none (.some (Y 13))),qm 4 14]) .ret) yk)) (Z (yr [qm 15 0,qm 4 15]) .ret)))
theorem tsuf0_spec (w:World) (hl:s.length=a.length+e.length) (hb:s.length≤1000000000000) (hd:s.drop a.length=e) (ha:s.take a.length=a):Pu Tryz.prog 106 #[S s,S e] w (S a):=by
 refine En 16 c106 Tryz.func106 ?_
 have hS:=Sep.start w
 have hT:((s.length:Int) - (e.length:Int)).toNat=a.length:=by omega
 (have fct:=(aI @hT @ha);repeat' (first|refine G.reg fun K hK=>?_|(refine kM ?_;clear hK K)|refine sA ?_|(refine zcp 145 (hsfx_spec _ hl hb hd) ?_;intro wb hS)|(refine G.cn ?_ ?_<;>intro hc<;>try exact zxf)))<;>(try clear fct)
 all_goals
  refine rM ?_
  exact Sep.xt ‹_›
def c70:MC:=(Z (yr [qq 4 (.mv (yc (S [])))]) (Z (yr [qm 5 0,qm 6 1,qq 7 (yl 106 [(Y 5),(Y 6)]),qm 4 7]) .ret))
theorem tsuf_spec (w:World) (hl:s.length=a.length+e.length) (hb:s.length≤1000000000000) (hd:s.drop a.length=e) (ha:s.take a.length=a):Pu Tryz.prog 70 #[S s,S e] w (S a):=by
 refine En 8 c70 Tryz.func70 ?_
 have hS:=Sep.start w
 repeat' (first|(refine gO ?_;intro K hK)|(refine kP ?_;clear hK K)|(refine hK _ _ ?_ ?_<;>clear hK K)|(intro wd hxd;have hS:=Sep.xx hxd)|refine sA ?_|(refine zalc ?_;intro gb wb hS)|((with_reducible refine gSt ?_);refine zs2 ?_;intro wb hS)|(refine zcp 106 (tsuf0_spec _ hl hb hd ha) ?_;intro wb hS)|(refine G.cn ?_ ?_<;>intro hc<;>try exact zxf))
 all_goals
  refine rM ?_
  exact Sep.xt ‹_›
end
def setE (n:Nat) (k:Int) (i:Int) (r:List Str):Int:=if ¬ (0≤i∧i < n) then 25 else if k≠0 then 23 else mayR r
section
variable {d:Dl} {s:Str} {R:Rs} {SP:List (Nat×Nat)} {w:World} {g:Nat} {v sv rv:Value} {r:List Str}
def c73:MC:=(Z (yr [qq 6 (.mv (yc (.pointer none))),qq 7 (.mv (ki 0))]) (Z (Z (yr [qm 13 0,qm 14 1,qq 15 (yl 102 [(Y 13),(Y 14)]),qq 16 (.un .not (Y 15))]) (yd (Y 16) (Z (yr [qq 6 (.mv (yc (.pointer none))),qq 7 (.mv (ki 25))]) .ret) yk)) (Z (Z (yr [qm 17 0,qq 18 (.nck (Y 17)),qq 19 (.fad 4 (Y 18)),qq 20 (.fad 0 (Y 19)),qq 21 (.ld none (Y 20)),qq 22 (yb .neq (Y 21) (ki 0))]) (yd (Y 22) (Z (yr [qq 6 (.mv (yc (.pointer none))),qq 7 (.mv (ki 23))]) .ret) yk)) (Z (yr [qm 24 0,qq 25 (.nck (Y 24)),qq 26 (.fad 0 (Y 25)),qq 27 (.ld (.some 3) (Y 26)),qm 28 2,qm 29 1,qq 30 (yb .eql (Y 29) (ki 0)),qq 31 (yl 69 [(Y 27),(Y 28),(Y 30)]),qm 23 31,qq 32 (.ext 0 (Y 23)),qq 33 (.ext 1 (Y 23)),qm 8 32,qm 9 33]) (Z (Z (yr [qm 34 9,qq 35 (yb .neq (Y 34) (ki 0))]) (yd (Y 35) (Z (yr [qm 36 9,qq 6 (.mv (yc (.pointer none))),qm 7 36]) .ret) yk)) (Z (yr [qm 37 8,qm 38 0,qq 39 (.nck (Y 38)),qq 40 (.fad 0 (Y 39)),qq 41 (.ld (.some 3) (Y 40)),qq 42 (yl 71 [(Y 41)]),qq 43 (yl 70 [(Y 37),(Y 42)]),qm 8 43]) (Z (yr [qm 44 0,qq 45 (.nck (Y 44)),qq 46 (.fad 7 (Y 45)),qq 47 (.ld none (Y 46)),qm 48 1,qq 49 (.adr 2 (Y 47) (Y 48)),qq 50 (.ld (.some 2) (Y 49)),qq 10 (.alc 161 [(.int .i64 0),(.int .i64 0)]),qn (.st 2 (Y 10) (Y 50))]) (Z (.drg [qm 52 0,qq 53 (.nck (Y 52)),qq 54 (.fad 0 (Y 53)),qq 55 (.ld (.some 3) (Y 54)),qm 56 0,qq 57 (.nck (Y 56)),qq 58 (.fad 3 (Y 57)),qq 59 (.ld none (Y 58)),qq 60 (.fad 0 (Y 10)),qq 61 (.ld none (Y 60)),qq 62 (.slS (Y 59) none (.some (Y 61))),qm 63 8,qq 64 (yb .add (Y 62) (Y 63)),qm 65 0,qq 66 (.nck (Y 65)),qq 67 (.fad 3 (Y 66)),qq 68 (.ld none (Y 67)),qq 69 (.fad 1 (Y 10)),qq 70 (.ld none (Y 69)),qq 71 (.slS (Y 68) (.some (Y 70)) none),qq 72 (yb .add (Y 64) (Y 71)),qq 73 (yl 67 [(Y 55),(Y 72)]),qm 51 73,qq 74 (.ext 0 (Y 51)),qq 75 (.ext 1 (Y 51)),qq 12 (.alc 77 [(.int .i64 0),(.int .i64 0)]),qm 11 74,qn (.st 2 (Y 12) (Y 75))] (.some (.br [qm 52 0,qq 53 (.nck (Y 52)),qq 54 (.fad 0 (Y 53)),qq 55 (.ld (.some 3) (Y 54)),qm 56 0,qq 57 (.nck (Y 56)),qq 58 (.fad 3 (Y 57)),qq 59 (.ld none (Y 58)),qq 60 (.fad 0 (Y 10)),qq 61 (.ld none (Y 60)),qq 62 (.slS (Y 59) none (.some (Y 61))),qm 63 8,qq 64 (yb .add (Y 62) (Y 63)),qm 65 0,qq 66 (.nck (Y 65)),qq 67 (.fad 3 (Y 66)),qq 68 (.ld none (Y 67)),qq 69 (.fad 1 (Y 10)),qq 70 (.ld none (Y 69)),qq 71 (.slS (Y 68) (.some (Y 70)) none),qq 72 (yb .add (Y 64) (Y 71))] (.br [] (.leaf [qq 73 (yl 67 [(Y 55),(Y 72)]),qm 51 73,qq 74 (.ext 0 (Y 51)),qq 75 (.ext 1 (Y 51)),qq 12 (.alc 77 [(.int .i64 0),(.int .i64 0)]),qm 11 74,qn (.st 2 (Y 12) (Y 75))]) (.leaf [qq 12 (.alc 77 [(.int .i64 0),(.int .i64 0)]),qq 73 (yl 67 [(Y 55),(Y 72)]),qm 51 73,qq 74 (.ext 0 (Y 51)),qq 75 (.ext 1 (Y 51)),qm 11 74,qn (.st 2 (Y 12) (Y 75))])) (.leaf [qq 12 (.alc 77 [(.int .i64 0),(.int .i64 0)]),qq 73 (yl 67 [(Y 55),(Y 72)]),qm 51 73,qq 74 (.ext 0 (Y 51)),qq 75 (.ext 1 (Y 51)),qm 11 74,qn (.st 2 (Y 12) (Y 75))])))) (Z (yr [qm 76 11,qm 6 76,qq 7 (.mv (ki 0))]) .ret)))))))))
theorem iset_spec0 (hd:byD d) (hrt:rightD d=true) (hB:Blk w g 156 ([U d.dl,U d.q,I d.e,S s,I R.k,I R.a,v,sv]:List Value).toArray) (hP:Rd w eP sv SP) (hr:Rd w eS rv r) (hN:∀ f∈r,f.length≤1000000) (hl:r.length≤10000) (i:Int) (hE:setE SP.length R.k i r≠0):Pu Tryz.prog 73 #[(.pointer (some ⟨g,0,none⟩)),I i,rv] w (.tuple #[.pointer none,I (setE SP.length R.k i r)]):=by
 refine En 77 c73 Tryz.func73 ?_
 have hS:=Sep.start w
 by_cases hi:0≤i∧i < SP.length
 ·by_cases hk:R.k=0
  ·have e:setE SP.length R.k i r=mayR r:=by unfold setE;rw [if_neg (fun h=>h hi),if_neg (fun h=>h hk)]
   rw [e] at hE ⊢
   have hlv:lineV d r (decide (i=0))=.tuple #[S [],I (mayR r)]:=by unfold lineV;rw [if_neg (by rw [hrt];decide),if_neg hE]
   have hib:(i == 0)=decide (i=0):=rfl
   have hih:decide (0≤i∧i < SP.length)=true:=decide_eq_true hi
   (have fct:=(a4 @hk @hlv @hib @hih);repeat' (first|(refine gO ?_;intro K hK)|(refine kP ?_;clear hK K)|(refine hK _ _ ?_ ?_<;>clear hK K)|(intro wd hxd;have hS:=Sep.xx hxd)|refine sA ?_|(refine zalc ?_;intro gb wb hS)|((with_reducible refine gSt ?_);refine zs2 ?_;intro wb hS)|(refine zcp 102 (ihas_spec hB hP i) ?_;intro wb hS)|(refine zcp 69 (line_spec d hd (decide (i=0)) _ (hr.ext (Sep.xt ‹_›)) hN hl) ?_;intro wb hS)|(refine G.cn ?_ ?_<;>intro hc<;>try exact zxf)))<;>(try clear fct)
   all_goals
    refine rM ?_
    exact Sep.xt ‹_›
  ·have e:setE SP.length R.k i r=23:=by unfold setE;rw [if_neg (fun h=>h hi),if_pos hk]
   rw [e]
   have hih:decide (0≤i∧i < SP.length)=true:=decide_eq_true hi
   (have fct:=@hih;repeat' (first|(refine gO ?_;intro K hK)|(refine kP ?_;clear hK K)|(refine hK _ _ ?_ ?_<;>clear hK K)|(intro wd hxd;have hS:=Sep.xx hxd)|refine sA ?_|(refine zalc ?_;intro gb wb hS)|((with_reducible refine gSt ?_);refine zs2 ?_;intro wb hS)|(refine zcp 102 (ihas_spec hB hP i) ?_;intro wb hS)|(refine G.cn ?_ ?_<;>intro hc<;>try exact zxf)))<;>(try clear fct)
   all_goals
    refine rM ?_
    exact Sep.xt ‹_›
 ·have e:setE SP.length R.k i r=25:=by unfold setE;rw [if_pos hi]
  rw [e]
  have hih:decide (0≤i∧i < SP.length)=false:=decide_eq_false hi
  (have fct:=@hih;repeat' (first|(refine gO ?_;intro K hK)|(refine kP ?_;clear hK K)|(refine hK _ _ ?_ ?_<;>clear hK K)|(intro wd hxd;have hS:=Sep.xx hxd)|refine sA ?_|(refine zalc ?_;intro gb wb hS)|((with_reducible refine gSt ?_);refine zs2 ?_;intro wb hS)|(refine zcp 102 (ihas_spec hB hP i) ?_;intro wb hS)|(refine G.cn ?_ ?_<;>intro hc<;>try exact zxf)))<;>(try clear fct)
  all_goals
   refine rM ?_
   exact Sep.xt ‹_›
set_option maxHeartbeats 1000000 in
theorem iset_spec1 (hd:byD d) (hrt:rightD d=true) (hB:Blk w g 156 ([U d.dl,U d.q,I d.e,S s,I R.k,I R.a,v,sv]:List Value).toArray) (hP:Rd w eP sv SP) (hr:Rd w eS rv r) (hN:∀ f∈r,f.length≤1000000) (hl:r.length≤10000) (i:Nat) (hE:setE SP.length R.k i r=0) (hs:s.length≤150000) (hsp:Spans SP (endR27 R s.length) s.length) (hL:((lineF d r.length (decide (i=0)) 0 r)).length≤500000) {R2:Rs} {SP2:List (Nat×Nat)} (hR:parM d wideL (s.take (SP.getD i default).1++(lineF d r.length (decide (i=0)) 0 r)++s.drop (SP.getD i default).2)=R2) (hSP:spM d (s.take (SP.getD i default).1++(lineF d r.length (decide (i=0)) 0 r)++s.drop (SP.getD i default).2)=SP2) :
 Ret Tryz.prog 73 #[(.pointer (some ⟨g,0,none⟩)),I i,rv] w fun res w'=>∃ g2 v2 vs2 sv2,res=.tuple #[.pointer (some ⟨g2,0,none⟩),I 0]∧vs2.length=R2.rs.length ∧
  Sep w w' [boxC g2 156 [U d.dl,U d.q,I d.e,S (s.take (SP.getD i default).1++(lineF d r.length (decide (i=0)) 0 r)++s.drop (SP.getD i default).2),I R2.k,I R2.a,v2,sv2],accC sv2 161 eP SP2,accC v2 22 eV vs2,frzC eS vs2 (R2.rs.map Prod.fst)]:=by
 refine En 77 c73 Tryz.func73 ?_
 have hS:=Sep.start w
 unfold setE at hE
 split at hE
 ·simp at hE
 rename_i hi
 rw [Classical.not_not] at hi
 split at hE
 ·simp at hE
 rename_i hk
 rw [Ne,Classical.not_not] at hk
 have hlv:lineV d r (decide (i=0))=.tuple #[S (lineM d r (decide (i=0))),I 0]:=by unfold lineV;rw [if_neg (by rw [hrt];decide),if_pos hE]
 have hib:((i:Int) == 0)=decide (i=0):=by rw [Bool.eq_iff_iff];simp
 have hib2:decide ((i:Int)=0)=decide (i=0):=by rw [Bool.eq_iff_iff];simp
 have hih:decide (0≤(i:Int)∧(i:Int) < SP.length)=true:=decide_eq_true hi
 have hin:i < SP.length:=by omega
 have hel:(endM d).length≤2:=by unfold endM;split<;>simp
 have hp:=fun w=>inew_spec1 d (s.take (SP.getD i default).1++(lineF d r.length (decide (i=0)) 0 r)++s.drop (SP.getD i default).2) w (by simp only [List.length_append,List.length_take,List.length_drop];omega) hrt hR hSP
 have hq:=fun w=>tsuf_spec (s:=lineM d r (decide (i=0))) (a:=(lineF d r.length (decide (i=0)) 0 r)) (e:=endM d) w (by unfold lineM;rw [List.length_append]) (by unfold lineM;rw [List.length_append];omega) (by unfold lineM;simp) (by unfold lineM;simp)
 have hb1:(SP.getD i default).1≤(SP.getD i default).2∧(SP.getD i default).2≤s.length:=⟨(hsp.one i hin).1,Nat.le_trans (hsp.one i hin).2 hsp.hn⟩
 obtain ⟨hb1,hb2⟩:=hb1
 have hbd:=hP.bd
 generalize hLL:(lineF d r.length (decide (i=0)) 0 r)=L at *
 (have fct:=(a5 @hk @hlv @hib @hib2 @hih);repeat' (first|(refine gO ?_;intro K hK)|(refine kP ?_;clear hK K)|(refine hK _ _ ?_ ?_<;>clear hK K)|(intro wd hxd;have hS:=Sep.xx hxd)|refine sA ?_|(refine zalc ?_;intro gb wb hS)|((with_reducible refine gSt ?_);refine zs2 ?_;intro wb hS)|(with_reducible refine aI (a:=OT _ _ _ _ _) (b:=OT _ _ _ _ _) ?_ ?_)|(refine zcp 102 (ihas_spec hB hP i) ?_;intro wb hS)|(refine zcp 69 (line_spec d hd (decide (i=0)) _ (hr.ext (Sep.xt ‹_›)) hN hl) ?_;intro wb hS)|(refine zcp 71 (dend_spec d hrt _) ?_;intro wb hS)|(refine zcp 70 (hq _) ?_;intro wb hS)|(refine zco 67 (hp _) ?_;rintro vb wb ⟨g2,v2,vs2,sv2,rfl,hvl,hS2⟩;have hS:=hS2.ap;simp only [apps] at hS)|(refine G.cn ?_ ?_<;>intro hc<;>try exact zxf)))<;>(try clear fct)
 all_goals
  refine rM ?_
  exact ⟨_,_,_,_,rfl,hvl,(Sep.sub hS zw)⟩
end
end Go.Proofs.YtllanbmpacgigaaGreatDoor
