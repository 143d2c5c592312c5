/- Texts of the proof, joined. -/
import Derived.Test.YtllanbmpacgigaaGreatDoorIU30
import Derived.Test.YtllanbmpacgigaaGreatDoorIP26
namespace Go.Proofs.YtllanbmpacgigaaGreatDoor
open Operand renaming tmp→Y,const→yc
open MC renaming seq→Z,reg→yr,skip→yk,cond→yd
open MO renaming call→yl,bin→yb
open Nat renaming reduceAdd→zq1,reduceLeDiff→zq2,reduceEqDiff→zq3,reduceLT→zq4
open Int renaming reduceToNat→zq5
set_option linter.unusedSimpArgs false
set_option linter.unusedVariables false
attribute [local irreducible] SemK UnitK StK AlcK BslK CallK CallV Instr.box Builtin.append_ Instr.makeSlice Instr.makeMap Instr.lookup Instr.mapUpdate Instr.sliceAt convert
open Go.RowKit
noncomputable def bestK (s:Str):Gs:=@dite _ (∃ g,IsBest s g) (Classical.propDecidable _) (fun h=>Classical.choose h) (fun _=>default)
theorem bestK_eq {s:Str} {g:Gs} (h:IsBest s g):bestK s=g:=by
 have he:∃ g,IsBest s g:=⟨g,h⟩
 unfold bestK
 rw [dif_pos he]
 exact best_one (Classical.choose_spec he) h
theorem bestK_ok {s:Str} {g:Gs} (h:IsBest s g):rightD g.d=true∧byD g.d∧0≤g.sc∧g.sc≤4000000000000:=by
 have h1:=h.1
 unfold gsL at h1
 obtain ⟨d,hd,e⟩:=List.mem_map.1 h1
 have h2:=(gs_bd s).2 g h.1
 have h3:=tried_right d hd
 rw [←e] at h2 ⊢
 exact ⟨h3.1,h3.2,h2⟩
section
variable {g r:Nat} {d:Dl} {lv:Value} {M:List Chk} {w w0:World}
def c82:MC:=(Z (yr [qq 4 (.mv (yc (S []))),qq 5 (.mv (ki 0))]) (Z (yr [qm 11 1,qq 12 (yl 119 [(Y 11)]),qm 10 12,qq 13 (.ext 0 (Y 10)),qq 14 (.ext 1 (Y 10)),qq 6 (.alc 179 [(.int .u8 0),(.int .u8 0),(.int .i64 0),(.int .i64 0)]),qn (.st 4 (Y 6) (Y 13)),qm 7 14]) (Z (Z (yr [qm 15 7,qq 16 (.un .not (Y 15))]) (yd (Y 16) (Z (yr [qq 4 (.mv (yc (S []))),qq 5 (.mv (ki 25))]) .ret) yk)) (Z (yr [qq 18 (.fad 0 (Y 6)),qq 19 (.ld (.some 3) (Y 18)),qq 20 (yl 120 [(Y 19)]),qm 17 20,qq 21 (.ext 0 (Y 17)),qq 22 (.ext 1 (Y 17)),qm 8 21,qm 9 22]) (Z (Z (yr [qm 23 9,qq 24 (yb .neq (Y 23) (ki 0))]) (yd (Y 24) (Z (yr [qm 25 9,qq 4 (.mv (yc (S []))),qm 5 25]) .ret) yk)) (Z (yr [qm 26 0,qq 27 (.fad 0 (Y 6)),qq 28 (.ld (.some 3) (Y 27)),qq 29 (.nck (Y 26)),qq 30 (.fad 0 (Y 29)),qn (.st 3 (Y 30) (Y 28))]) (Z (yr [qm 31 8,qq 32 (yb .add (Y 31) (yc (S [32]))),qq 33 (.fad 3 (Y 6)),qq 34 (.ld none (Y 33)),qq 35 (yl 30 [(Y 34)]),qq 36 (yb .add (Y 32) (Y 35)),qm 4 36,qq 5 (.mv (ki 0))]) .ret)))))))
set_option maxHeartbeats 1000000 in
theorem vsniff_spec (s:Str) (hs:s.length≤100000) (hT:Tab w0) (hS:Sep w0 w (boxC g 55 [U d.dl,U d.q,I d.e,lv,.map (some r)] :: M)) :
 Ret Tryz.prog 82 #[(.pointer (some ⟨g,0,none⟩)),S s] w fun res w'=>if 0 < (bestK s).sc then res=.tuple #[S (txD (bestK s).d++[32]++Lib.itoa (bestK s).sc),I 0]∧Sep w0 w' (boxC g 55 [U (bestK s).d.dl,U (bestK s).d.q,I (bestK s).d.e,lv,.map (some r)] :: M) else res=.tuple #[S [],I 25]∧Sep w0 w' (boxC g 55 [U d.dl,U d.q,I d.e,lv,.map (some r)] :: M):=by
 refine En 37 c82 Tryz.func82 ?_
 have hb:∀ w,Ret Tryz.prog 119 #[S s] w fun res w'=>(IsBest s (bestK s))∧res=.tuple #[.agg #[U (bestK s).d.dl,U (bestK s).d.q,I (bestK s).d.e,I (bestK s).sc],.bool (decide (0 < (bestK s).sc))]∧Ext w w':=fun w=>(best_spec s w hs).mono fun v w' ⟨b,h1,h2,h3⟩=>by
  rw [bestK_eq h1];exact ⟨h1,h2,h3⟩
 generalize bestK s=b at *
 by_cases h0:0 < b.sc
 ·have hdc:decide (0 < b.sc)=true:=decide_eq_true h0
  simp only [if_pos h0]
  (have fct:=@hdc;repeat' (first|refine G.reg fun K hK=>?_|(refine kM ?_;clear hK K)|refine sA ?_|(refine zalc ?_;intro gb wb hS)|((with_reducible refine gSt ?_);refine zs2 ?_;intro wb hS)|((with_reducible (show CallK _ 119 _ _ _ _ _));refine zco 119 (hb _) ?_;rintro vc wb ⟨hib,rfl,hx⟩;have hS:=Sep.xx hx;obtain ⟨b1,b2,b3,b4⟩:=bestK_ok hib;have hil:=itoa_ln b.sc zo zo;have htl:=txD_len b.d)|(refine zcp 120 (dtext_spec b.d b2 b1 _) ?_;intro wb hS)|(refine zcp 30 (itoa_spec b.sc _ zo zo (hT.ext (Sep.xt ‹_›))) ?_;intro wb hS)|(refine G.cn ?_ ?_<;>intro hc<;>try exact zxf)))<;>(try clear fct)
  all_goals
   refine rM ?_
   first|exact (Sep.sub hS zw)|exact ⟨rfl,(Sep.sub hS zw)⟩
 ·have hdc:decide (0 < b.sc)=false:=decide_eq_false h0
  simp only [if_neg h0]
  (have fct:=@hdc;repeat' (first|refine G.reg fun K hK=>?_|(refine kM ?_;clear hK K)|refine sA ?_|(refine zalc ?_;intro gb wb hS)|((with_reducible refine gSt ?_);refine zs2 ?_;intro wb hS)|((with_reducible (show CallK _ 119 _ _ _ _ _));refine zco 119 (hb _) ?_;rintro vc wb ⟨hib,rfl,hx⟩;have hS:=Sep.xx hx;obtain ⟨b1,b2,b3,b4⟩:=bestK_ok hib;have hil:=itoa_ln b.sc zo zo;have htl:=txD_len b.d)|(refine G.cn ?_ ?_<;>intro hc<;>try exact zxf)))<;>(try clear fct)
  all_goals
   refine rM ?_
   first|exact (Sep.sub hS zw)|exact ⟨rfl,(Sep.sub hS zw)⟩
end
end Go.Proofs.YtllanbmpacgigaaGreatDoor
