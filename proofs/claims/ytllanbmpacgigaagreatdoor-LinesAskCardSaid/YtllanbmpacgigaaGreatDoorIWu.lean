/- Texts of the proof, joined. -/
import Derived.Test.YtllanbmpacgigaaGreatDoorIS10
import Derived.Test.YtllanbmpacgigaaGreatDoorIW10
namespace Go.Proofs.YtllanbmpacgigaaGreatDoor
open Operand renaming tmp→Y,const→yc
open MC renaming seq→Z,reg→yr,skip→yk,cond→yd
open MO renaming call→yl,bin→yb
open Nat renaming reduceAdd→zq1,reduceLeDiff→zq2,reduceEqDiff→zq3,reduceLT→zq4
open Int renaming reduceToNat→zq5
set_option linter.unusedSimpArgs false
set_option linter.unusedVariables false
attribute [local irreducible] SemK UnitK StK AlcK BslK CallK CallV Instr.box Builtin.append_ Instr.makeSlice Instr.makeMap Instr.lookup Instr.mapUpdate Instr.sliceAt convert
open Go.RowKit
def frN:List (List Str)→Nat
 | []=>0
 | r :: t=>if mayR r=0 then frN t+1 else 0
def wtV (d:Dl) (t:List (List Str)):Value:=if frN t=t.length then .tuple #[S (txtF d true t),I t.length,I 0] else .tuple #[S [],I (frN t),I (mayR (t.getD (frN t) default))]
def TabB (A N:Nat) (t:List (List Str)):Prop:=∀ r∈t,r.length≤A∧∀ f∈r,f.length≤N
def c118l1:MC:=(Z (yr [qq 21 (yb .lss (Y 20) (Y 19))]) (Z (yd (Y 21) yk (.exit 0)) (Z (.blk 1 (Z (yr [qm 22 20,qq 23 (.adr 1 (Y 18) (Y 20)),qq 24 (.ld none (Y 23)),qm 9 22,qm 10 24]) (Z (yr [qq 26 (.ld (.some 3) (Y 2)),qm 27 10,qm 28 9,qq 29 (yb .eql (Y 28) (ki 0)),qq 30 (yl 69 [(Y 26),(Y 27),(Y 29)]),qm 25 30,qq 31 (.ext 0 (Y 25)),qq 32 (.ext 1 (Y 25)),qm 11 31,qm 12 32]) (Z (Z (yr [qm 33 12,qq 34 (yb .neq (Y 33) (ki 0))]) (yd (Y 34) (Z (yr [qm 35 9,qm 36 12,qq 4 (.mv (yc (S []))),qm 5 35,qm 6 36]) .ret) yk)) (yr [qm 37 11,qq 38 (yl 34 [(Y 8),(Y 37)])]))))) (yr [qq 39 (yb .add (Y 20) (ki 1)),qm 20 39]))))
def c118:MC:=(Z (yr [qq 2 (.raw (.box 39 (Y 0)) 0),qq 4 (.mv (yc (S []))),qq 5 (.mv (ki 0)),qq 6 (.mv (ki 0))]) (Z (Z (yr [qq 13 (.ld (.some 3) (Y 2)),qq 14 (yl 85 [(Y 13)]),qm 7 14]) (Z (yr [qm 15 7,qq 16 (yb .neq (Y 15) (ki 0))]) (yd (Y 16) (Z (yr [qm 17 7,qq 4 (.mv (yc (S []))),qq 5 (.mv (ki 0)),qm 6 17]) .ret) yk))) (Z (yr [qq 8 (.alc 67 [(.pointer none),(.slice none 0 0)])]) (Z (Z (yr [qm 18 1,qq 19 (.len (Y 18)),qq 20 (.mv (ki 0))]) (.blk 0 (.loop c118l1))) (Z (yr [qq 40 (yl 36 [(Y 8)]),qm 41 1,qq 42 (.len (Y 41)),qm 4 40,qm 5 42,qq 6 (.mv (ki 0))]) .ret)))))
def wtbV (T:MC):MC:=match c118 with
 | .seq a (.seq b (.seq c _))=>.seq a (.seq b (.seq c T))
 | _=>.skip
def wtbT:MC:=match c118 with
 | .seq _ (.seq _ (.seq _ T))=>T
 | _=>.skip
set_option maxHeartbeats 1000000 in
theorem wtb_tail {n:Nat} {ρ:Fr} {w w':World} {g2 g8:Nat} {v:Value} {t:List (List Str)} (d:Dl) (hd:byD d) (hrt:rightD d=true) (hr:RdT w eS v t) (h:TabB 2100 2100 t) (htl:t.length≤2100) (q1:ρ 1=v) (q2:ρ 2=.pointer (some ⟨g2,0,none⟩)) (q8:ρ 8=.pointer (some ⟨g8,0,none⟩)) (hS:Sep w w' [boxC g8 67 [.pointer none,.slice none 0 0],boxC g2 39 [U d.dl,U d.q,I d.e]]) :
 G Tryz.prog Tryz.f118 n [.c wtbT] (fun res w'=>res=wtV d t∧Ext w w') ρ w':=by
 unfold wtbT c118
 dsimp only
 obtain ⟨vs,hv,hl,hrow⟩:=hr
 have hbd:=hv.bd
 (have fct:=(a3 @q1 @q2 @q8);repeat' (first|refine G.reg fun K hK=>?_|(refine kM ?_;clear hK K)|refine sA ?_|((first|refine zalc ?_|((with_reducible refine gBox ?_);refine zbox ?_));intro gb wb hS)|(refine G.cn ?_ ?_<;>intro hc<;>try exact zxf)))<;>(try clear fct)
 have hS:=hS.newB 5
 refine G.loop (fun x w'=>∃ (k gB:Nat),k≤t.length∧frN t=k+frN (t.drop k)∧x 1=v∧x 2=.pointer (some ⟨g2,0,none⟩)∧x 8=.pointer (some ⟨gB,0,none⟩)∧x 18=v∧x 19=I vs.length∧x 20=I k∧Sep w w' [bldC gB 67 5 (txtF d true (t.take k)),boxC g2 39 [U d.dl,U d.q,I d.e]]) (fun x _=>t.length - toN (x 20)) ?_ ?_
 ·exact ⟨0,g8,Nat.zero_le _,by rw [Nat.zero_add];rfl,by simp only [push_cast,↓reduceIte,zq1,zq2,zq3,zq4,zq5,q1],by simp only [push_cast,↓reduceIte,zq1,zq2,zq3,zq4,zq5,q2],by simp only [push_cast,↓reduceIte,zq1,zq2,zq3,zq4,zq5,q8],by simp only [push_cast,↓reduceIte,zq1,zq2,zq3,zq4,zq5,q1],by simp only [push_cast,↓reduceIte,zq1,zq2,zq3,zq4,zq5,q1],by simp only [push_cast,↓reduceIte,zq1,zq2,zq3,zq4,zq5]<;>rfl,hS⟩
 ·clear hS q1 q2 q8
  rintro u wl ⟨k,gB,hk,hfr,q1,q2,q8,q18,q19,q20,hS⟩ ih
  have hm:toN (u 20)=k:=by rw [q20];simp [toN]
  have hb1:=txt_len d 2100 2100 (t.take k) true fun r hr=>h r (List.mem_of_mem_take hr)
  have hb3:(t.take k).length≤2100:=by rw [List.length_take];omega
  have hb4:(txtF d true (t.take k)).length≤30000000000:=Nat.le_trans hb1 (by
   have:=Nat.mul_le_mul_right (2100 * (2 * 2100+3)+2) hb3
   omega)
  clear hb1
  by_cases hlt:(k:Int) < t.length
  ·have hlv:(k:Int) < vs.length:=by omega
   obtain ⟨h2,h3⟩:=h _ (getD_mem t k hlt)
   rw [dropD t k zo,frN] at hfr
   have hst:txtF d true (t.take (k+1))=txtF d true (t.take k)++lineM d (t.getD k default) (true && decide (k=0)):=by
    rw [takeD t k hlt,txtF_snoc,List.length_take,show min k t.length=k from by omega]
   have hb2:(lineM d (t.getD k default) (true && decide (k=0))).length≤30000000:=by
    have:=txt_len d 2100 2100 [t.getD k default] (true && decide (k=0)) fun r hr=>by rw [List.mem_singleton.1 hr];exact ⟨h2,h3⟩
    simp only [txtF,List.append_nil,List.length_cons,List.length_nil] at this
    omega
   have hk0:((k:Int) == 0)=(true && decide (k=0)):=by rw [Bool.eq_iff_iff];simp
   have hln:∀ {w2:World},Ext w w2→Pu Tryz.prog 69 #[(.agg #[U d.dl,U d.q,I d.e]),vs.getD k default,.bool (true && decide (k=0))] w2 (.tuple #[S (if mayR (t.getD k default)=0 then lineM d (t.getD k default) (true && decide (k=0)) else []),I (mayR (t.getD k default))]):=fun {w2} hx=>by
    have hz:=line_spec d hd (true && decide (k=0)) w2 (v:=vs.getD k default) (r:=t.getD k default) ((hrow k zo).ext hx) (fun f hf=>Nat.le_trans (h3 f hf) zd) zo
    have e:lineV d (t.getD k default) (true && decide (k=0))=.tuple #[S (if mayR (t.getD k default)=0 then lineM d (t.getD k default) (true && decide (k=0)) else []),I (mayR (t.getD k default))]:=by
     unfold lineV;rw [if_neg (by rw [hrt];decide)]
     split
     ·rename_i h1;rw [h1]
     ·rfl
    rw [e] at hz
    exact hz
   generalize lineM d (t.getD k default) (true && decide (k=0))=ln at *
   generalize (true && decide (k=0))=fb at *
   generalize txtF d true (t.take k)=tx at *
   by_cases h1:mayR (t.getD k default)=0
   ·rw [if_pos h1] at hfr
    have hfr2:frN t=k+1+frN (t.drop (k+1)):=by omega
    clear hfr
    (have fct:=(a8 @q1 @q2 @q8 @q18 @q19 @q20 @hk0 @h1);repeat' (first|refine G.reg fun K hK=>?_|(refine kM ?_;clear hK K)|refine sA ?_|((first|refine zalc ?_|((with_reducible refine gBox ?_);refine zbox ?_));intro gb wb hS)|(refine zcp 69 (hln (Sep.xt ‹_›)) ?_;intro wb hS)|((with_reducible (show CallK _ 34 _ _ _ _ _));refine zco 34 (bws_spec hS zr (by first|omega|(simp only [lens];omega)) (by first|omega|(simp only [lens];omega))) ?_;rintro vb wb ⟨rfl,hS⟩)|(refine G.cn ?_ ?_<;>intro hc<;>try exact zxf)))<;>(try clear fct)
    all_goals
     rw [←hst] at hS
     have fct:=(a6 @q1 @q2 @q8 @q18 @q19 @q20);refine ih _ _ ⟨k+1,gB,by omega,hfr2,by exact sf,by exact sf,by exact sf,by exact sf,by exact sf,by exact sf,(Sep.sub hS (by repeat first|exact Sub.rfl'|exact Sub.n|exact Sub.nil0|(refine Sub.c zr ?_)|refine Sub.skip ?_))⟩ ?_
     rw [hm];simp only [push_cast,↓reduceIte,zq1,zq2,zq3,zq4,zq5,toN_i,q1,q2,q8,q18,q19,q20];omega
   ·rw [if_neg h1,Nat.add_zero] at hfr
    have e:wtV d t=.tuple #[S [],I k,I (mayR (t.getD k default))]:=by unfold wtV;rw [if_neg zo,hfr]
    (have fct:=(a8 @q1 @q2 @q8 @q18 @q19 @q20 @hk0 @h1);repeat' (first|refine G.reg fun K hK=>?_|(refine kM ?_;clear hK K)|refine sA ?_|((first|refine zalc ?_|((with_reducible refine gBox ?_);refine zbox ?_));intro gb wb hS)|(refine zcp 69 (hln (Sep.xt ‹_›)) ?_;intro wb hS)|((with_reducible (show CallK _ 34 _ _ _ _ _));refine zco 34 (bws_spec hS zr (by first|omega|(simp only [lens];omega)) (by first|omega|(simp only [lens];omega))) ?_;rintro vb wb ⟨rfl,hS⟩)|(refine G.cn ?_ ?_<;>intro hc<;>try exact zxf)))<;>(try clear fct)
    all_goals
     (have fct:=(a6 @q1 @q2 @q8 @q18 @q19 @q20);refine rM ?_)
     exact ⟨e.symm,Sep.xt ‹_›⟩
  ·have hta:t.take k=t:=List.take_of_length_le zo
   have e:wtV d t=.tuple #[S (txtF d true t),I t.length,I 0]:=by unfold wtV;rw [if_pos (by rw [hfr,List.drop_eq_nil_of_le zo];simp only [frN];omega)]
   rw [hta] at hS
   (have fct:=(a6 @q1 @q2 @q8 @q18 @q19 @q20);repeat' (first|refine G.reg fun K hK=>?_|(refine kM ?_;clear hK K)|refine sA ?_|((first|refine zalc ?_|((with_reducible refine gBox ?_);refine zbox ?_));intro gb wb hS)|((with_reducible (show CallK _ 36 _ _ _ _ _));refine zco 36 (bst_spec hS zr) ?_;rintro vb wb ⟨rfl,hS⟩)|(refine G.cn ?_ ?_<;>intro hc<;>try exact zxf)))<;>(try clear fct)
   all_goals
    (have fct:=(a6 @q1 @q2 @q8 @q18 @q19 @q20);refine rM ?_)
    exact ⟨by rw [e,hl],Sep.xt ‹_›⟩
theorem wtb_spec {v:Value} {t:List (List Str)} {w:World} (d:Dl) (hd:byD d) (hrt:rightD d=true) (hr:RdT w eS v t) (h:TabB 2100 2100 t) (htl:t.length≤2100):Pu Tryz.prog 118 #[(.agg #[U d.dl,U d.q,I d.e]),v] w (wtV d t):=by
 refine En 43 c118 Tryz.func118 ?_
 change G _ _ _ [.c (wtbV wtbT)] _ _ _
 have key:∀ (n:Nat) (TT:MC),(∀ {ρ:Fr} {w':World} {g2 g8:Nat},ρ 1=v→ρ 2=.pointer (some ⟨g2,0,none⟩)→ρ 8=.pointer (some ⟨g8,0,none⟩)→Sep w w' [boxC g8 67 [.pointer none,.slice none 0 0],boxC g2 39 [U d.dl,U d.q,I d.e]]→G Tryz.prog Tryz.f118 n [.c TT] (fun res w'=>res=wtV d t∧Ext w w') ρ w')→G Tryz.prog Tryz.f118 n [.c (wtbV TT)] (fun res w'=>res=wtV d t∧Ext w w') (frL 0 [(.agg #[U d.dl,U d.q,I d.e]),v]) w:=by
  intro n TT ht
  unfold wtbV c118
  dsimp only
  have hS:=Sep.start w
  (have fct:=@hrt;repeat' (first|refine G.reg fun K hK=>?_|(refine kM ?_;clear hK K)|refine sA ?_|((first|refine zalc ?_|((with_reducible refine gBox ?_);refine zbox ?_));intro gb wb hS)|(refine zcp 85 (checkD_spec d _) ?_;intro wb hS)|(refine G.cn ?_ ?_<;>intro hc<;>try exact zxf)))<;>(try clear fct)
  all_goals exact ht (by simp only [push_cast,↓reduceIte,zq1,zq2,zq3,zq4,zq5]) (by simp only [push_cast,↓reduceIte,zq1,zq2,zq3,zq4,zq5]) (by simp only [push_cast,↓reduceIte,zq1,zq2,zq3,zq4,zq5]<;>rfl) hS
 exact key _ wtbT fun q1 q2 q8 hS=>wtb_tail d hd hrt hr h htl q1 q2 q8 hS
end Go.Proofs.YtllanbmpacgigaaGreatDoor
