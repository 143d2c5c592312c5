/- Texts of the proof, joined. -/
import Derived.Test.YtllanbmpacgigaaGreatDoorDQ30
import Derived.Test.YtllanbmpacgigaaGreatDoorDC26
namespace Go.Proofs.YtllanbmpacgigaaGreatDoor
open Nat renaming reduceAdd→zq1,reduceLeDiff→zq2,reduceEqDiff→zq3,reduceLT→zq4
open Int renaming reduceToNat→zq5
set_option linter.unusedSimpArgs false
set_option linter.unusedVariables false
attribute [local irreducible] SemK UnitK StK AlcK BslK CallK CallV Instr.box Builtin.append_ Instr.makeSlice Instr.makeMap Instr.lookup Instr.mapUpdate Instr.sliceAt convert
open Go.RowKit
def c7l1:MC:=(.seq (.reg [qq 24 (.bin .lss (.tmp 23) (.tmp 22))]) (.seq (.cond (.tmp 24) .skip (.exit 0)) (.seq (.blk 1 (.seq (.reg [qq 25 (.adr 1 (.tmp 21) (.tmp 23)),qq 26 (.ld none (.tmp 25)),qm 6 26]) (.seq (.reg [qm 27 6,qq 28 (.call 23 [(.tmp 27)]),qq 29 (.bin .neq (.tmp 28) (ki 0))]) (.cond (.tmp 29) (.seq (.reg [qq 30 (.call 22 []),qm 4 30]) .ret) .skip)))) (.reg [qq 31 (.bin .add (.tmp 23) (ki 1)),qm 23 31]))))
def c7l2:MC:=(.seq (.reg [qq 70 (.bin .lss (.tmp 69) (.tmp 68))]) (.seq (.cond (.tmp 70) .skip (.exit 2)) (.seq (.blk 3 (.seq (.reg [qm 71 69,qq 72 (.adr 1 (.tmp 67) (.tmp 69)),qq 73 (.ld none (.tmp 72)),qm 8 71,qm 9 73]) (.seq (.reg [qq 74 (.ld (.some 3) (.tmp 2)),qq 75 (.call 21 [(.tmp 74)]),qm 76 9,qq 77 (.call 27 [(.tmp 75),(.tmp 76),(ki 0)]),qm 10 77]) (.seq (.drg [qm 78 7,qm 79 8,qq 80 (.call 26 [(.tmp 79)]),qq 81 (.bin .add (.const (S [103,101,116,32,120,32])) (.tmp 80)),qq 82 (.call 11 [(.tmp 78),(.tmp 81)]),qm 83 10,qm 84 10,qq 85 (.lenS (.tmp 84)),qq 86 (.ld (.some 3) (.tmp 2)),qq 87 (.call 21 [(.tmp 86)]),qq 88 (.call 28 [(.tmp 87)]),qq 89 (.lenS (.tmp 88)),qq 90 (.bin .sub (.tmp 85) (.tmp 89)),qq 91 (.slS (.tmp 83) none (.some (.tmp 90))),qq 92 (.call 15 [(.tmp 91)]),qq 93 (.bin .neq (.tmp 82) (.tmp 92))] (.some (.br [qm 78 7,qm 79 8,qm 83 10,qm 84 10,qq 85 (.lenS (.tmp 84))] (.br [qq 80 (.call 26 [(.tmp 79)]),qq 81 (.bin .add (.const (S [103,101,116,32,120,32])) (.tmp 80))] (.leaf [qq 82 (.call 11 [(.tmp 78),(.tmp 81)]),qq 86 (.ld (.some 3) (.tmp 2)),qq 87 (.call 21 [(.tmp 86)]),qq 88 (.call 28 [(.tmp 87)]),qq 89 (.lenS (.tmp 88)),qq 90 (.bin .sub (.tmp 85) (.tmp 89)),qq 91 (.slS (.tmp 83) none (.some (.tmp 90))),qq 92 (.call 15 [(.tmp 91)]),qq 93 (.bin .neq (.tmp 82) (.tmp 92))]) (.leaf [qq 86 (.ld (.some 3) (.tmp 2)),qq 82 (.call 11 [(.tmp 78),(.tmp 81)]),qq 87 (.call 21 [(.tmp 86)]),qq 88 (.call 28 [(.tmp 87)]),qq 89 (.lenS (.tmp 88)),qq 90 (.bin .sub (.tmp 85) (.tmp 89)),qq 91 (.slS (.tmp 83) none (.some (.tmp 90))),qq 92 (.call 15 [(.tmp 91)]),qq 93 (.bin .neq (.tmp 82) (.tmp 92))])) (.leaf [qq 86 (.ld (.some 3) (.tmp 2)),qq 80 (.call 26 [(.tmp 79)]),qq 81 (.bin .add (.const (S [103,101,116,32,120,32])) (.tmp 80)),qq 82 (.call 11 [(.tmp 78),(.tmp 81)]),qq 87 (.call 21 [(.tmp 86)]),qq 88 (.call 28 [(.tmp 87)]),qq 89 (.lenS (.tmp 88)),qq 90 (.bin .sub (.tmp 85) (.tmp 89)),qq 91 (.slS (.tmp 83) none (.some (.tmp 90))),qq 92 (.call 15 [(.tmp 91)]),qq 93 (.bin .neq (.tmp 82) (.tmp 92))])))) (.cond (.tmp 93) (.seq (.reg [qq 4 (.mv (kb false))]) .ret) .skip))))) (.reg [qq 94 (.bin .add (.tmp 69) (ki 1)),qm 69 94]))))
def c7:MC:=(.seq (.reg [qq 2 (.raw (.box 39 (.tmp 0)) 0),qq 4 (.mv (kb false))]) (.seq (.seq (.reg [qm 11 1,qq 12 (.call 19 [(.tmp 11)]),qq 13 (.un .not (.tmp 12)),qm 14 13,qf 14 15 (.ld (.some 3) (.tmp 2)),qf 14 16 (.call 21 [(.tmp 15)]),qf 14 17 (.call 20 [(.tmp 16)]),qf 14 18 (.un .not (.tmp 17)),qq 19 (.pick (.tmp 14) (kb true) (.tmp 18))]) (.cond (.tmp 19) (.seq (.reg [qq 20 (.call 22 []),qm 4 20]) .ret) .skip)) (.seq (.seq (.reg [qm 21 1,qq 22 (.len (.tmp 21)),qq 23 (.mv (ki 0))]) (.blk 0 (.loop c7l1))) (.seq (.reg [qq 32 (.call 10 []),qm 7 32]) (.seq (.seq (.reg [qm 33 7,qq 34 (.raw (.binOp .eql 25 (.tmp 33) (.const (.pointer none)) 25) 4),qm 35 34,qmf 35 36 7,qf 35 37 (.ld (.some 3) (.tmp 2)),qf 35 38 (.call 21 [(.tmp 37)]),qf 35 39 (.call 24 [(.tmp 38)]),qf 35 40 (.bin .add (.const (S [100,105,97,108,101,99,116,32])) (.tmp 39)),qf 35 41 (.call 11 [(.tmp 36),(.tmp 40)]),qf 35 42 (.bin .neq (.tmp 41) (.const (S [111,107]))),qq 43 (.pick (.tmp 35) (kb true) (.tmp 42)),qm 44 43,qmf 44 45 7,qf 44 46 (.ld (.some 3) (.tmp 2)),qf 44 47 (.call 21 [(.tmp 46)]),qmf 44 48 1,qf 44 49 (.call 25 [(.tmp 47),(.tmp 48)]),qf 44 50 (.call 15 [(.tmp 49)]),qf 44 51 (.bin .add (.const (S [112,117,116,32,120,32])) (.tmp 50)),qf 44 52 (.call 11 [(.tmp 45),(.tmp 51)]),qf 44 53 (.bin .neq (.tmp 52) (.const (S [111,107]))),qq 54 (.pick (.tmp 44) (kb true) (.tmp 53))]) (.cond (.tmp 54) (.seq (.reg [qq 4 (.mv (kb false))]) .ret) .skip)) (.seq (.seq (.reg [qm 55 7,qq 56 (.call 11 [(.tmp 55),(.const (S [99,104,101,99,107,32,120]))]),qm 57 1,qq 58 (.len (.tmp 57)),qq 59 (.call 26 [(.tmp 58)]),qq 60 (.bin .add (.const (S [114,101,99,111,114,100,115,32])) (.tmp 59)),qq 61 (.bin .neq (.tmp 56) (.tmp 60)),qm 62 61,qmf 62 63 7,qf 62 64 (.call 11 [(.tmp 63),(.const (S [112,108,97,105,110,32,120]))]),qf 62 65 (.bin .neq (.tmp 64) (.const (S [111,107]))),qq 66 (.pick (.tmp 62) (kb true) (.tmp 65))]) (.cond (.tmp 66) (.seq (.reg [qq 4 (.mv (kb false))]) .ret) .skip)) (.seq (.seq (.reg [qm 67 1,qq 68 (.len (.tmp 67)),qq 69 (.mv (ki 0))]) (.blk 2 (.loop c7l2))) (.seq (.reg [qq 95 (.call 22 []),qm 4 95]) .ret))))))))
theorem k7:conv Tryz.prog 96 (Tryz.f7.body.getD .skip)=c7:=by kernel_rfl
theorem in7 {a0 a1:Value} {w:World} {R:Value→World→Prop} (h:G Tryz.prog Tryz.f7 96 [.c c7] R (frL 0 [a0,a1]) w):Ret Tryz.prog 7 #[a0,a1] w R:=G.enter (args:=[a0,a1]) Tryz.func7 (c:=Tryz.f7.body.getD .skip) (by kernel_rfl) (by kernel_rfl) (by simp) k7 h
def dskC (T:MC):MC:=match c7 with
  | .seq a (.seq b (.seq c _))=>.seq a (.seq b (.seq c T))
  | x=>x
def dskT:MC:=match c7 with
  | .seq _ (.seq _ (.seq _ t))=>t
  | x=>x
theorem dsk_eq:c7=dskC dskT:=by rfl
section
variable {v:Value} {t:List (List Str)} {w w0:World}
attribute [local irreducible] txtF
set_option maxHeartbeats 1000000 in
theorem desk_t {n:Nat} {ρ:Fr} {g2:Nat} (d:Dl) (hd:byD d) (hrt:rightD d=true) (q1:ρ 1=v) (q2:ρ 2=.pointer (some ⟨g2,0,none⟩)) (hr:RdN w0 eS v t) (hok:TabOK 1000 1000 t) (h0:t.length≤12) (htx:(txtF d true t).length≤100000) (hv:ErrV w0) (ht:Tab w0)
    (hS:Sep w0 w [boxC g2 39 [U d.dl,U d.q,I d.e]]) :
    G Tryz.prog Tryz.f7 n [.c dskT] (fun v w'=>v=.bool true∧Ext w0 w') ρ w:=by
  unfold dskT c7
  dsimp only
  have hr0:=hr
  obtain ⟨vs,hvr,hl,hrow⟩:=hr
  have hbd:=hvr.bd
  have hf:∀ {w2:World},Ext w0 w2→RdN w2 eS v t:=fun {w2} hx=>⟨vs,hvr.ext hx,hl,fun i hi=>(hrow i hi).ext hx⟩
  have htt:∀ {w2:World},Ext w0 w2→Pu Tryz.prog 25 #[(.agg #[I d.dl,I d.q,I d.e]),v] w2 (S (txtF d true t)):=fun {w2} hx=>rtext_spec d hd (hf hx) hok (by omega)
  obtain ⟨hp1,hp2⟩:=txt_par hd hrt t (by omega) hok
  have hfr:=frN_of t fun r hr=>(hok r hr).1
  have htb:TabB 1000 1000 t:=fun r hr=>(hok r hr).2
  obtain ⟨s,hs⟩:∃ s,txtF d true t=s:=⟨_,rfl⟩
  rw [hs] at htt hp1 hp2 htx
  have hpl:(parM d wideL s).rs.length=t.length:=by have:=congrArg List.length hp1;simpa using this
  obtain ⟨m0,hm0⟩:∃ m0:Str→Option Str,m0=fun _=>none:=⟨_,rfl⟩
  obtain ⟨m1,hm1⟩:∃ m1,m1=mput m0 [120] s:=⟨_,rfl⟩
  obtain ⟨m2,hm2⟩:∃ m2,m2=mput m1 [120] s:=⟨_,rfl⟩
  have e1:m1 [120]=some s:=by rw [hm1];simp [mput]
  have e2:m2 [120]=some s:=by rw [hm2];simp [mput]
  have b0:∀ k t,m0 k=some t→t.length≤100000000000:=fun k t h=>by rw [hm0] at h;simp at h
  have hop:∀ w,Ret Tryz.prog 10 #[] w fun v w'=>∃ g r,v=(.pointer (some ⟨g,0,none⟩))∧Sep w w' [boxC g 55 [U exD.dl,U exD.q,I exD.e,.slice none 0 0,.map (some r)],mapC r S m0]:=fun w=>by rw [hm0];exact open30_spec w
  have H0:∀ {g r:Nat} {lv:Value} {w1:World},Sep w0 w1 (boxC g 55 [U exD.dl,U exD.q,I exD.e,lv,.map (some r)] :: mapC r S m0 :: [boxC g2 39 [U d.dl,U d.q,I d.e]])→Ret Tryz.prog 11 #[(.pointer (some ⟨g,0,none⟩)),S ([100,105,97,108,101,99,116,32]++txD d)] w1 fun v w'=>v=S [111,107]∧Sep w0 w' (boxC g 55 [U d.dl,U d.q,I d.e,lv,.map (some r)] :: mapC r S m0 :: [boxC g2 39 [U d.dl,U d.q,I d.e]]):=fun hS=>lnDial hd hrt hS
  have H1:∀ {g r:Nat} {lv:Value} {w1:World},Sep w0 w1 (boxC g 55 [U d.dl,U d.q,I d.e,lv,.map (some r)] :: mapC r S m0 :: [boxC g2 39 [U d.dl,U d.q,I d.e]])→Ret Tryz.prog 11 #[(.pointer (some ⟨g,0,none⟩)),S ([112,117,116,32,120,32]++sqM s)] w1 fun v w'=>v=S [111,107]∧Sep w0 w' (boxC g 55 [U d.dl,U d.q,I d.e,lv,.map (some r)] :: mapC r S m1 :: [boxC g2 39 [U d.dl,U d.q,I d.e]]):=fun hS=>by rw [hm1];exact lnPut s (by omega) b0 hS
  have H2:∀ {g r:Nat} {lv:Value} {w1:World},Sep w0 w1 (boxC g 55 [U d.dl,U d.q,I d.e,lv,.map (some r)] :: mapC r S m1 :: [boxC g2 39 [U d.dl,U d.q,I d.e]])→Ret Tryz.prog 11 #[(.pointer (some ⟨g,0,none⟩)),S [99,104,101,99,107,32,120]] w1 fun v w'=>v=S ([114,101,99,111,114,100,115,32]++Lib.itoa t.length)∧Sep w0 w' (boxC g 55 [U d.dl,U d.q,I d.e,lv,.map (some r)] :: mapC r S m1 :: [boxC g2 39 [U d.dl,U d.q,I d.e]]):=fun hS=>by rw [←hpl];exact lnCheck s e1 (by omega) hrt hp2 ht hS
  have H3:∀ {g r:Nat} {lv:Value} {w1:World},Sep w0 w1 (boxC g 55 [U d.dl,U d.q,I d.e,lv,.map (some r)] :: mapC r S m1 :: [boxC g2 39 [U d.dl,U d.q,I d.e]])→Ret Tryz.prog 11 #[(.pointer (some ⟨g,0,none⟩)),S [112,108,97,105,110,32,120]] w1 fun v w'=>v=S [111,107]∧Sep w0 w' (boxC g 55 [U d.dl,U d.q,I d.e,lv,.map (some r)] :: mapC r S m2 :: [boxC g2 39 [U d.dl,U d.q,I d.e]]):=fun hS=>by
    have:=lnPlain1 s e1 (by omega) hd hrt (rfl:parM d wideL s=_) (by rw [hp1];exact htb) (by omega) hp2 (by rw [hp1,hpl];exact hfr) hS
    rw [hp1,hs] at this
    rw [hm2];exact this
  have H4:∀ k,k < t.length→∀ {g r:Nat} {lv:Value} {w1:World},Sep w0 w1 (boxC g 55 [U d.dl,U d.q,I d.e,lv,.map (some r)] :: mapC r S m2 :: [boxC g2 39 [U d.dl,U d.q,I d.e]])→Ret Tryz.prog 11 #[(.pointer (some ⟨g,0,none⟩)),S ([103,101,116,32,120,32]++Lib.itoa k)] w1 fun v w'=>v=S (sqM (lineF d (t.getD k default).length false 0 (t.getD k default)))∧Sep w0 w' (boxC g 55 [U d.dl,U d.q,I d.e,lv,.map (some r)] :: mapC r S m2 :: [boxC g2 39 [U d.dl,U d.q,I d.e]]):=fun k hk {g r lv w1} hS=>by
    have hm:=hok _ (getD_mem t k (by omega))
    exact lnGet s k e2 (by omega) hd hrt (rfl:parM d wideL s=_) (by omega) (by rw [hp1];rfl) hm.1 (by omega) (fun f hf=>by have:=hm.2.2 f hf;omega) hv (by omega) hS
  have hsp:=fun w=>spellL_spec s w (by omega)
  have hsl:=sqM_len s
  have htd:=fun w=>rtext01_spec d hd hrt w
  have htl:(txD d).length≤12:=by
    unfold txD wdE
    split
    · simp
    · split<;>simp
  have hpr:∀ (k n:Nat) (w:World),k=n→n≤1000000→Pu Tryz.prog 26 #[I k] w (S (Lib.itoa n)):=fun k n w h hn=>by
    subst h
    exact rprint_spec _ _ w (Nat.lt_succ_self _) ⟨by omega,by omega⟩
  have hil:=fun (k:Nat) (hk:k≤12)=>itoa_ln (k:Int) (by omega) (by omega)
  have hi0:=hil t.length h0
  clear hm0 hm1 hm2 hs
  generalize txD d=td at *
  (have fct:=(And.intro @q1 @q2);repeat' (first|((with_reducible apply G.a);exact rfl)|refine G.reg fun K hK=>?_|(with_reducible (refine hK _ _ ?_);clear hK K)|(with_reducible (refine hK _ ?_);clear hK K;intro wd hxd;have hS:=Sep.xx hxd)|((first|have hk:=hK|have hk:=hK2);clear hk;simp (disch:=first|exact dis|fail) only [push_cast,↓reduceIte,zq1,zq2,zq3,zq4,zq5,fct])|((first|refine brO_n ?_ ?_|refine brQ_n ?_ ?_)<;>intro hb hc<;>first|(with_reducible exact False.elim hc)|(exfalso;omega)|(simp only [hb];clear hb))|(((with_reducible refine gBox ?_);refine zbox ?_);intro gb wb hS)|(refine zcp 21 (refD_spec d hd _) ?_;intro wb hS)|(refine zco 10 (hop _) ?_;rintro vb wb ⟨g,r,rfl,hS2⟩;have hS:=hS2.ap;simp only [apps] at hS)|(refine zn3 ?_)|(refine zn4 ?_)|(refine zcp 24 (htd _) ?_;intro wb hS)|(refine zcp 25 (htt (Sep.xt (by assumption))) ?_;intro wb hS)|(refine zcp 15 (hsp _) ?_;intro wb hS)|(refine zcp 26 (hpr _ t.length _ hl (by omega)) ?_;intro wb hS)|((with_reducible (show CallK _ 11 [_,S ([100,105,97,108,101,99,116,32]++td)] _ _ _ _));refine zco 11 (H0 hS) ?_;rintro vb wb ⟨rfl,hS⟩)|((with_reducible (show CallK _ 11 [_,S ([112,117,116,32,120,32]++sqM s)] _ _ _ _));refine zco 11 (H1 hS) ?_;rintro vb wb ⟨rfl,hS⟩)|((with_reducible (show CallK _ 11 [_,S [99,104,101,99,107,32,120]] _ _ _ _));refine zco 11 (H2 hS) ?_;rintro vb wb ⟨rfl,hS⟩)|((with_reducible (show CallK _ 11 [_,S [112,108,97,105,110,32,120]] _ _ _ _));refine zco 11 (H3 hS) ?_;rintro vb wb ⟨rfl,hS⟩)|(refine G.drt mixed fun K hK wd hxd=>?_;have hS:=Sep.xx hxd)|with_reducible refine OT_leaf ?_|(with_reducible (refine hK2 _ ?_);clear hK2 K2;intro wd hxd;have hS:=Sep.xx hxd)|with_reducible refine OT_br fun K2 hK2=>?_|(refine hK2 _ _ ?_ ?_<;>clear hK2 K2)|refine G.drg mixed fun K hK=>?_|(refine G.cn ?_ ?_<;>intro hc<;>first|(with_reducible exact False.elim hc)|(exfalso;omega)|skip)))<;>(try clear fct)
  refine G.loop (fun x w'=>∃ (k:Nat) (lv:Value),k≤t.length∧x 1=v∧x 2=.pointer (some ⟨g2,0,none⟩)∧x 7=(.pointer (some ⟨g,0,none⟩))∧x 67=v∧x 68=I vs.length∧x 69=I k∧Sep w0 w' (boxC g 55 [U d.dl,U d.q,I d.e,lv,.map (some r)] :: mapC r S m2 :: [boxC g2 39 [U d.dl,U d.q,I d.e]])) (fun x _=>t.length - toN (x 69)) ?_ ?_
  · have fct:=(And.intro @q1 @q2);exact ⟨0,_,Nat.zero_le _,by exact sf,by exact sf,by exact sf,by exact sf,by exact sf,by exact sf,hS⟩
  · clear hS hS2 q1 q2
    rintro u wl ⟨k,lv,hk,q1,q2,q7,q67,q68,q69,hS⟩ ih
    have hm:toN (u 69)=k:=by rw [q69];simp [toN]
    by_cases hlt:(k:Int) < t.length
    · have hlv:(k:Int) < vs.length:=by omega
      have hG:=@H4 k (by omega)
      obtain ⟨k1,k2,k3⟩:=hok _ (getD_mem t k hlt)
      have hli:∀ {w2:World},Ext w0 w2→Pu Tryz.prog 27 #[(.agg #[I d.dl,I d.q,I d.e]),vs.getD k default,I 0] w2 (S (lineM d (t.getD k default) false)):=fun {w2} hx=>rline10_spec d hd false w2 ((hrow k hlt).ext hx) (fun f hf=>by have:=k3 f hf;omega) (by omega)
      have hlm:lineM d (t.getD k default) false=lineF d (t.getD k default).length false 0 (t.getD k default)++endM d:=rfl
      have hll:=lineF_len d (t.getD k default).length false 1000 (t.getD k default) 0 k3
      have hll2:(lineF d (t.getD k default).length false 0 (t.getD k default)).length≤3000000:=Nat.le_trans hll (Nat.le_trans (Nat.mul_le_mul_right _ k2) (by decide))
      have hel:=end_len d
      have hen:=fun w=>rend_spec d w
      have hik:=hil k (by omega)
      clear hll
      generalize lineF d (t.getD k default).length false 0 (t.getD k default)=lf at *
      generalize endM d=en at *
      generalize lineM d (t.getD k default) false=lm at *
      have hspl:=fun w=>spellL_spec lf w (by omega)
      have hl2:lm.length=lf.length+en.length:=by rw [hlm,List.length_append]
      have htk:lm.take lf.length=lf:=by rw [hlm];simp
      have hT:((lm.length:Int) - (en.length:Int)).toNat=lf.length:=by omega
      clear hlm
      (have fct:=(And.intro @q1 (And.intro @q2 (And.intro @q7 (And.intro @q67 (And.intro @q68 (And.intro @q69 (And.intro @hT @htk)))))));repeat' (first|((with_reducible apply G.a);exact rfl)|refine G.reg fun K hK=>?_|(with_reducible (refine hK _ _ ?_);clear hK K)|(with_reducible (refine hK _ ?_);clear hK K;intro wd hxd;have hS:=Sep.xx hxd)|((first|have hk:=hK|have hk:=hK2);clear hk;simp (disch:=first|exact dis|fail) only [push_cast,↓reduceIte,zq1,zq2,zq3,zq4,zq5,fct])|((first|refine brO_n ?_ ?_|refine brQ_n ?_ ?_)<;>intro hb hc<;>first|(with_reducible exact False.elim hc)|(exfalso;omega)|(simp only [hb];clear hb))|(((with_reducible refine gBox ?_);refine zbox ?_);intro gb wb hS)|(with_reducible refine And.intro (a:=OT _ _ _ _ _) (b:=OT _ _ _ _ _) ?_ ?_)|(refine zcp 21 (refD_spec d hd _) ?_;intro wb hS)|(refine zcp 27 (hli (Sep.xt (by assumption))) ?_;intro wb hS)|(refine zcp 28 (hen _) ?_;intro wb hS)|(refine zcp 15 (hspl _) ?_;intro wb hS)|(refine zcp 26 (hpr k k _ rfl (by omega)) ?_;intro wb hS)|((with_reducible (show CallK _ 11 [_,S ([103,101,116,32,120,32]++Lib.itoa k)] _ _ _ _));refine zco 11 (hG hS) ?_;rintro vb wb ⟨rfl,hS⟩)|(refine G.drt mixed fun K hK wd hxd=>?_;have hS:=Sep.xx hxd)|with_reducible refine OT_leaf ?_|(with_reducible (refine hK2 _ ?_);clear hK2 K2;intro wd hxd;have hS:=Sep.xx hxd)|with_reducible refine OT_br fun K2 hK2=>?_|(refine hK2 _ _ ?_ ?_<;>clear hK2 K2)|refine G.drg mixed fun K hK=>?_|(refine G.cn ?_ ?_<;>intro hc<;>first|(with_reducible exact False.elim hc)|(exfalso;omega)|skip)))<;>(try clear fct)
      all_goals
        have fct:=(And.intro @q1 (And.intro @q2 (And.intro @q7 (And.intro @q67 (And.intro @q68 @q69)))));refine ih _ _ ⟨k+1,lv,by omega,by exact sf,by exact sf,by exact sf,by exact sf,by exact sf,by exact sf,hS⟩ ?_
        rw [hm];simp only [push_cast,↓reduceIte,zq1,zq2,zq3,zq4,zq5,toN_i,q1,q2,q7,q67,q68,q69];omega
    · (have fct:=(And.intro @q1 (And.intro @q2 (And.intro @q7 (And.intro @q67 (And.intro @q68 @q69)))));repeat' (first|((with_reducible apply G.a);exact rfl)|refine G.reg fun K hK=>?_|(with_reducible (refine hK _ _ ?_);clear hK K)|(with_reducible (refine hK _ ?_);clear hK K;intro wd hxd;have hS:=Sep.xx hxd)|((first|have hk:=hK|have hk:=hK2);clear hk;simp (disch:=first|exact dis|fail) only [push_cast,↓reduceIte,zq1,zq2,zq3,zq4,zq5,fct])|((first|refine brO_n ?_ ?_|refine brQ_n ?_ ?_)<;>intro hb hc<;>first|(with_reducible exact False.elim hc)|(exfalso;omega)|(simp only [hb];clear hb))|(((with_reducible refine gBox ?_);refine zbox ?_);intro gb wb hS)|(refine zcp 22 (alive_spec _) ?_;intro wb hS)|(refine G.drt mixed fun K hK wd hxd=>?_;have hS:=Sep.xx hxd)|with_reducible refine OT_leaf ?_|(with_reducible (refine hK2 _ ?_);clear hK2 K2;intro wd hxd;have hS:=Sep.xx hxd)|with_reducible refine OT_br fun K2 hK2=>?_|(refine hK2 _ _ ?_ ?_<;>clear hK2 K2)|refine G.drg mixed fun K hK=>?_|(refine G.cn ?_ ?_<;>intro hc<;>first|(with_reducible exact False.elim hc)|(exfalso;omega)|skip)))<;>(try clear fct)
      all_goals
        (have fct:=(And.intro @q1 (And.intro @q2 (And.intro @q7 (And.intro @q67 (And.intro @q68 @q69)))));(first|refine G.r1 ?_|refine G.r2 ?_|refine G.r3 ?_|refine G.r0 ?_|refine G.d0 ?_);(try simp (disch:=first|exact dis|fail) only [push_cast,↓reduceIte,zq1,zq2,zq3,zq4,zq5,fct]);(try clear fct))
        (first|exact Sep.xt (by assumption)|exact ⟨rfl,Sep.xt (by assumption)⟩)
set_option maxHeartbeats 1000000 in
theorem law_desk (d:Dl) (w:World) (hd:byD d) (hr:RdN w eS v t) (hv:ErrV w) (ht:Tab w):Pu Tryz.prog 7 #[(.agg #[U d.dl,U d.q,I d.e]),v] w (.bool true):=by
  have hr0:=hr
  obtain ⟨vs,hvr,hl,hrow⟩:=hr
  have hbd:=hvr.bd
  refine in7 ?_
  have hS:=Sep.start w
  have hf:∀ {w2:World},Ext w w2→RdN w2 eS v t:=fun {w2} hx=>⟨vs,hvr.ext hx,hl,fun i hi=>(hrow i hi).ext hx⟩
  cases hrt:rightD d
  · (have fct:=@hrt;repeat' (first|((with_reducible apply G.a);exact rfl)|refine G.reg fun K hK=>?_|(with_reducible (refine hK _ _ ?_);clear hK K)|(with_reducible (refine hK _ ?_);clear hK K;intro wd hxd;have hS:=Sep.xx hxd)|((first|have hk:=hK|have hk:=hK2);clear hk;simp (disch:=first|exact dis|fail) only [push_cast,↓reduceIte,zq1,zq2,zq3,zq4,zq5,fct])|((first|refine brO_n ?_ ?_|refine brQ_n ?_ ?_)<;>intro hb hc<;>first|(with_reducible exact False.elim hc)|(exfalso;omega)|(simp only [hb];clear hb))|(((with_reducible refine gBox ?_);refine zbox ?_);intro gb wb hS)|(refine zcp 22 (alive_spec _) ?_;intro wb hS)|(refine zcp 21 (refD_spec d hd _) ?_;intro wb hS)|(refine zcp 20 (rightR_spec d hd _) ?_;intro wb hS)|(refine zcp 19 (small_spec (hf (Sep.xt (by assumption)))) ?_;intro wb hS)|(refine G.drt mixed fun K hK wd hxd=>?_;have hS:=Sep.xx hxd)|with_reducible refine OT_leaf ?_|(with_reducible (refine hK2 _ ?_);clear hK2 K2;intro wd hxd;have hS:=Sep.xx hxd)|with_reducible refine OT_br fun K2 hK2=>?_|(refine hK2 _ _ ?_ ?_<;>clear hK2 K2)|refine G.drg mixed fun K hK=>?_|(refine G.cn ?_ ?_<;>intro hc<;>first|(with_reducible exact False.elim hc)|(exfalso;omega)|skip)))<;>(try clear fct)
    all_goals
      (first|refine G.r1 ?_|refine G.r2 ?_|refine G.r3 ?_|refine G.r0 ?_|refine G.d0 ?_);(try simp (disch:=first|exact dis|fail) only [push_cast,↓reduceIte,zq1,zq2,zq3,zq4,zq5,fct])
      (first|exact Sep.xt (by assumption)|exact ⟨rfl,Sep.xt (by assumption)⟩)
  · cases hg : greatM t 12 8 200
    rotate_left
    · (have fct:=(And.intro @hrt @hg);repeat' (first|((with_reducible apply G.a);exact rfl)|refine G.reg fun K hK=>?_|(with_reducible (refine hK _ _ ?_);clear hK K)|(with_reducible (refine hK _ ?_);clear hK K;intro wd hxd;have hS:=Sep.xx hxd)|((first|have hk:=hK|have hk:=hK2);clear hk;simp (disch:=first|exact dis|fail) only [push_cast,↓reduceIte,zq1,zq2,zq3,zq4,zq5,fct])|((first|refine brO_n ?_ ?_|refine brQ_n ?_ ?_)<;>intro hb hc<;>first|(with_reducible exact False.elim hc)|(exfalso;omega)|(simp only [hb];clear hb))|(((with_reducible refine gBox ?_);refine zbox ?_);intro gb wb hS)|(refine zcp 22 (alive_spec _) ?_;intro wb hS)|(refine zcp 21 (refD_spec d hd _) ?_;intro wb hS)|(refine zcp 20 (rightR_spec d hd _) ?_;intro wb hS)|(refine zcp 19 (small_spec (hf (Sep.xt (by assumption)))) ?_;intro wb hS)|(refine G.drt mixed fun K hK wd hxd=>?_;have hS:=Sep.xx hxd)|with_reducible refine OT_leaf ?_|(with_reducible (refine hK2 _ ?_);clear hK2 K2;intro wd hxd;have hS:=Sep.xx hxd)|with_reducible refine OT_br fun K2 hK2=>?_|(refine hK2 _ _ ?_ ?_<;>clear hK2 K2)|refine G.drg mixed fun K hK=>?_|(refine G.cn ?_ ?_<;>intro hc<;>first|(with_reducible exact False.elim hc)|(exfalso;omega)|skip)))<;>(try clear fct)
      all_goals
      (first|refine G.r1 ?_|refine G.r2 ?_|refine G.r3 ?_|refine G.r0 ?_|refine G.d0 ?_);(try simp (disch:=first|exact dis|fail) only [push_cast,↓reduceIte,zq1,zq2,zq3,zq4,zq5,fct])
      (first|exact Sep.xt (by assumption)|exact ⟨rfl,Sep.xt (by assumption)⟩)
    obtain ⟨g1,g2⟩:=great_no (by decide) hg
    have tl:∀ (n:Nat) (ρ':Fr) (w':World) (gb:Nat),ρ' 1=v→ρ' 2=.pointer (some ⟨gb,0,none⟩)→Sep w w' [boxC gb 39 [U d.dl,U d.q,I d.e]]→(∀ k,k < t.length→mayR (t.getD k default)=0) →
        G Tryz.prog Tryz.f7 n [.c dskT] (fun v w'=>v=.bool true∧Ext w w') ρ' w':=fun n ρ' w' gb p1 p2 hS hall=>by
      have hok:TabOK 1000 1000 t:=fun r hr=>by
        obtain ⟨k,hk,e⟩:=List.getElem_of_mem hr
        have h0:=hall k hk
        rw [show t.getD k default=r from by rw [List.getD_eq_getElem?_getD,List.getElem?_eq_getElem hk];exact e] at h0
        obtain ⟨k1,k2⟩:=g2 r hr
        exact ⟨h0,by omega,fun f hf=>by have:=k2 f hf;omega⟩
      have hlen:(txtF d true t).length≤100000:=by
        have a:=txt_len d 8 200 t true fun r hr=>by
          obtain ⟨k1,k2⟩:=g2 r hr
          exact ⟨by omega,fun f hf=>by have:=k2 f hf;omega⟩
        have b:=Nat.mul_le_mul_right (8 * (2 * 200+3)+2) (show t.length≤12 by omega)
        omega
      exact desk_t d hd hrt p1 p2 hr0 hok (by omega) hlen hv ht hS
    rw [dsk_eq]
    generalize dskT=T at *
    unfold dskC c7
    dsimp only
    (have fct:=(And.intro @hrt @hg);repeat' (first|((with_reducible apply G.a);exact rfl)|refine G.reg fun K hK=>?_|(with_reducible (refine hK _ _ ?_);clear hK K)|(with_reducible (refine hK _ ?_);clear hK K;intro wd hxd;have hS:=Sep.xx hxd)|((first|have hk:=hK|have hk:=hK2);clear hk;simp (disch:=first|exact dis|fail) only [push_cast,↓reduceIte,zq1,zq2,zq3,zq4,zq5,fct])|((first|refine brO_n ?_ ?_|refine brQ_n ?_ ?_)<;>intro hb hc<;>first|(with_reducible exact False.elim hc)|(exfalso;omega)|(simp only [hb];clear hb))|(((with_reducible refine gBox ?_);refine zbox ?_);intro gb wb hS)|(refine zcp 22 (alive_spec _) ?_;intro wb hS)|(refine zcp 21 (refD_spec d hd _) ?_;intro wb hS)|(refine zcp 20 (rightR_spec d hd _) ?_;intro wb hS)|(refine zcp 19 (small_spec (hf (Sep.xt (by assumption)))) ?_;intro wb hS)|(refine G.drt mixed fun K hK wd hxd=>?_;have hS:=Sep.xx hxd)|with_reducible refine OT_leaf ?_|(with_reducible (refine hK2 _ ?_);clear hK2 K2;intro wd hxd;have hS:=Sep.xx hxd)|with_reducible refine OT_br fun K2 hK2=>?_|(refine hK2 _ _ ?_ ?_<;>clear hK2 K2)|refine G.drg mixed fun K hK=>?_|(refine G.cn ?_ ?_<;>intro hc<;>first|(with_reducible exact False.elim hc)|(exfalso;omega)|skip)))<;>(try clear fct)
    refine G.loop (fun r w'=>∃ k:Nat,k≤t.length∧(∀ j,j < k→mayR (t.getD j default)=0)∧r 1=v∧r 2=.pointer (some ⟨gb,0,none⟩)∧r 21=v∧r 22=I vs.length∧r 23=I k∧Sep w w' [boxC gb 39 [U d.dl,U d.q,I d.e]]) (fun r _=>t.length - toN (r 23)) ?_ ?_
    · exact ⟨0,Nat.zero_le _,by omega,by exact sf,by exact sf,by exact sf,by exact sf,by exact sf,(Sep.sub hS (by repeat first|exact Sub.rfl'|exact Sub.n|(refine Sub.c (by repeat constructor) ?_)|refine Sub.skip ?_))⟩
    · clear hS
      rintro u wl ⟨k,hk,hall,q1,q2,q21,q22,q23,hS⟩ ih
      have hm:toN (u 23)=k:=by rw [q23];simp [toN]
      by_cases hlt:(k:Int) < t.length
      · have hlv:(k:Int) < vs.length:=by omega
        obtain ⟨k1,k2⟩:=g2 _ (getD_mem t k hlt)
        have hmy:∀ {w2:World},Ext w w2→Pu Tryz.prog 23 #[vs.getD k default] w2 (I (mayR (t.getD k default))):=fun {w2} hx=>rmay_spec ((hrow k hlt).ext hx) (fun f hf=>by have:=k2 f hf;omega)
        by_cases h0:mayR (t.getD k default)=0
        · (have fct:=(And.intro @q1 (And.intro @q2 (And.intro @q21 (And.intro @q22 (And.intro @q23 @h0)))));repeat' (first|((with_reducible apply G.a);exact rfl)|refine G.reg fun K hK=>?_|(with_reducible (refine hK _ _ ?_);clear hK K)|(with_reducible (refine hK _ ?_);clear hK K;intro wd hxd;have hS:=Sep.xx hxd)|((first|have hk:=hK|have hk:=hK2);clear hk;simp (disch:=first|exact dis|fail) only [push_cast,↓reduceIte,zq1,zq2,zq3,zq4,zq5,fct])|((first|refine brO_n ?_ ?_|refine brQ_n ?_ ?_)<;>intro hb hc<;>first|(with_reducible exact False.elim hc)|(exfalso;omega)|(simp only [hb];clear hb))|(((with_reducible refine gBox ?_);refine zbox ?_);intro gb wb hS)|(refine zcp 22 (alive_spec _) ?_;intro wb hS)|(refine zcp 23 (hmy (Sep.xt (by assumption))) ?_;intro wb hS)|(refine G.drt mixed fun K hK wd hxd=>?_;have hS:=Sep.xx hxd)|with_reducible refine OT_leaf ?_|(with_reducible (refine hK2 _ ?_);clear hK2 K2;intro wd hxd;have hS:=Sep.xx hxd)|with_reducible refine OT_br fun K2 hK2=>?_|(refine hK2 _ _ ?_ ?_<;>clear hK2 K2)|refine G.drg mixed fun K hK=>?_|(refine G.cn ?_ ?_<;>intro hc<;>first|(with_reducible exact False.elim hc)|(exfalso;omega)|skip)))<;>(try clear fct)
          all_goals
            have fct:=(And.intro @q1 (And.intro @q2 (And.intro @q21 (And.intro @q22 @q23))));refine ih _ _ ⟨k+1,by omega,fun j hj=>(Nat.lt_succ_iff_lt_or_eq.1 hj).elim (hall j) (fun e=>e ▸ h0),by exact sf,by exact sf,by exact sf,by exact sf,by exact sf,hS⟩ ?_
            rw [hm];simp only [push_cast,↓reduceIte,zq1,zq2,zq3,zq4,zq5,toN_i,q1,q2,q21,q22,q23];omega
        · (have fct:=(And.intro @q1 (And.intro @q2 (And.intro @q21 (And.intro @q22 (And.intro @q23 @h0)))));repeat' (first|((with_reducible apply G.a);exact rfl)|refine G.reg fun K hK=>?_|(with_reducible (refine hK _ _ ?_);clear hK K)|(with_reducible (refine hK _ ?_);clear hK K;intro wd hxd;have hS:=Sep.xx hxd)|((first|have hk:=hK|have hk:=hK2);clear hk;simp (disch:=first|exact dis|fail) only [push_cast,↓reduceIte,zq1,zq2,zq3,zq4,zq5,fct])|((first|refine brO_n ?_ ?_|refine brQ_n ?_ ?_)<;>intro hb hc<;>first|(with_reducible exact False.elim hc)|(exfalso;omega)|(simp only [hb];clear hb))|(((with_reducible refine gBox ?_);refine zbox ?_);intro gb wb hS)|(refine zcp 22 (alive_spec _) ?_;intro wb hS)|(refine zcp 23 (hmy (Sep.xt (by assumption))) ?_;intro wb hS)|(refine G.drt mixed fun K hK wd hxd=>?_;have hS:=Sep.xx hxd)|with_reducible refine OT_leaf ?_|(with_reducible (refine hK2 _ ?_);clear hK2 K2;intro wd hxd;have hS:=Sep.xx hxd)|with_reducible refine OT_br fun K2 hK2=>?_|(refine hK2 _ _ ?_ ?_<;>clear hK2 K2)|refine G.drg mixed fun K hK=>?_|(refine G.cn ?_ ?_<;>intro hc<;>first|(with_reducible exact False.elim hc)|(exfalso;omega)|skip)))<;>(try clear fct)
          all_goals
            (have fct:=(And.intro @q1 (And.intro @q2 (And.intro @q21 (And.intro @q22 @q23))));(first|refine G.r1 ?_|refine G.r2 ?_|refine G.r3 ?_|refine G.r0 ?_|refine G.d0 ?_);(try simp (disch:=first|exact dis|fail) only [push_cast,↓reduceIte,zq1,zq2,zq3,zq4,zq5,fct]);(try clear fct))
            (first|exact Sep.xt (by assumption)|exact ⟨rfl,Sep.xt (by assumption)⟩)
      · (have fct:=(And.intro @q1 (And.intro @q2 (And.intro @q21 (And.intro @q22 @q23))));repeat' (first|((with_reducible apply G.a);exact rfl)|refine G.reg fun K hK=>?_|(with_reducible (refine hK _ _ ?_);clear hK K)|(with_reducible (refine hK _ ?_);clear hK K;intro wd hxd;have hS:=Sep.xx hxd)|((first|have hk:=hK|have hk:=hK2);clear hk;simp (disch:=first|exact dis|fail) only [push_cast,↓reduceIte,zq1,zq2,zq3,zq4,zq5,fct])|((first|refine brO_n ?_ ?_|refine brQ_n ?_ ?_)<;>intro hb hc<;>first|(with_reducible exact False.elim hc)|(exfalso;omega)|(simp only [hb];clear hb))|(((with_reducible refine gBox ?_);refine zbox ?_);intro gb wb hS)|(refine G.drt mixed fun K hK wd hxd=>?_;have hS:=Sep.xx hxd)|with_reducible refine OT_leaf ?_|(with_reducible (refine hK2 _ ?_);clear hK2 K2;intro wd hxd;have hS:=Sep.xx hxd)|with_reducible refine OT_br fun K2 hK2=>?_|(refine hK2 _ _ ?_ ?_<;>clear hK2 K2)|refine G.drg mixed fun K hK=>?_|(refine G.cn ?_ ?_<;>intro hc<;>first|(with_reducible exact False.elim hc)|(exfalso;omega)|skip)))<;>(try clear fct)
        all_goals exact tl _ _ _ gb (by simp only [push_cast,↓reduceIte,zq1,zq2,zq3,zq4,zq5,q1,q2,q21,q22,q23]) (by simp only [push_cast,↓reduceIte,zq1,zq2,zq3,zq4,zq5,q1,q2,q21,q22,q23]) hS fun j hj=>hall j (by omega)
end
end Go.Proofs.YtllanbmpacgigaaGreatDoor
