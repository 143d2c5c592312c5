/- Texts of the proof, joined. -/
import Derived.Test.YtllanbmpacgigaaGreatDoorIL25
import Derived.Test.YtllanbmpacgigaaGreatDoorIC25
namespace Go.Proofs.YtllanbmpacgigaaGreatDoor
open Nat renaming reduceAdd→zq1,reduceLeDiff→zq2,reduceEqDiff→zq3,reduceLT→zq4
open Int renaming reduceToNat→zq5
set_option linter.unusedSimpArgs false
set_option linter.unusedVariables false
attribute [local irreducible] SemK UnitK StK AlcK BslK CallK CallV Instr.box Builtin.append_ Instr.makeSlice Instr.makeMap Instr.lookup Instr.mapUpdate Instr.sliceAt convert
open Go.RowKit
attribute [local irreducible] accC boxC mapC frzC frzG
theorem eqD_eq {α:Type} {a b:α} (h:eqD a b=true):a=b:=by
 unfold eqD at h
 exact @of_decide_eq_true _ (Classical.propDecidable _) h
def diffC (T:MC):MC:=match c76 with
 | .seq a (.seq b (.seq c (.seq d (.seq e (.seq f (.seq g (.seq h _)))))))=>.seq a (.seq b (.seq c (.seq d (.seq e (.seq f (.seq g (.seq h T)))))))
 | _=>.skip
theorem diffC_eq:c76=diffC diffT3:=rfl
set_option maxHeartbeats 2000000 in
theorem diff_spec {va ua vb ub vk:Value} {la lb:List Col} {ra rb:List (List Val)} {keys:List Str} {w:World} (ha:Rd w eC va la) (ha2:RdT w eVal ua ra) (hb:Rd w eC vb lb) (hb2:RdT w eVal ub rb) (hk:Rd w eS vk keys)
 (hla:∀ c∈la,c.name.length≤100000000000) (hlb:∀ c∈lb,c.name.length≤100000000000) (hk1:keys.length≤1000) (hfa:∀ i,i < ra.length→FineV (ra.getD i [])) (hfb:∀ i,i < rb.length→FineV (rb.getD i [])) (hll:la.length≤1000000) (hral:ra.length≤1000000) (hrb:rb.length≤1000000) (hT:Tab w) :
 Ret Tryz.prog 76 #[.agg #[va,ua],.agg #[vb,ub],vk] w (DiffR w (diffE la lb ra rb keys)):=by
 refine En 150 c76 Tryz.func76 ?_
 rw [diffC_eq]
 have hS:=Sep.start w
 have oa:=ha.one
 have ob:=hb.one
 have oa2:One ua:=by obtain ⟨vs,h,_⟩:=ha2;exact h.one
 have ob2:One ub:=by obtain ⟨vs,h,_⟩:=hb2;exact h.one
 have hbk:=hk.bd
 have hca:=fun (w2:World) (hx:Ext w w2)=>dchk_spec (w:=w2) (ha.ext hx) (ha2.ext hx) (hk.ext hx) hla hk1 hfa (hT.ext hx)
 have hcb:=fun (w2:World) (hx:Ext w w2)=>dchk_spec (w:=w2) (hb.ext hx) (hb2.ext hx) (hk.ext hx) hlb hk1 hfb (hT.ext hx)
 have hsm:=fun (w2:World) (hx:Ext w w2)=>same18_spec (w:=w2) (ha.ext hx) (hb.ext hx)
 have hia:=dchk_iff la ra keys
 have hib:=dchk_iff lb rb keys
 have hne:=fun h=>dchk_ne (l:=la) (rows:=ra) (keys:=keys) h
 have hTl:=fun (ur:List Value) (lp:Value) (gf gs g3 g4 n:Nat) (wl:World) (u:Fr)=>@diff_tail3 va ua vb ub ra rb (placesM la keys) la ur lp gf gs g3 g4 n w wl u ha2 hb2 oa ob
 obtain ⟨us,g1,l1,i1⟩:=hb2
 have hbd:=g1.bd
 have hE:diffE la lb ra rb keys=if eqD la lb=false then .error 21 else if (dchkM la ra keys).2≠0 then .error (dchkM la ra keys).2 else if (dchkM lb rb keys).2≠0 then .error (dchkM lb rb keys).2 else .ok (difM (placesM la keys) ra rb):=rfl
 rw [hE]
 generalize diffT3=T at hTl ⊢
 unfold diffC c76
 dsimp only
 generalize dchkM la ra keys=dda at *
 generalize dchkM lb rb keys=ddb at *
 obtain ⟨a1,a2⟩:=dda
 obtain ⟨b1,b2⟩:=ddb
 cases hs:eqD la lb
 ·rw [hs] at hsm
  rw [if_pos rfl]
  repeat' (first|refine G.reg fun K hK=>?_|(refine kM ?_;clear hK K)|refine sA ?_|((first|refine zalc ?_|refine zbsl ?_|((with_reducible refine gBox ?_);refine zbox ?_));intro gb wb hS)|((with_reducible refine gSt ?_);refine zs2 ?_;intro wb hS)|(refine zcp 108 (hsm _ hS.x) ?_;intro wb hS)|((with_reducible (show CallK _ 109 [.agg #[va,ua],vk] _ _ _ _));refine zcp 109 (hca _ hS.x) ?_;intro wb hS)|((with_reducible (show CallK _ 109 [.agg #[vb,ub],vk] _ _ _ _));refine zcp 109 (hcb _ hS.x) ?_;intro wb hS)|(refine G.cn ?_ ?_<;>intro hc<;>try exact zxf))
  all_goals
   refine rM ?_
   exact ⟨by decide,rfl,Sep.xt ‹_›⟩
 rw [hs] at hsm
 rw [if_neg ze]
 have hlab:la=lb:=eqD_eq hs
 by_cases h1:a2=0
 rotate_left
 ·rw [if_pos h1]
  repeat' (first|refine G.reg fun K hK=>?_|(refine kM ?_;clear hK K)|refine sA ?_|((first|refine zalc ?_|refine zbsl ?_|((with_reducible refine gBox ?_);refine zbox ?_));intro gb wb hS)|((with_reducible refine gSt ?_);refine zs2 ?_;intro wb hS)|(refine zcp 108 (hsm _ hS.x) ?_;intro wb hS)|((with_reducible (show CallK _ 109 [.agg #[va,ua],vk] _ _ _ _));refine zcp 109 (hca _ hS.x) ?_;intro wb hS)|((with_reducible (show CallK _ 109 [.agg #[vb,ub],vk] _ _ _ _));refine zcp 109 (hcb _ hS.x) ?_;intro wb hS)|(refine G.cn ?_ ?_<;>intro hc<;>try exact zxf))
  all_goals
   refine rM ?_
   exact ⟨h1,rfl,Sep.xt ‹_›⟩
 subst h1
 rw [if_neg ze]
 by_cases h2:b2=0
 rotate_left
 ·rw [if_pos h2]
  repeat' (first|refine G.reg fun K hK=>?_|(refine kM ?_;clear hK K)|refine sA ?_|((first|refine zalc ?_|refine zbsl ?_|((with_reducible refine gBox ?_);refine zbox ?_));intro gb wb hS)|((with_reducible refine gSt ?_);refine zs2 ?_;intro wb hS)|(refine zcp 108 (hsm _ hS.x) ?_;intro wb hS)|((with_reducible (show CallK _ 109 [.agg #[va,ua],vk] _ _ _ _));refine zcp 109 (hca _ hS.x) ?_;intro wb hS)|((with_reducible (show CallK _ 109 [.agg #[vb,ub],vk] _ _ _ _));refine zcp 109 (hcb _ hS.x) ?_;intro wb hS)|(refine G.cn ?_ ?_<;>intro hc<;>try exact zxf))
  all_goals
   refine rM ?_
   exact ⟨h2,rfl,Sep.xt ‹_›⟩
 subst h2
 rw [if_neg ze]
 obtain ⟨koa,roa⟩:=hia.1 rfl
 obtain ⟨kob,rob⟩:=hib.1 rfl
 rw [←hlab] at rob
 have hfp:=plc_fine (keys:=keys) (hne rfl) hk1
 clear hia hib hne hE
 repeat' (first|refine G.reg fun K hK=>?_|(refine kM ?_;clear hK K)|refine sA ?_|((first|refine zalc ?_|refine zbsl ?_|((with_reducible refine gBox ?_);refine zbox ?_));intro gb wb hS)|((with_reducible refine gSt ?_);refine zs2 ?_;intro wb hS)|(refine zcp 108 (hsm _ hS.x) ?_;intro wb hS)|((with_reducible (show CallK _ 109 [.agg #[va,ua],vk] _ _ _ _));refine zcp 109 (hca _ hS.x) ?_;intro wb hS)|((with_reducible (show CallK _ 109 [.agg #[vb,ub],vk] _ _ _ _));refine zcp 109 (hcb _ hS.x) ?_;intro wb hS)|(refine G.cn ?_ ?_<;>intro hc<;>try exact zxf))
 all_goals
 have hS:=hS.nil 3 eI
 refine G.loop (fun r w'=>∃ (k:Nat) (lv:Value) (g3 g4:Nat),k≤keys.length∧r 56=I k∧r 55=I keys.length∧r 54=vk∧r 3=.pointer (some ⟨g3,0,none⟩)∧r 4=.pointer (some ⟨g4,0,none⟩)∧r 12=lv∧Sep w w' [accC lv 3 eI (placesM la (keys.take k)),boxC g4 119 [vb,ub],boxC g3 119 [va,ua]]) (fun r _=>keys.length - toN (r 56)) ?_ ?_
 ·exact ⟨0,.slice none 0 0,_,_,Nat.zero_le _,by exact sf,by exact sf,by exact sf,by exact sf,by exact sf,by exact sf,(Sep.sub hS zu)⟩
 ·clear hS
  rintro u wl ⟨k,lv,g3,g4,hk2,q56,q55,q54,q3,q4,q12,hS⟩ ih
  have hm:toN (u 56)=k:=by rw [q56];simp [toN]
  have hkw:=hk.ext hS.x
  by_cases hlt:(k:Int) < keys.length
  ·have hst:placesM la (keys.take (k+1))=placesM la (keys.take k)++[plcM la (keys.getD k default)]:=by unfold placesM;rw [takeD keys k hlt,List.map_append];rfl
   have hpl:(placesM la (keys.take k)).length=k:=by unfold placesM;rw [List.length_map,List.length_take];omega
   have hfd:=fnd_plc la (keys.getD k default)
   generalize (if 0≤atM (la.map (·.name)) (keys.getD k default) then la.getD (atM (la.map (·.name)) (keys.getD k default)).toNat default else default)=cx at hfd
   generalize hkk:keys.getD k default=key at *
   (have fct:=(a9 @q56 @q55 @q54 @q3 @q4 @q12 @hkk @hfd @vcf);repeat' (first|refine G.reg fun K hK=>?_|(refine kM ?_;clear hK K)|refine sA ?_|((first|refine zalc ?_|refine zbsl ?_|((with_reducible refine gBox ?_);refine zbox ?_));intro gb wb hS)|((with_reducible refine gSt ?_);refine zs2 ?_;intro wb hS)|(refine zcp 77 (find_spec (ha.ext hS.x) _) ?_;intro wb hS)|(refine zap ?_;intro vb wb hS)|(refine G.cn ?_ ?_<;>intro hc<;>try exact zxf)))<;>(try clear fct)
   all_goals
    have fct:=(a6 @q56 @q55 @q54 @q3 @q4 @q12);refine ih _ _ ⟨k+1,vb,g3,g4,by omega,by exact sf,by exact sf,by exact sf,by exact sf,by exact sf,by exact sf,?_⟩ ?_
    ·rw [hst];exact (Sep.sub hS zu)
    ·rw [hm];simp only [push_cast,↓reduceIte,zq1,zq2,zq3,zq4,zq5,toN_i,q56,q55,q54,q3,q4,q12];omega
  ·rw [List.take_of_length_le zo] at hS
   clear ih
   have hmb:=mbM_nil
   (have fct:=(a6 @q56 @q55 @q54 @q3 @q4 @q12);repeat' (first|refine G.reg fun K hK=>?_|(refine kM ?_;clear hK K)|refine sA ?_|((first|refine zalc ?_|refine zbsl ?_|((with_reducible refine gBox ?_);refine zbox ?_));intro gb wb hS)|((with_reducible refine gSt ?_);refine zs2 ?_;intro wb hS)|((with_reducible (show SemK _ (Instr.makeMap 149 _) _ _ _ _));(refine zmm Value.bool ?_;intro gb wb hS))|((with_reducible (show SemK _ (Instr.makeMap 169 _) _ _ _ _));(refine zmm (fun i:Int=>us.getD i.toNat default) ?_;intro gb wb hS))|(refine G.cn ?_ ?_<;>intro hc<;>try exact zxf)))<;>(try clear fct)
   all_goals
   generalize hps:placesM la keys=ps at *
   refine G.loop (fun r w'=>∃ (k:Nat) (lp:Value) (gf gs g3 g4:Nat) (m:Str→Option Int),k≤us.length∧r 78=I k∧r 77=I us.length∧r 76=ub∧r 3=.pointer (some ⟨g3,0,none⟩)∧r 4=.pointer (some ⟨g4,0,none⟩)∧r 12=lp∧r 18=.map (some gf)∧r 19=.map (some gs)∧atsF ps rb 0 (fun _=>none)=atsF ps (rb.drop k) k m ∧
    Sep w w' [accC lp 3 eI ps,mapC gf Value.bool (mbM []),mapC gs (fun i:Int=>us.getD i.toNat default) m,boxC g4 119 [vb,ub],boxC g3 119 [va,ua]]) (fun r _=>us.length - toN (r 78)) ?_ ?_
   ·have fct:=(a6 @q56 @q55 @q54 @q3 @q4 @q12);exact ⟨0,lv,_,_,g3,g4,fun _=>none,Nat.zero_le _,by exact sf,by exact sf,by exact sf,by exact sf,by exact sf,by exact sf,by exact sf,by exact sf,rfl,by rw [mbM_nil];exact (Sep.sub hS zu)⟩
   ·clear hS q56 q55 q54 q3 q4 q12 hm
    rintro u2 wl2 ⟨k2,lp,gf,gs,g3,g4,m,hk2,q78,q77,q76,q3,q4,q12,q18,q19,e,hS⟩ ih
    have hm:toN (u2 78)=k2:=by rw [q78];simp [toN]
    have h1k:=g1.ext hS.x
    by_cases hlt2:(k2:Int) < us.length
    ·rw [atsF_step ps rb k2 m zo] at e
     have hrk:=i1 k2 zo
     have hwk:=rob.w (rb.getD k2 []) (getD_mem rb k2 zo)
     have hfk:=hfb k2 zo
     generalize rb.getD k2 []=rk at e hrk hwk hfk
     have hmk:=fun (w2:World) (hx:Ext w w2) (hp:Rd w2 eI lp ps)=>markv_spec (w:=w2) (hrk.ext hx) hp hfk ⟨hfp.1,fun p hp=>by have:=hfp.2 p hp;omega⟩ (hT.ext hx)
     rw [mark_vw rk ps hwk.2] at hmk
     generalize markM tailW rk ps=mk at e hmk
     (have fct:=(a8 @q78 @q77 @q76 @q3 @q4 @q12 @q18 @q19);repeat' (first|refine G.reg fun K hK=>?_|(refine kM ?_;clear hK K)|refine sA ?_|((first|refine zalc ?_|refine zbsl ?_|((with_reducible refine gBox ?_);refine zbox ?_));intro gb wb hS)|((with_reducible refine gSt ?_);refine zs2 ?_;intro wb hS)|(refine zcp 110 (hmk _ hS.x (Sep.rd hS zr)) ?_;intro wb hS)|(refine zmu (b:=(k2:Int)) ?_;intro wb hS)|(refine G.cn ?_ ?_<;>intro hc<;>try exact zxf)))<;>(try clear fct)
     all_goals
      have fct:=(a8 @q78 @q77 @q76 @q3 @q4 @q12 @q18 @q19);refine ih _ _ ⟨k2+1,lp,gf,gs,g3,g4,_,by omega,by exact sf,by exact sf,by exact sf,by exact sf,by exact sf,by exact sf,by exact sf,by exact sf,e,hS⟩ ?_
      rw [hm];simp only [push_cast,↓reduceIte,zq1,zq2,zq3,zq4,zq5,toN_i,q78,q77,q76,q3,q4,q12,q18,q19];omega
    ·rw [List.drop_eq_nil_of_le zo,atsF] at e
     rw [←e] at hS
     clear ih
     (have fct:=(a8 @q78 @q77 @q76 @q3 @q4 @q12 @q18 @q19);repeat' (first|refine G.reg fun K hK=>?_|(refine kM ?_;clear hK K)|refine sA ?_|((first|refine zalc ?_|refine zbsl ?_|((with_reducible refine gBox ?_);refine zbox ?_));intro gb wb hS)|((with_reducible refine gSt ?_);refine zs2 ?_;intro wb hS)|(refine G.cn ?_ ?_<;>intro hc<;>try exact zxf)))<;>(try clear fct)
     all_goals
      exact hTl us lp gf gs g3 g4 _ _ _ l1 i1 roa rob hfa hfb hfp hll hral hrb hT (by simp only [push_cast,↓reduceIte,zq1,zq2,zq3,zq4,zq5,q78,q77,q76,q3,q4,q12,q18,q19]) (by simp only [push_cast,↓reduceIte,zq1,zq2,zq3,zq4,zq5,q78,q77,q76,q3,q4,q12,q18,q19]) (by simp only [push_cast,↓reduceIte,zq1,zq2,zq3,zq4,zq5,q78,q77,q76,q3,q4,q12,q18,q19]) (by simp only [push_cast,↓reduceIte,zq1,zq2,zq3,zq4,zq5,q78,q77,q76,q3,q4,q12,q18,q19]) (by simp only [push_cast,↓reduceIte,zq1,zq2,zq3,zq4,zq5,q78,q77,q76,q3,q4,q12,q18,q19]) hS
end Go.Proofs.YtllanbmpacgigaaGreatDoor
