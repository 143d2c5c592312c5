/- Texts of the proof, joined. -/
import Derived.Test.YtllanbmpacgigaaGreatDoorII30
import Derived.Test.YtllanbmpacgigaaGreatDoorIB31
import Derived.Test.YtllanbmpacgigaaGreatDoorIE31
namespace Go.Proofs.YtllanbmpacgigaaGreatDoor
open Operand renaming tmp→Y,const→yc
open MC renaming seq→Z,reg→yr,skip→yk,cond→yd
open MO renaming call→yl,bin→yb
open Nat renaming reduceAdd→zq1,reduceLeDiff→zq2,reduceEqDiff→zq3,reduceLT→zq4
open Int renaming reduceToNat→zq5
set_option linter.unusedSimpArgs false
set_option linter.unusedVariables false
open Go.RowKit
theorem lines_flat:∀ (s cur:Str),(linesF cur s).flatten=cur++s
 | [],cur=>by rw [linesF];split<;>simp_all
 | b :: r,cur=>by
   rw [linesF]
   split
   ·rename_i h;subst h;rw [List.flatten_cons,lines_flat r []];simp
   ·rw [lines_flat r];simp
theorem prs_back:∀ (ls:List Str) (acc l:List Col) (n:Int),prsF acc ls=(l,n,0)→textM l=textM acc++ls.flatten
 | [],acc,l,n,h=>by
   rw [prsF] at h
   have:=congrArg Prod.fst h
   dsimp only at this
   subst this;simp
 | s :: r,acc,l,n,h=>by
   rw [prsF] at h
   cases hc:lcM s with
   | none =>
     rw [hc] at h
     have:=congrArg (fun p=>p.2.2) h
     simp at this
   | some c =>
     rw [hc] at h
     dsimp only at h
     split at h
     ·have:=congrArg (fun p=>p.2.2) h
      simp at this
     ·have ih:=prs_back r _ l n h
      have hs:=((lc_iff s c).1 hc).1
      rw [ih,List.flatten_cons,hs]
      simp [textM]
theorem prsM_text {s:Str} (h:(prsM s).2.2=0):textM (prsM s).1=s:=by
 unfold prsM at h ⊢
 split
 ·rename_i hs;rw [if_pos hs] at h;simp at h
 ·rename_i hs
  rw [if_neg hs] at h
  have:=prs_back (linesF [] s) [] (prsF [] (linesF [] s)).1 (prsF [] (linesF [] s)).2.1 (by rw [←h])
  rw [this,lines_flat];simp [textM]
theorem colK_text {l l':List Col} {rest:Str} (h:colK l rest=.ok l'):(textM l').length≤(textM l).length+rest.length+1:=by
 unfold colK at h
 split at h
 ·simp at h
 split at h
 ·simp at h
 rename_i h1
 rw [ne_eq,Classical.not_not] at h1
 injection h with h;subst h
 rw [prsM_text h1]
 have:(ahM l).1.length≤(textM l).length:=by
  unfold ahM
  split
  ·simp
  ·dsimp only;split<;>simp
 simp only [List.length_append,List.length_cons,List.length_nil];omega
theorem text_name {l:List Col} {c:Col} (h:c∈l):c.name.length≤(textM l).length:=by
 have h1:(lineC c).length≤(textM l).length:=by
  unfold textM
  induction l with
  | nil=>simp at h
  | cons x l ih =>
    rw [List.flatMap_cons,List.length_append]
    rcases List.mem_cons.1 h with rfl|h
    ·omega
    ·have:=ih h;omega
 have h2:=sp_ge c.name
 have h3:=line_len c
 omega
theorem text_cols:∀ l:List Col,l.length≤(textM l).length
 | []=>by simp
 | c :: l=>by
   have:=text_cols l
   have h3:=line_len c
   have e:textM (c :: l)=lineC c++textM l:=by simp [textM]
   rw [e,List.length_append,List.length_cons];omega
theorem hx2_b {a b:UInt8} {x:Int} (h:hx2 a b=some x):0≤x∧x≤255:=by
 unfold hx2 at h
 split at h
 ·rename_i p q hp hq
  injection h with h
  have h1:=hexD_b hp
  have h2:=hexD_b hq
  omega
 ·simp at h
theorem dpM_ok {s:Str} (h:(dpM s).2=0):rightD (dpM s).1=true∧byD (dpM s).1:=by
 unfold dpM at h ⊢
 split at h
 ·simp at h
 rename_i h0
 rw [if_neg h0]
 split at h
 ·rename_i x y e hx hy he
  split at h
  ·rename_i hr
   rw [if_pos hr]
   have b1:=hx2_b hx
   have b2:=hx2_b hy
   exact ⟨hr,b1.1,b1.2,b2.1,b2.2⟩
  ·simp at h
 ·simp at h
theorem ex_best:∀ xs:List Gs,xs≠[]→∃ g∈xs,∀ h∈xs,gsc h < gsc g∨gsc h=gsc g∧gix g≤gix h
 | [],h=>absurd rfl h
 | [x],_=>⟨x,by simp,fun h hh=>by rw [List.mem_singleton] at hh;subst hh;exact .inr ⟨rfl,Nat.le_refl _⟩⟩
 | x :: y :: r,_=>by
   obtain ⟨g,hg,hb⟩:=ex_best (y :: r) ze
   by_cases hc:gsc x < gsc g∨gsc x=gsc g∧gix g≤gix x
   ·exact ⟨g,List.mem_cons_of_mem _ hg,fun h hh=>(List.mem_cons.1 hh).elim (fun e=>e ▸ hc) (hb h)⟩
   ·refine ⟨x,by simp,fun h hh=>(List.mem_cons.1 hh).elim (fun e=>e ▸ .inr ⟨rfl,Nat.le_refl _⟩) fun hh=>?_⟩
    have:=hb h hh
    omega
theorem ixD_inj:∀ d∈triedL,∀ d'∈triedL,ixD d=ixD d'→d.dl=d'.dl∧d.q=d'.q∧d.e=d'.e:=by decide
theorem bestK_is (s:Str):IsBest s (bestK s):=by
 obtain ⟨g,hg,hb⟩:=ex_best (gsL s) (fun h=>by have:=gs_len s;rw [h] at this;simp at this)
 have h:IsBest s g:=by
  refine ⟨hg,fun h hh=>?_⟩
  unfold gsL at hg hh
  obtain ⟨d,hd,rfl⟩:=List.mem_map.1 hg
  obtain ⟨d',hd',rfl⟩:=List.mem_map.1 hh
  by_cases he:gix ⟨d',scoreM d' s⟩=gix ⟨d,scoreM d s⟩
  ·left
   obtain ⟨e1,e2,e3⟩:=ixD_inj d' hd' d hd he
   have:d'=d:=by cases d;cases d';simp_all
   rw [this]
  ·right
   have:=hb ⟨d',scoreM d' s⟩ (List.mem_map.2 ⟨d',hd',rfl⟩)
   unfold Bef
   omega
 rw [bestK_eq h];exact h
def plainK (K:Dk) (nm t:Str):Str×Int×Dk :=
 if (parM K.d wideL t).k=0∧frN ((parM K.d wideL t).rs.map Prod.fst)=(parM K.d wideL t).rs.length then ([111,107],0,{ K with m:=mput K.m nm (txtF K.d true ((parM K.d wideL t).rs.map Prod.fst)) }) else ([],plE (parM K.d wideL t),K)
noncomputable def sniffK (K:Dk) (t:Str):Str×Int×Dk :=
 ((if 0 < (bestK t).sc then txD (bestK t).d++[32]++Lib.itoa (bestK t).sc else []),(if 0 < (bestK t).sc then 0 else 25),{ K with d:=if 0 < (bestK t).sc then (bestK t).d else K.d })
noncomputable def namedK (K:Dk) (v nm:Str):Str×Int×Dk :=
 if nmM nm=true then match K.m nm with
  | none=>([],25,K)
  | some t =>
    if v=[115,104,111,119] then (sqM t,0,K)
    else if v=[99,104,101,99,107] then (checkK K.d t,0,K)
    else if v=[112,108,97,105,110] then plainK K nm t
    else if v=[115,110,105,102,102] then sniffK K t
    else ((if (rowsK K.d K.l t).2=0 then Lib.itoa (rowsK K.d K.l t).1.length else []),(rowsK K.d K.l t).2,K)
 else ([],23,K)
def dialK (K:Dk) (rest:Str):Str×Int×Dk:=if (dpM rest).2=0 then ([111,107],0,{ K with d:=(dpM rest).1 }) else ([],(dpM rest).2,K)
def columnK (K:Dk) (rest:Str):Str×Int×Dk:=match colK K.l rest with
 | .error e=>([],e,K)
 | .ok l=>([111,107],0,{ K with l:=l })
def putK (K:Dk) (rest:Str) (b:Bool):Str×Int×Dk:=match lputM K.m rest b with
 | none=>([],23,K)
 | some m=>([111,107],0,{ K with m:=m })
def setKK (K:Dk) (rest:Str):Str×Int×Dk:=match setK K.d K.m rest with
 | .error e=>([],e,K)
 | .ok m=>([111,107],0,{ K with m:=m })
noncomputable def verbK (K:Dk) (v rest:Str):Str×Int×Dk :=
 if v=[100,105,97,108,101,99,116] then dialK K rest
 else if v=[99,111,108,117,109,110] then columnK K rest
 else if v=[112,117,116] then putK K rest false
 else if v=[97,100,100] then putK K rest true
 else if v=[103,101,116] then ((getK K.d K.m rest).1,(getK K.d K.m rest).2,K)
 else if v=[115,101,116] then setKK K rest
 else if v=[100,105,102,102] then ((diffK K.d K.l K.m rest).1,(diffK K.d K.l K.m rest).2,K)
 else if v=[115,104,111,119]∨v=[99,104,101,99,107]∨v=[112,108,97,105,110]∨v=[115,110,105,102,102]∨v=[114,111,119,115] then namedK K v rest
 else ([],23,K)
noncomputable def lineK (K:Dk) (s:Str):Str×Int×Dk :=
 if s=[99,108,101,97,114] then ([111,107],0,{ K with l:=[] })
 else if (cutT 32 s).2.2=true then verbK K (cutT 32 s).1 (cutT 32 s).2.1 else ([],23,K)
structure DkOK (K:Dk) (N:Nat):Prop where
 r:rightD K.d=true
 b:byD K.d
 m:∀ k t,K.m k=some t→t.length≤N
 l:(textM K.l).length≤N
theorem DkOK.up {K:Dk} {N N':Nat} (h:DkOK K N) (hn:N≤N'):DkOK K N':=⟨h.r,h.b,fun k t hk=>Nat.le_trans (h.m k t hk) hn,Nat.le_trans h.l hn⟩
theorem mput_le {m:Str→Option Str} {N:Nat} {nm x:Str} (h:∀ k t,m k=some t→t.length≤N) (hx:x.length≤N):∀ k t,mput m nm x k=some t→t.length≤N:=by
 intro k t hk
 unfold mput at hk
 split at hk
 ·injection hk with hk;subst hk;exact hx
 ·exact h k t hk
theorem setT_len {d:Dl} (hd:byD d) {t rec:Str} {n:Nat} (h:setF d t n rec=0):(setT d t n ((recsM d rec).getD 0 default)).length≤t.length+rec.length+4:=by
 unfold setF at h
 split at h
 ·simp at h
 rename_i hn
 split at h
 ·simp at h
 rename_i hb
 rw [Classical.not_not] at hn
 have hk2:(parM d wideL rec).k=0:=Classical.byContradiction fun h=>hb (.inr (.inl h))
 have h1:(recsM d rec).length=1:=Classical.byContradiction fun h=>hb (.inr (.inr h))
 have hl:=plain_line hd wideL rec hk2 h1 _ (decide (n=0)) rfl
 have hs:=(spM_spans d t).one n (by have:=spM_len d t;have:=recs_len d t;omega)
 have hh:=(spM_spans d t).hn
 unfold setT recsM
 rw [List.length_append,List.length_append,List.length_take,List.length_drop]
 omega
theorem cutT_sum (c:UInt8) (s:Str) (h:(cutT c s).2.2=true):s.length=(cutT c s).1.length+1+(cutT c s).2.1.length:=by
 rcases cutT_eq c s with ⟨_,e⟩|⟨k,hk,_,e⟩
 ·rw [e] at h;simp at h
 ·rw [e];simp only [List.length_take,List.length_drop];omega
theorem line_ok {K:Dk} {N:Nat} (h:DkOK K N) (s:Str):DkOK (lineK K s).2.2 (N+s.length):=by
 have h0:=h.up (show N≤N+s.length by omega)
 have hc:=cutT_len 32 s
 unfold lineK
 split
 ·exact ⟨h0.r,h0.b,h0.m,by simp [textM]⟩
 split
 rotate_left
 ·exact h0
 have hcs:=cutT_sum 32 s ‹_›
 generalize (cutT 32 s).1=v at *
 generalize (cutT 32 s).2.1=rest at *
 have hc2:=cutT_len 32 rest
 unfold verbK
 split
 ·unfold dialK
  split
  ·rename_i hd
   have:=dpM_ok hd
   exact ⟨this.1,this.2,h0.m,h0.l⟩
  ·exact h0
 split
 ·unfold columnK
  split
  ·exact h0
  ·rename_i l' hl
   have h1:=colK_text hl
   have h2:=h.l
   exact ⟨h0.r,h0.b,h0.m,by show (textM l').length≤_;omega⟩
 have hput : ∀ b,DkOK (putK K rest b).2.2 (N+s.length):=by
  intro b
  unfold putK
  split
  ·exact h0
  ·rename_i m' hm
   refine ⟨h0.r,h0.b,?_,h0.l⟩
   unfold lputM at hm
   split at hm
   ·obtain ⟨t,ht,rfl⟩:=Option.map_eq_some_iff.1 hm
    have hu:=unL_len _ _ (Nat.le_refl _) t ht
    refine mput_le h0.m ?_
    rw [List.length_append]
    have : (if b=true then (K.m (cutT 32 rest).1).getD [] else []).length≤N:=by
     split
     ·cases hk:K.m (cutT 32 rest).1 with
      | none=>simp
      | some x=>exact h.m _ _ hk
     ·simp
    omega
   ·simp at hm
 split
 ·exact hput false
 split
 ·exact hput true
 split
 ·exact h0
 split
 ·rename_i hv
  have hvl:v.length=3:=by rw [hv];rfl
  unfold setKK
  split
  ·exact h0
  ·rename_i m' hm
   refine ⟨h0.r,h0.b,?_,h0.l⟩
   unfold setK at hm
   split at hm
   ·rename_i hpp
    split at hm
    ·rename_i n rec hn hr
     split at hm
     ·simp at hm
     ·rename_i t ht
      split at hm
      ·rename_i hf
       injection hm with hm;subst hm
       refine mput_le h0.m ?_
       have h1:=setT_len h.b hf
       have h2:=unL_len _ _ (Nat.le_refl _) rec hr
       have h3:=h.m _ _ ht
       have h4:=cutT_len 32 (cutT 32 rest).2.1
       have h5:=h4.2.2 hpp.1
       omega
      ·simp at hm
    ·simp at hm
   ·simp at hm
 split
 ·exact h0
 split
 rotate_left
 ·exact h0
 rename_i hv
 have hvl:4≤v.length:=by rcases hv with rfl|rfl|rfl|rfl|rfl<;>simp
 unfold namedK
 split
 rotate_left
 ·exact h0
 split
 ·exact h0
 rename_i t ht
 have h3:=h.m _ _ ht
 split
 ·exact h0
 split
 ·exact h0
 split
 ·unfold plainK
  split
  ·rename_i hp
   refine ⟨h0.r,h0.b,mput_le h0.m ?_,h0.l⟩
   have:=(plain_len h.b wideL t hp.1).1
   omega
  ·exact h0
 split
 ·unfold sniffK
  have hb:=bestK_ok (bestK_is t)
  refine ⟨?_,?_,h0.m,h0.l⟩
  ·dsimp only;split
   ·exact hb.1
   ·exact h0.r
  ·dsimp only;split
   ·exact hb.2.1
   ·exact h0.b
 ·exact h0
attribute [local irreducible] SemK UnitK StK AlcK BslK CallK CallV Instr.box Builtin.append_ Instr.makeSlice Instr.makeMap Instr.lookup Instr.mapUpdate Instr.sliceAt convert
def DkQ (w0:World) (g r:Nat) (M:List Chk) (K:Dk) (w':World):Prop:=∃ lv,Sep w0 w' (boxC g 55 [U K.d.dl,U K.d.q,I K.d.e,lv,.map (some r)] :: mapC r S K.m :: accC lv 121 eC K.l :: M)
section
variable {g r:Nat} {K:Dk} {N:Nat} {lv:Value} {M:List Chk} {w w0:World}
theorem vl_clear (s:Str) (hs:s=[99,108,101,97,114]) (hS:Sep w0 w (boxC g 55 [U K.d.dl,U K.d.q,I K.d.e,lv,.map (some r)] :: mapC r S K.m :: accC lv 121 eC K.l :: M)):Ret Tryz.prog 29 #[(.pointer (some ⟨g,0,none⟩)),S s] w fun v w'=>v=.tuple #[S [111,107],I 0]∧DkQ w0 g r M ({ K with l:=[] }) w':=by
 subst hs
 refine En 80 c29 Tryz.func29 ?_
 repeat' (first|refine G.reg fun K hK=>?_|(refine kM ?_;clear hK K)|refine sA ?_|((with_reducible refine gSt ?_);refine zs2 ?_;intro wb hS)|(refine G.cn ?_ ?_<;>intro hc<;>try exact zxf))
 all_goals
  refine rM ?_
  have hS:=hS.nil 121 eC
  first|exact ⟨_,(Sep.sub hS zw)⟩|exact ⟨rfl,_,(Sep.sub hS zw)⟩
theorem vl_no (s:Str) (hl:s.length≤1000000) (h0:¬ s=[99,108,101,97,114]) (hp:(cutT 32 s).2.2=false) (hS:Sep w0 w (boxC g 55 [U K.d.dl,U K.d.q,I K.d.e,lv,.map (some r)] :: mapC r S K.m :: accC lv 121 eC K.l :: M)):Ret Tryz.prog 29 #[(.pointer (some ⟨g,0,none⟩)),S s] w fun v w'=>v=.tuple #[S ([]:Str),I 23]∧DkQ w0 g r M K w':=by
 refine En 80 c29 Tryz.func29 ?_
 have hcu:=fun w=>cut_spec s 32 w zo
 rw [hp] at hcu
 have e0:(s == [99,108,101,97,114])=false:=by rw [beq_eq_false_iff_ne];exact h0
 (have fct:=@e0;repeat' (first|refine G.reg fun K hK=>?_|(refine kM ?_;clear hK K)|refine sA ?_|((with_reducible refine gSt ?_);refine zs2 ?_;intro wb hS)|(refine zcp 44 (hcu _) ?_;intro wb hS)|(refine G.cn ?_ ?_<;>intro hc<;>try exact zxf)))<;>(try clear fct)
 all_goals
  refine rM ?_
  first|exact ⟨_,(Sep.sub hS zw)⟩|exact ⟨rfl,_,(Sep.sub hS zw)⟩
theorem vl_unk (s v rest:Str) (hc:cutT 32 s=(v,rest,true)) (hl:s.length≤1000000) (n1:¬ v=[100,105,97,108,101,99,116]) (n2:¬ v=[99,111,108,117,109,110]) (n3:¬ v=[112,117,116]) (n4:¬ v=[97,100,100]) (n5:¬ v=[103,101,116]) (n6:¬ v=[115,101,116]) (n7:¬ v=[100,105,102,102]) (n8:¬ (v=[115,104,111,119]∨v=[99,104,101,99,107]∨v=[112,108,97,105,110]∨v=[115,110,105,102,102]∨v=[114,111,119,115])) (hS:Sep w0 w (boxC g 55 [U K.d.dl,U K.d.q,I K.d.e,lv,.map (some r)] :: mapC r S K.m :: accC lv 121 eC K.l :: M)):Ret Tryz.prog 29 #[(.pointer (some ⟨g,0,none⟩)),S s] w fun v w'=>v=.tuple #[S ([]:Str),I 23]∧DkQ w0 g r M K w':=by
 refine En 80 c29 Tryz.func29 ?_
 have hcu:=fun w=>cut_spec s 32 w zo
 rw [hc] at hcu
 dsimp only at hcu
 have e0:=no_clear hc
 have m1:=beq_eq_false_iff_ne.2 n1
 have m2:=beq_eq_false_iff_ne.2 n2
 have m3:=beq_eq_false_iff_ne.2 n3
 have m4:=beq_eq_false_iff_ne.2 n4
 have m5:=beq_eq_false_iff_ne.2 n5
 have m6:=beq_eq_false_iff_ne.2 n6
 have m7:=beq_eq_false_iff_ne.2 n7
 have m8:=beq_eq_false_iff_ne.2 (fun h=>n8 (.inl h))
 have m9:=beq_eq_false_iff_ne.2 (fun h=>n8 (.inr (.inl h)))
 have ma:=beq_eq_false_iff_ne.2 (fun h=>n8 (.inr (.inr (.inl h))))
 have mb:=beq_eq_false_iff_ne.2 (fun h=>n8 (.inr (.inr (.inr (.inl h)))))
 have md:=beq_eq_false_iff_ne.2 (fun h=>n8 (.inr (.inr (.inr (.inr h)))))
 clear n1 n2 n3 n4 n5 n6 n7 n8
 (have fct:=(aI @e0 (aI @m1 (aI @m2 (aI @m3 (aI @m4 (aI @m5 (aI @m6 (aI @m7 (aI @m8 (aI @m9 (aI @ma (aI @mb @md))))))))))));repeat' (first|refine G.reg fun K hK=>?_|(refine kM ?_;clear hK K)|refine sA ?_|((with_reducible refine gSt ?_);refine zs2 ?_;intro wb hS)|(refine zcp 44 (hcu _) ?_;intro wb hS)|(refine G.cn ?_ ?_<;>intro hc<;>try exact zxf)))<;>(try clear fct)
 all_goals
  refine rM ?_
  first|exact ⟨_,(Sep.sub hS zw)⟩|exact ⟨rfl,_,(Sep.sub hS zw)⟩
theorem vl_dial0 (rest:Str) (hl:rest.length≤1000000) (h:(dpM rest).2≠0) (hS:Sep w0 w (boxC g 55 [U K.d.dl,U K.d.q,I K.d.e,lv,.map (some r)] :: mapC r S K.m :: accC lv 121 eC K.l :: M)) :
 Ret Tryz.prog 45 #[(.pointer (some ⟨g,0,none⟩)),S rest] w fun v w'=>v=.tuple #[S [],I (dpM rest).2]∧DkQ w0 g r M K w':=by
 refine En 20 c45 Tryz.func45 ?_
 have hdp:=fun w=>dparse_spec rest w zo
 generalize dpM rest=p at *
 obtain ⟨d,e⟩:=p
 dsimp only at hdp h ⊢
 repeat' (first|refine G.reg fun K hK=>?_|(refine kM ?_;clear hK K)|refine sA ?_|(refine zalc ?_;intro gb wb hS)|((with_reducible refine gSt ?_);refine zs2 ?_;intro wb hS)|(refine zcp 62 (hdp _) ?_;intro wb hS)|(refine G.cn ?_ ?_<;>intro hc<;>try exact zxf))
 all_goals
  refine rM ?_
  first|exact ⟨_,(Sep.sub hS zw)⟩|exact ⟨rfl,_,(Sep.sub hS zw)⟩
end
section
variable {g r:Nat} {K:Dk} {N:Nat} {lv:Value} {M:List Chk} {w w0:World}
theorem vset_spec (rest:Str) (hl:rest.length≤1000) (hK:DkOK K N) (hN:N≤1040) (hv:ErrV w0) (hS:Sep w0 w (boxC g 55 [U K.d.dl,U K.d.q,I K.d.e,lv,.map (some r)] :: mapC r S K.m :: accC lv 121 eC K.l :: M)) :
 Ret Tryz.prog 49 #[(.pointer (some ⟨g,0,none⟩)),S rest] w fun v w'=>v=.tuple #[S (setKK K rest).1,I (setKK K rest).2.1]∧DkQ w0 g r M (setKK K rest).2.2 w':=by
 obtain ⟨nm,re2,p1,hc⟩:∃ a b c,cutT 32 rest=(a,b,c):=⟨_,_,_,rfl⟩
 obtain ⟨dg,sp,pt,hc2⟩:∃ a b c,cutT 32 re2=(a,b,c):=⟨_,_,_,rfl⟩
 have key:∀ {v:Value} {w':World},(v=.tuple #[S [],I 23]∧Sep w0 w' (boxC g 55 [U K.d.dl,U K.d.q,I K.d.e,lv,.map (some r)] :: mapC r S K.m :: accC lv 121 eC K.l :: M))→setK K.d K.m rest=.error 23→(v=.tuple #[S (setKK K rest).1,I (setKK K rest).2.1]∧DkQ w0 g r M (setKK K rest).2.2 w'):=by
  intro v w' h e
  unfold setKK
  rw [e]
  exact ⟨h.1,lv,h.2⟩
 by_cases hf:pt=true∧nmM nm=true∧(nuM dg).isSome=true∧(unL sp).isSome=true
 rotate_left
 ·refine (vset_form rest nm re2 dg sp p1 pt hc hc2 zo hf hv hS).mono fun v w' h=>key h ?_
  unfold setK
  rw [hc]
  dsimp only
  rw [hc2]
  dsimp only
  by_cases h1:pt=true∧nmM nm=true
  ·rw [if_pos h1]
   cases h2:nuM dg with
   | none=>rfl
   | some n=>cases h3:unL sp with
     | none=>rfl
     | some rec=>exact absurd ⟨h1.1,h1.2,by rw [h2];rfl,by rw [h3];rfl⟩ hf
  ·rw [if_neg h1]
 obtain ⟨rfl,hn,hu1,hu2⟩:=hf
 obtain ⟨n,hu1⟩:=Option.isSome_iff_exists.1 hu1
 obtain ⟨rec,hu2⟩:=Option.isSome_iff_exists.1 hu2
 have e:setK K.d K.m rest=match K.m nm with
  | none=>.error 25
  | some t=>if setF K.d t n rec=0 then .ok (mput K.m nm (setT K.d t n ((recsM K.d rec).getD 0 default))) else .error (setF K.d t n rec):=by
  unfold setK
  rw [hc]
  dsimp only
  rw [hc2]
  dsimp only
  rw [if_pos ⟨rfl,hn⟩,hu1,hu2]
  dsimp only
  split<;>rename_i h<;>simp only [h]
 unfold setKK
 cases hm:K.m nm with
 | none =>
   rw [e,hm]
   dsimp only
   exact (vset_none rest nm re2 dg sp rec n p1 hc hc2 zo hn hu1 hu2 hm hv hS).mono fun v w' h=>⟨h.1,lv,h.2⟩
 | some t =>
   have htl:=hK.m _ _ hm
   rw [e,hm]
   dsimp only
   have h:=vset_some rest nm re2 dg sp rec t n p1 hc hc2 hl hn hu1 hu2 hm zo hK.b hK.r hv rfl rfl hS
   by_cases h0:setF K.d t n rec=0
   ·simp only [if_pos h0]
    exact h.mono fun v w' h=>⟨(h.1 h0).1,lv,(h.1 h0).2⟩
   ·simp only [if_neg h0]
    exact h.mono fun v w' h=>⟨(h.2 h0).1,lv,(h.2 h0).2⟩
theorem vnamed_spec (v nm:Str) (hv0:v=[115,104,111,119]∨v=[99,104,101,99,107]∨v=[112,108,97,105,110]∨v=[115,110,105,102,102]∨v=[114,111,119,115]) (hl:nm.length≤1000) (hK:DkOK K N) (hN:N≤1040) (hv:ErrV w0) (ht:Tab w0) (hS:Sep w0 w (boxC g 55 [U K.d.dl,U K.d.q,I K.d.e,lv,.map (some r)] :: mapC r S K.m :: accC lv 121 eC K.l :: M)) :
 Ret Tryz.prog 51 #[(.pointer (some ⟨g,0,none⟩)),S v,S nm] w fun res w'=>res=.tuple #[S (namedK K v nm).1,I (namedK K v nm).2.1]∧DkQ w0 g r M (namedK K v nm).2.2 w':=by
 unfold namedK
 cases hn:nmM nm with
 | false =>
   rw [if_neg ze]
   have h:=nerr_spec v nm zo (.inl hn) hS
   rw [hn] at h
   exact h.mono fun v w' h=>⟨h.1,lv,h.2⟩
 | true =>
 rw [if_pos rfl]
 cases hm:K.m nm with
 | none =>
   have h:=nerr_spec v nm zo (.inr hm) hS
   rw [hn] at h
   exact h.mono fun v w' h=>⟨h.1,lv,h.2⟩
 | some t =>
 have htl:=hK.m _ _ hm
 dsimp only
 rcases hv0 with rfl|rfl|rfl|rfl|rfl
 ·rw [if_pos rfl]
  exact (nshow_spec nm t zo zo hn hm hS).mono fun v w' h=>⟨h.1,lv,h.2⟩
 ·rw [if_neg zd,if_pos rfl]
  exact (ncheck_spec nm t zo _ (fun w hS=>dcheckA_spec t zo hK.r ht hS) hn hm hS).mono fun v w' h=>⟨h.1,lv,h.2⟩
 ·rw [if_neg zd,if_neg zd,if_pos rfl]
  unfold plainK
  have hmb:=tabB_of K.d wideL t zo
  have hpn:=parM_len K.d wideL t
  by_cases hp:(parM K.d wideL t).k=0∧frN ((parM K.d wideL t).rs.map Prod.fst)=(parM K.d wideL t).rs.length
  ·rw [if_pos hp]
   exact (nplain_spec nm t zo _ _ _ (fun w hS=>dplain_spec1 nm t zo hK.b hK.r rfl hmb zo hp.1 hp.2 hS) hn hm hS).mono fun v w' h=>⟨h.1,lv,h.2⟩
  ·rw [if_neg hp]
   have hp2:(parM K.d wideL t).k≠0∨frN ((parM K.d wideL t).rs.map Prod.fst)≠(parM K.d wideL t).rs.length:=by
    by_cases h:(parM K.d wideL t).k=0
    ·exact .inr fun h2=>hp ⟨h,h2⟩
    ·exact .inl h
   exact (nplain_spec nm t zo _ _ _ (fun w hS=>dplain_spec0 nm t zo hK.b hK.r rfl hmb zo hp2 hS) hn hm hS).mono fun v w' h=>⟨h.1,lv,h.2⟩
 ·rw [if_neg zd,if_neg zd,if_neg zd,if_pos rfl]
  unfold sniffK
  exact (nsniff_spec nm t zo zo ht hn hm hS).mono fun v w' h=>⟨h.1,lv,h.2⟩
 ·rw [if_neg zd,if_neg zd,if_neg zd,if_neg zd]
  have hc:=text_cols K.l
  have hkl:=hK.l
  have hrw:=(rowsK_wide K.d K.l t).2
  exact (nrows_spec nm t zo zo zo (fun c hc=>by have:=text_name hc;omega) ht hv hn hm zo hS).mono fun v w' h=>⟨h.1,lv,h.2⟩
theorem vline_spec (s:Str) (hs:s.length≤1000) (hK:DkOK K N) (hN:N≤1040) (hv:ErrV w0) (ht:Tab w0) (hS:Sep w0 w (boxC g 55 [U K.d.dl,U K.d.q,I K.d.e,lv,.map (some r)] :: mapC r S K.m :: accC lv 121 eC K.l :: M)) :
 Ret Tryz.prog 29 #[(.pointer (some ⟨g,0,none⟩)),S s] w fun v w'=>v=.tuple #[S (lineK K s).1,I (lineK K s).2.1]∧DkQ w0 g r M (lineK K s).2.2 w':=by
 unfold lineK
 by_cases h0:s=[99,108,101,97,114]
 ·rw [if_pos h0];exact vl_clear s h0 hS
 rw [if_neg h0]
 by_cases hp:(cutT 32 s).2.2=true
 rotate_left
 ·rw [if_neg hp];exact vl_no s zo h0 (by simpa using hp) hS
 rw [if_pos hp]
 have hcl:=cutT_len 32 s
 obtain ⟨v,rest,hc⟩:∃ v rest,cutT 32 s=(v,rest,true):=⟨(cutT 32 s).1,(cutT 32 s).2.1,by rw [←hp]⟩
 rw [hc] at hcl ⊢
 dsimp only at hcl ⊢
 have hcols:=text_cols K.l
 have hkl:=hK.l
 have hcn:∀ c∈K.l,c.name.length≤1040:=fun c hc=>by have:=text_name hc;omega
 unfold verbK
 by_cases n1:v=[100,105,97,108,101,99,116]
 ·subst n1
  rw [if_pos rfl]
  unfold dialK
  by_cases hd:(dpM rest).2=0
  ·rw [if_pos hd]
   exact line_dialect s rest hc zo (fun w hS=>(ddial_spec1 (d':=(dpM rest).1) rest zo (by rw [←hd]) hS).mono fun v w' h=>⟨h.1,lv,h.2⟩) hS
  ·rw [if_neg hd]
   exact line_dialect s rest hc zo (fun w hS=>vl_dial0 rest zo hd hS) hS
 rw [if_neg n1]
 by_cases n2:v=[99,111,108,117,109,110]
 ·subst n2
  rw [if_pos rfl]
  unfold columnK
  have hcs:=fun w hS=>vcol_spec (w:=w) (w0:=w0) (g:=g) (r:=r) (d:=K.d) (l:=K.l) (lv:=lv) (m:=K.m) (M:=M) rest zo (fun c hc=>by have:=hcn c hc;omega) zo zo hS
  cases hcol:colK K.l rest with
  | error e =>
    rw [hcol] at hcs
    exact line_column s rest hc zo (fun w hS=>(hcs w hS).mono fun v w' h=>⟨h.1,lv,h.2⟩) hS
  | ok l' =>
    rw [hcol] at hcs
    exact line_column s rest hc zo (fun w hS=>(hcs w hS).mono fun v w' ⟨h1,lv',h2⟩=>⟨h1,lv',h2⟩) hS
 rw [if_neg n2]
 have hput:∀ (b:Bool) w,Sep w0 w (boxC g 55 [U K.d.dl,U K.d.q,I K.d.e,lv,.map (some r)] :: mapC r S K.m :: accC lv 121 eC K.l :: M)→Ret Tryz.prog 47 #[(.pointer (some ⟨g,0,none⟩)),S rest,.bool b] w fun v w'=>v=.tuple #[S (putK K rest b).1,I (putK K rest b).2.1]∧DkQ w0 g r M (putK K rest b).2.2 w':=by
  intro b w hS
  unfold putK
  cases hp:lputM K.m rest b with
  | none=>exact (put_spec0 rest b zo hp).mono fun v w' h=>⟨h.1,lv,hS.ext h.2⟩
  | some m'=>exact (put_spec1 rest b zo (fun k t h=>by have:=hK.m k t h;omega) hp hS).mono fun v w' h=>⟨h.1,lv,h.2⟩
 by_cases n3:v=[112,117,116]
 ·subst n3
  rw [if_pos rfl]
  exact line_put s rest hc zo (fun w hS=>hput false w hS) hS
 rw [if_neg n3]
 by_cases n4:v=[97,100,100]
 ·subst n4
  rw [if_pos rfl]
  exact line_add s rest hc zo (fun w hS=>hput true w hS) hS
 rw [if_neg n4]
 by_cases n5:v=[103,101,116]
 ·subst n5
  rw [if_pos rfl]
  exact line_get s rest hc zo (fun w hS=>(vget_spec rest zo (fun k t h=>by have:=hK.m k t h;omega) hK.b hK.r hv hS).mono fun v w' h=>⟨h.1,lv,h.2⟩) hS
 rw [if_neg n5]
 by_cases n6:v=[115,101,116]
 ·subst n6
  rw [if_pos rfl]
  exact line_set s rest hc zo (fun w hS=>vset_spec rest zo hK hN hv hS) hS
 rw [if_neg n6]
 by_cases n7:v=[100,105,102,102]
 ·subst n7
  rw [if_pos rfl]
  exact line_diff s rest hc zo (fun w hS=>(vdiff_spec rest zo (fun k t h=>by have:=hK.m k t h;omega) zo (fun c hc=>by have:=hcn c hc;omega) hv ht hS).mono fun v w' h=>⟨h.1,lv,h.2⟩) hS
 rw [if_neg n7]
 by_cases n8:v=[115,104,111,119]∨v=[99,104,101,99,107]∨v=[112,108,97,105,110]∨v=[115,110,105,102,102]∨v=[114,111,119,115]
 rotate_left
 ·rw [if_neg n8]
  exact vl_unk s v rest hc zo n1 n2 n3 n4 n5 n6 n7 n8 hS
 rw [if_pos n8]
 have hnm:=fun w hS=>vnamed_spec (w:=w) (w0:=w0) (g:=g) (r:=r) (K:=K) (N:=N) (lv:=lv) (M:=M) v rest n8 zo hK hN hv ht hS
 rcases n8 with rfl|rfl|rfl|rfl|rfl
 ·exact line_show s rest hc zo hnm hS
 ·exact line_check s rest hc zo hnm hS
 ·exact line_plain s rest hc zo hnm hS
 ·exact line_sniff s rest hc zo hnm hS
 ·exact line_rows s rest hc zo hnm hS
end
def cR (x:Int):Prop:=0≤x∧x≤30
theorem cR_mayR (r:List Str):cR (mayR r):=⟨(mayR_kb r).1,Int.le_trans (mayR_kb r).2 zd⟩
theorem cR_kb {x:Int} (h:kB x):cR x:=⟨h.1,Int.le_trans h.2 zd⟩
theorem checkF_cR:∀ (l:List (Str×Int)) (a:List Str),cR (checkF a l).2
 | [],_=>⟨by simp [checkF,bcF,pickF,prsF],by simp [checkF,bcF,pickF,prsF]⟩
 | c :: r,a=>by
   rw [checkF]
   split
   ·split
    ·split
     ·exact ⟨by simp [checkF,bcF,pickF,prsF],by simp [checkF,bcF,pickF,prsF]⟩
     ·exact checkF_cR r _
    ·exact ⟨by simp [checkF,bcF,pickF,prsF],by simp [checkF,bcF,pickF,prsF]⟩
   ·exact ⟨by simp [checkF,bcF,pickF,prsF],by simp [checkF,bcF,pickF,prsF]⟩
theorem checkM_cR (l:List (Str×Int)):cR (checkM l).2:=by
 unfold checkM
 split
 ·exact ⟨by simp [checkF,bcF,pickF,prsF],by simp [checkF,bcF,pickF,prsF]⟩
 ·exact checkF_cR l []
theorem bcF_cR (names:List Str) (mode:Int):∀ (r:List Str) (out:List Int),cR (bcF names mode r out).2.2
 | [],_=>⟨by simp [checkF,bcF,pickF,prsF],by simp [checkF,bcF,pickF,prsF]⟩
 | c :: r,out=>by
   rw [bcF]
   split
   ·exact ⟨by simp [checkF,bcF,pickF,prsF],by simp [checkF,bcF,pickF,prsF]⟩
   ·exact bcF_cR names mode r _
theorem pickF_cR (r:List Str):∀ (l:List Int) (out:List Str),cR (pickF r l out).2
 | [],_=>⟨by simp [checkF,bcF,pickF,prsF],by simp [checkF,bcF,pickF,prsF]⟩
 | p :: l,out=>by
   rw [pickF]
   split
   ·exact ⟨by simp [checkF,bcF,pickF,prsF],by simp [checkF,bcF,pickF,prsF]⟩
   ·exact pickF_cR r l _
theorem pickM_cR (r:List Str) (p:List Int):cR (pickM r p).2:=by
 unfold pickM
 split
 ·exact ⟨by simp [checkF,bcF,pickF,prsF],by simp [checkF,bcF,pickF,prsF]⟩
 ·exact pickF_cR r p []
theorem prsF_cR:∀ (ls:List Str) (acc:List Col),cR (prsF acc ls).2.2
 | [],_=>⟨by simp [checkF,bcF,pickF,prsF],by simp [checkF,bcF,pickF,prsF]⟩
 | s :: r,acc=>by
   rw [prsF]
   split
   ·exact ⟨by simp [checkF,bcF,pickF,prsF],by simp [checkF,bcF,pickF,prsF]⟩
   ·split
    ·exact ⟨by simp [checkF,bcF,pickF,prsF],by simp [checkF,bcF,pickF,prsF]⟩
    ·exact prsF_cR r _
theorem prsM_cR (s:Str):cR (prsM s).2.2:=by
 unfold prsM
 split
 ·exact ⟨by simp [checkF,bcF,pickF,prsF],by simp [checkF,bcF,pickF,prsF]⟩
 ·exact prsF_cR _ _
theorem keysF_cR (names:List Str):∀ (ks:List Str) (ps:List Int) (i:Int) (x:Int×Int),keysF names ks ps i=some x→cR x.2
 | [],_,_,_,h=>by simp [keysF] at h
 | k :: ks,ps,i,x,h=>by
   rw [keysF] at h
   split at h
   ·injection h with h;subst h;exact ⟨by simp [checkF,bcF,pickF,prsF],by simp [checkF,bcF,pickF,prsF]⟩
   ·split at h
    ·injection h with h;subst h;exact ⟨by simp [checkF,bcF,pickF,prsF],by simp [checkF,bcF,pickF,prsF]⟩
    ·exact keysF_cR names ks _ _ x h
theorem rowsF_cR (n:Int) (ps:List Int):∀ (rs:List (List Val)) (ah:List Str) (i:Int) (x:Int×Int),rowsF n ps rs ah i=some x→cR x.2
 | [],_,_,_,h=>by simp [rowsF] at h
 | r :: rs,ah,i,x,h=>by
   rw [rowsF] at h
   split at h
   ·injection h with h;subst h;exact ⟨by simp [checkF,bcF,pickF,prsF],by simp [checkF,bcF,pickF,prsF]⟩
   ·split at h
    ·injection h with h;subst h;exact ⟨by simp [checkF,bcF,pickF,prsF],by simp [checkF,bcF,pickF,prsF]⟩
    ·split at h
     ·injection h with h;subst h;exact ⟨by simp [checkF,bcF,pickF,prsF],by simp [checkF,bcF,pickF,prsF]⟩
     ·exact rowsF_cR n ps rs _ _ x h
theorem dchkM_cR (l:List Col) (rows:List (List Val)) (keys:List Str):cR (dchkM l rows keys).2:=by
 unfold dchkM
 split
 ·exact checkM_cR _
 split
 ·exact ⟨by simp [checkF,bcF,pickF,prsF],by simp [checkF,bcF,pickF,prsF]⟩
 unfold orE
 split
 ·exact keysF_cR _ _ _ _ _ ‹_›
 ·split
  ·exact rowsF_cR _ _ _ _ _ _ ‹_›
  ·exact ⟨by simp [checkF,bcF,pickF,prsF],by simp [checkF,bcF,pickF,prsF]⟩
theorem diffE_cR {la lb:List Col} {ra rb:List (List Val)} {keys:List Str} {e:Int} (h:diffE la lb ra rb keys=.error e):cR e:=by
 unfold diffE at h
 split at h
 ·injection h with h;subst h;exact ⟨by simp [checkF,bcF,pickF,prsF],by simp [checkF,bcF,pickF,prsF]⟩
 split at h
 ·injection h with h;subst h;exact dchkM_cR _ _ _
 split at h
 ·injection h with h;subst h;exact dchkM_cR _ _ _
 ·simp at h
theorem encM_cR (v:Val) (k:Int) (nl:Bool):cR (encM v k nl).2:=by
 unfold encM
 repeat' split
 all_goals exact ⟨by simp,by simp⟩
theorem tellF_cR (a:Nat) (k:Int) (nl:Bool):∀ (D:List Chg) (acc:List Str) (e:Int),tellF a k nl D acc=.error e→cR e
 | [],acc,e,h=>by rw [tellF] at h;simp at h
 | c :: D,acc,e,h=>by
   rw [tellF] at h
   split at h
   ·injection h with h;subst h;exact encM_cR _ _ _
   ·exact tellF_cR a k nl D _ e h
theorem dpM_cR (s:Str):cR (dpM s).2:=by
 unfold dpM
 split
 ·exact ⟨by simp [checkF,bcF,pickF,prsF],by simp [checkF,bcF,pickF,prsF]⟩
 ·split
  ·split
   ·exact ⟨by simp [checkF,bcF,pickF,prsF],by simp [checkF,bcF,pickF,prsF]⟩
   ·exact ⟨by simp [checkF,bcF,pickF,prsF],by simp [checkF,bcF,pickF,prsF]⟩
  ·exact ⟨by simp [checkF,bcF,pickF,prsF],by simp [checkF,bcF,pickF,prsF]⟩
theorem plE_cR (d:Dl) (t:Str):cR (plE (parM d wideL t)):=by
 unfold plE
 split
 ·exact cR_mayR _
 ·exact cR_kb (parM_kb d wideL t).1
theorem newF_cR:∀ (r a:List Str),cR (newF a r).2
 | [],_=>⟨by simp [newF],by simp [newF]⟩
 | n :: r,a=>by
   rw [newF]
   split
   ·split
    ·exact ⟨by simp [checkF,bcF,pickF,prsF],by simp [checkF,bcF,pickF,prsF]⟩
    ·exact newF_cR r _
   ·exact ⟨by simp [checkF,bcF,pickF,prsF],by simp [checkF,bcF,pickF,prsF]⟩
theorem newM_cR (r:List Str):cR (newM r).2:=by
 unfold newM
 split
 ·exact ⟨by simp [checkF,bcF,pickF,prsF],by simp [checkF,bcF,pickF,prsF]⟩
 ·exact newF_cR r []
theorem bindCM_cR (names:List Str) (cs:List (Str×Int)) (mode:Int):cR (bindCM names cs mode).2.2:=by
 unfold bindCM
 split
 ·exact ⟨by simp [checkF,bcF,pickF,prsF],by simp [checkF,bcF,pickF,prsF]⟩
 split
 ·exact checkM_cR cs
 split
 ·exact newM_cR names
 split
 ·exact bcF_cR _ _ _ _
 split
 ·split
  ·exact ⟨by simp [checkF,bcF,pickF,prsF],by simp [checkF,bcF,pickF,prsF]⟩
  ·exact bcF_cR _ _ _ _
 ·exact bcF_cR _ _ _ _
theorem deM_cR (s:Str) (k:Int) (nl:Bool):cR (deM s k nl).2:=by
 have h:cR (pnM s).2:=by
  unfold pnM
  repeat' split
  all_goals exact ⟨by simp [checkF,bcF,pickF,prsF],by simp [checkF,bcF,pickF,prsF]⟩
 unfold deM
 repeat' split
 all_goals first|exact h|exact ⟨by simp [checkF,bcF,pickF,prsF],by simp [checkF,bcF,pickF,prsF]⟩
theorem rowF_cR:∀ (r:List Str) (l:List Col) (out:List Val),cR (rowF r l out).2.2
 | s :: r,c :: l,out=>by
   rw [rowF]
   split
   ·exact deM_cR _ _ _
   ·exact rowF_cR r l _
 | [],l,out=>by rw [rowF];exact ⟨by simp [checkF,bcF,pickF,prsF],by simp [checkF,bcF,pickF,prsF]⟩;simp
 | s :: r,[],out=>by rw [rowF];exact ⟨by simp [checkF,bcF,pickF,prsF],by simp [checkF,bcF,pickF,prsF]⟩;simp
theorem rowM_cR (r:List Str) (l:List Col):cR (rowM r l).2.2:=by
 unfold rowM
 split
 ·exact rowF_cR r l []
 ·exact ⟨by simp [checkF,bcF,pickF,prsF],by simp [checkF,bcF,pickF,prsF]⟩
theorem rdF_cR (r0:Nat) (p:List Int) (l:List Col) (fk fa:Int) (hf:cR fk):∀ (t:List (List Str)) (out:List (List Val)),cR (rdF r0 p l fk fa t out).2.k
 | [],out=>by
   rw [rdF]
   split
   ·exact hf
   ·exact ⟨by simp [checkF,bcF,pickF,prsF],by simp [checkF,bcF,pickF,prsF]⟩
 | r :: t,out=>by
   rw [rdF]
   split
   ·exact ⟨by simp [checkF,bcF,pickF,prsF],by simp [checkF,bcF,pickF,prsF]⟩
   split
   ·exact pickM_cR _ _
   split
   ·exact rowM_cR _ _
   ·exact rdF_cR r0 p l fk fa hf t _
theorem readM_cR (d:Dl) (l:List Col) (mode:Int) (s:Str):cR (readM d l mode s).2.k:=by
 have hf:=cR_kb (parM_kb d wideL s).1
 unfold readM
 split
 ·exact checkM_cR _
 split
 ·exact ⟨by simp [checkF,bcF,pickF,prsF],by simp [checkF,bcF,pickF,prsF]⟩
 split
 ·exact ⟨by simp [checkF,bcF,pickF,prsF],by simp [checkF,bcF,pickF,prsF]⟩
 generalize (parM d wideL s).rs.map Prod.fst=t
 cases t with
 | nil =>
   rw [rdT]
   split
   ·exact hf
   ·exact ⟨by simp [checkF,bcF,pickF,prsF],by simp [checkF,bcF,pickF,prsF]⟩
 | cons r0 t =>
   rw [rdT]
   split
   ·exact bindCM_cR _ _ _
   ·exact rdF_cR _ _ _ _ _ hf _ _
theorem rowsK_cR (d:Dl) (l:List Col) (s:Str):cR (rowsK d l s).2:=by
 unfold rowsK
 split
 ·exact ⟨by simp [checkF,bcF,pickF,prsF],by simp [checkF,bcF,pickF,prsF]⟩
 ·exact readM_cR _ _ _ _
theorem diffK_cR (d:Dl) (l:List Col) (m:Str→Option Str) (rest:Str):cR (diffK d l m rest).2:=by
 unfold diffK
 split
 rotate_left
 ·exact ⟨by simp [checkF,bcF,pickF,prsF],by simp [checkF,bcF,pickF,prsF]⟩
 split
 rotate_left
 ·exact ⟨by simp [checkF,bcF,pickF,prsF],by simp [checkF,bcF,pickF,prsF]⟩
 unfold diff2K
 split
 ·exact rowsK_cR _ _ _
 split
 ·exact rowsK_cR _ _ _
 split
 ·rename_i h;exact diffE_cR h
 ·unfold tellK
  split
  ·exact ⟨by simp [checkF,bcF,pickF,prsF],by simp [checkF,bcF,pickF,prsF]⟩
  ·unfold tellJ
   split
   ·rename_i h;exact tellF_cR _ _ _ _ _ _ h
   ·exact ⟨by simp [checkF,bcF,pickF,prsF],by simp [checkF,bcF,pickF,prsF]⟩
theorem getK_cR (d:Dl) (m:Str→Option Str) (rest:Str):cR (getK d m rest).2:=by
 unfold getK
 split
 rotate_left
 ·exact ⟨by simp [checkF,bcF,pickF,prsF],by simp [checkF,bcF,pickF,prsF]⟩
 split
 ·exact ⟨by simp [checkF,bcF,pickF,prsF],by simp [checkF,bcF,pickF,prsF]⟩
 split
 ·exact ⟨by simp [checkF,bcF,pickF,prsF],by simp [checkF,bcF,pickF,prsF]⟩
 split
 ·split
  ·exact ⟨by simp [checkF,bcF,pickF,prsF],by simp [checkF,bcF,pickF,prsF]⟩
  ·exact cR_mayR _
 ·exact ⟨by simp [checkF,bcF,pickF,prsF],by simp [checkF,bcF,pickF,prsF]⟩
theorem setF_cR (d:Dl) (t:Str) (n:Nat) (rec:Str):cR (setF d t n rec):=by
 unfold setF
 split
 ·exact ⟨by simp [checkF,bcF,pickF,prsF],by simp [checkF,bcF,pickF,prsF]⟩
 split
 ·exact ⟨by simp [checkF,bcF,pickF,prsF],by simp [checkF,bcF,pickF,prsF]⟩
 ·exact cR_mayR _
theorem colK_cR {l:List Col} {rest:Str} {e:Int} (h:colK l rest=.error e):cR e:=by
 unfold colK at h
 split at h
 ·injection h with h;subst h
  unfold ahM
  split
  ·exact ⟨by simp [checkF,bcF,pickF,prsF],by simp [checkF,bcF,pickF,prsF]⟩
  ·exact checkM_cR _
 split at h
 ·injection h with h;subst h;exact prsM_cR _
 ·simp at h
theorem setK_cR {d:Dl} {m:Str→Option Str} {rest:Str} {e:Int} (h:setK d m rest=.error e):cR e:=by
 unfold setK at h
 split at h
 ·split at h
  ·split at h
   ·injection h with h;subst h;exact ⟨by simp [checkF,bcF,pickF,prsF],by simp [checkF,bcF,pickF,prsF]⟩
   ·split at h
    ·simp at h
    ·injection h with h;subst h;exact setF_cR _ _ _ _
  ·injection h with h;subst h;exact ⟨by simp [checkF,bcF,pickF,prsF],by simp [checkF,bcF,pickF,prsF]⟩
 ·injection h with h;subst h;exact ⟨by simp [checkF,bcF,pickF,prsF],by simp [checkF,bcF,pickF,prsF]⟩
theorem line_cR (K:Dk) (s:Str):cR (lineK K s).2.1:=by
 unfold lineK
 split
 ·exact ⟨by simp [checkF,bcF,pickF,prsF],by simp [checkF,bcF,pickF,prsF]⟩
 split
 rotate_left
 ·exact ⟨by simp [checkF,bcF,pickF,prsF],by simp [checkF,bcF,pickF,prsF]⟩
 unfold verbK
 split
 ·unfold dialK
  split
  ·exact ⟨by simp [checkF,bcF,pickF,prsF],by simp [checkF,bcF,pickF,prsF]⟩
  ·exact dpM_cR _
 split
 ·unfold columnK
  split
  ·rename_i h;exact colK_cR h
  ·exact ⟨by simp [checkF,bcF,pickF,prsF],by simp [checkF,bcF,pickF,prsF]⟩
 split
 ·unfold putK;split<;>exact ⟨by simp [checkF,bcF,pickF,prsF],by simp [checkF,bcF,pickF,prsF]⟩
 split
 ·unfold putK;split<;>exact ⟨by simp [checkF,bcF,pickF,prsF],by simp [checkF,bcF,pickF,prsF]⟩
 split
 ·exact getK_cR _ _ _
 split
 ·unfold setKK
  split
  ·rename_i h;exact setK_cR h
  ·exact ⟨by simp [checkF,bcF,pickF,prsF],by simp [checkF,bcF,pickF,prsF]⟩
 split
 ·exact diffK_cR _ _ _ _
 split
 rotate_left
 ·exact ⟨by simp [checkF,bcF,pickF,prsF],by simp [checkF,bcF,pickF,prsF]⟩
 unfold namedK
 split
 rotate_left
 ·exact ⟨by simp [checkF,bcF,pickF,prsF],by simp [checkF,bcF,pickF,prsF]⟩
 split
 ·exact ⟨by simp [checkF,bcF,pickF,prsF],by simp [checkF,bcF,pickF,prsF]⟩
 split
 ·exact ⟨by simp [checkF,bcF,pickF,prsF],by simp [checkF,bcF,pickF,prsF]⟩
 split
 ·exact ⟨by simp [checkF,bcF,pickF,prsF],by simp [checkF,bcF,pickF,prsF]⟩
 split
 ·unfold plainK
  split
  ·exact ⟨by simp [checkF,bcF,pickF,prsF],by simp [checkF,bcF,pickF,prsF]⟩
  ·exact plE_cR _ _
 split
 ·unfold sniffK
  dsimp only
  split<;>exact ⟨by simp [checkF,bcF,pickF,prsF],by simp [checkF,bcF,pickF,prsF]⟩
 ·exact rowsK_cR _ _ _
noncomputable def answK (K:Dk) (s:Str):Str:=ansM (lineK K s).1 (lineK K s).2.1
theorem vLine_spec {g r:Nat} {K:Dk} {N:Nat} {lv:Value} {M:List Chk} {w w0:World} (s:Str) (hs:s.length≤1000) (hK:DkOK K N) (hN:N≤1040) (hv:ErrV w0) (ht:Tab w0) (hS:Sep w0 w (boxC g 55 [U K.d.dl,U K.d.q,I K.d.e,lv,.map (some r)] :: mapC r S K.m :: accC lv 121 eC K.l :: M)) :
 Ret Tryz.prog 11 #[(.pointer (some ⟨g,0,none⟩)),S s] w fun v w'=>v=S (answK K s)∧DkQ w0 g r M (lineK K s).2.2 w':=by
 have hc:=line_cR K s
 exact Line_of s ⟨Int.le_trans zd hc.1,Int.le_trans hc.2 zd⟩ (.inr ht) (fun w hS=>vline_spec s hs hK hN hv ht hS) hS (fun w1 w2 h hx=>by obtain ⟨lv,h⟩:=h;exact ⟨h.x,lv,h.ext hx⟩)
def K0:Dk:=⟨exD,[],fun _=>none⟩
noncomputable def dkS (l:List Str):Dk:=l.foldl (fun K s=>(lineK K s).2.2) K0
noncomputable def ansL (l:List Str):List Str:=(List.range l.length).map fun k=>answK (dkS (l.take k)) (l.getD k default)
theorem ansL_len (l:List Str):(ansL l).length=l.length:=by simp [ansL]
theorem ansL_at (l:List Str) (k:Nat) (hk:k < l.length):(ansL l).getD k default=answK (dkS (l.take k)) (l.getD k default):=by
 rw [List.getD_eq_getElem?_getD]
 unfold ansL
 rw [List.getElem?_map,List.getElem?_range hk]
 rfl
theorem dkS_step (l:List Str) (k:Nat) (hk:k < l.length):dkS (l.take (k+1))=(lineK (dkS (l.take k)) (l.getD k default)).2.2:=by
 unfold dkS
 rw [takeD l k zo,List.foldl_append]
 rfl
theorem totL_take (l:List Str) (k:Nat) (hk:k < l.length):totL (l.take (k+1))=totL (l.take k)+(l.getD k default).length:=by
 rw [takeD l k zo]
 generalize l.take k=a
 generalize l.getD k default=b
 induction a with
 | nil=>simp [totL]
 | cons x a ih=>simp only [List.cons_append,totL];omega
theorem totL_le (l:List Str) (k:Nat):totL (l.take k)≤totL l:=by
 induction l generalizing k with
 | nil=>simp [totL]
 | cons x l ih =>
   cases k with
   | zero=>simp [totL]
   | succ k=>rw [List.take_succ_cons];simp only [totL];have:=ih k;omega
theorem st_ok (l:List Str):∀ k,k≤l.length→DkOK (dkS (l.take k)) (totL (l.take k))
 | 0,_=>⟨rfl,by unfold byD dkS K0 exD;simp,fun k t h=>by simp [dkS,K0] at h,by simp [dkS,K0,textM]⟩
 | k+1,h=>by
   have ih:=st_ok l k zo
   rw [dkS_step l k zo,totL_take l k zo]
   exact line_ok ih _
def grF:List Str→Int→Bool
 | [],_=>false
 | s :: r,n=>if 900 < n+((s.length:Int)+1) then true else grF r (n+((s.length:Int)+1))
def grK (l:List Str):Bool:=grF l 0 || decide (30 < (l.length:Int))
theorem grF_no:∀ (l:List Str) (n:Int),n≤900→grF l n=false→n+totL l+l.length≤900
 | [],n,hn,_=>by simp [totL];omega
 | s :: r,n,hn,h=>by
   rw [grF] at h
   split at h
   ·simp at h
   ·have:=grF_no r _ zo h
    simp only [totL,List.length_cons]
    push_cast at this ⊢
    omega
def c8l1:MC:=(Z (yr [qq 9 (yb .lss (Y 8) (Y 7))]) (Z (yd (Y 9) yk (.exit 0)) (Z (.blk 1 (Z (yr [qq 10 (.adr 1 (Y 6) (Y 8)),qq 11 (.ld none (Y 10)),qm 5 11]) (Z (yr [qm 12 3,qm 13 5,qq 14 (.lenS (Y 13)),qq 15 (yb .add (Y 14) (ki 1)),qq 16 (yb .add (Y 12) (Y 15)),qm 3 16]) (Z (yr [qm 17 3,qq 18 (yb .gtr (Y 17) (ki 900))]) (yd (Y 18) (Z (yr [qq 2 (.mv (kb true))]) .ret) yk))))) (yr [qq 19 (yb .add (Y 8) (ki 1)),qm 8 19]))))
def c8:MC:=(Z (yr [qq 2 (.mv (kb false))]) (Z (yr [qq 3 (.mv (ki 0))]) (Z (Z (yr [qm 6 0,qq 7 (.len (Y 6)),qq 8 (.mv (ki 0))]) (.blk 0 (.loop c8l1))) (Z (yr [qm 20 0,qq 21 (.len (Y 20)),qq 22 (yb .gtr (Y 21) (ki 30)),qm 2 22]) .ret))))
theorem great30_spec {v:Value} {l:List Str} {w:World} (hr:Rd w eS v l) (hb:∀ s∈l,s.length≤140737488355328):Pu Tryz.prog 8 #[v] w (.bool (grK l)):=by
 refine En 23 c8 Tryz.func8 ?_
 have hS:=Sep.start w
 have hlb:=hr.bd
 unfold grK
 repeat' (first|refine G.reg fun K hK=>?_|(refine kM ?_;clear hK K)|refine sA ?_|(refine G.cn ?_ ?_<;>intro hc<;>try exact zxf))
 all_goals
  refine G.loop (fun x w'=>∃ (k:Nat) (n:Int),k≤l.length∧0≤n∧n≤900∧grF l 0=grF (l.drop k) n∧x 0=v∧x 3=I n∧x 6=v∧x 7=I l.length∧x 8=I k∧Sep w w' []) (fun x _=>l.length - toN (x 8)) ?_ ?_
 ·exact ⟨0,0,Nat.zero_le _,by decide,by decide,rfl,by exact sf,by exact sf,by exact sf,by exact sf,by exact sf,hS⟩
 ·clear hS
  rintro u wl ⟨k,n,hk,hn0,hn1,he,q0,q3,q6,q7,q8,hS⟩ ih
  have hm:toN (u 8)=k:=by rw [q8];simp [toN]
  by_cases hlt:(k:Int) < l.length
  ·have hsl:=hb _ (getD_mem l k hlt)
   rw [dropD l k hlt,grF] at he
   by_cases hg:900 < n+(((l.getD k default).length:Int)+1)
   ·rw [if_pos hg] at he
    (have fct:=(a5 @q0 @q3 @q6 @q7 @q8);repeat' (first|refine G.reg fun K hK=>?_|(refine kM ?_;clear hK K)|refine sA ?_|(refine G.cn ?_ ?_<;>intro hc<;>try exact zxf)))<;>(try clear fct)
    all_goals
     (have fct:=(a5 @q0 @q3 @q6 @q7 @q8);refine rM ?_)
     first|exact Sep.xt ‹_›|(refine ⟨?_,Sep.xt ‹_›⟩;rw [he];rfl)|exact ⟨trivial,Sep.xt ‹_›⟩
   ·rw [if_neg hg] at he
    (have fct:=(a5 @q0 @q3 @q6 @q7 @q8);repeat' (first|refine G.reg fun K hK=>?_|(refine kM ?_;clear hK K)|refine sA ?_|(refine G.cn ?_ ?_<;>intro hc<;>try exact zxf)))<;>(try clear fct)
    all_goals
     have fct:=(a5 @q0 @q3 @q6 @q7 @q8);refine ih _ _ ⟨k+1,_,by omega,by omega,by omega,he,by exact sf,by exact sf,by exact sf,by exact sf,by exact sf,(Sep.sub hS zw)⟩ ?_
     rw [hm];simp only [push_cast,↓reduceIte,zq1,zq2,zq3,zq4,zq5,toN_i,q0,q3,q6,q7,q8];omega
  ·rw [List.drop_eq_nil_of_le zo,grF] at he
   (have fct:=(a5 @q0 @q3 @q6 @q7 @q8);repeat' (first|refine G.reg fun K hK=>?_|(refine kM ?_;clear hK K)|refine sA ?_|(refine G.cn ?_ ?_<;>intro hc<;>try exact zxf)))<;>(try clear fct)
   all_goals
    (have fct:=(a5 @q0 @q3 @q6 @q7 @q8);refine rM ?_)
    first|exact Sep.xt ‹_›|(refine ⟨?_,Sep.xt ‹_›⟩;rw [he];rfl)|exact ⟨trivial,Sep.xt ‹_›⟩
def plP (l:List Str) (g k:Nat) (L:List Chk):Prop:=∃ r lv,L=boxC g 55 [U (dkS (l.take k)).d.dl,U (dkS (l.take k)).d.q,I (dkS (l.take k)).d.e,lv,.map (some r)] :: mapC r S (dkS (l.take k)).m :: accC lv 121 eC (dkS (l.take k)).l :: []
theorem pl_line {w:World} (hv:ErrV w) (ht:Tab w) (l:List Str) (hl:totL l≤900) (g k:Nat) (L M:List Chk) (w':World) (hk:k < l.length) (hP:plP l g k L) (hS:Sep w w' (L++M)) :
 Ret Tryz.prog 11 #[(.pointer (some ⟨g,0,none⟩)),S (l.getD k default)] w' fun v w2=>v=S ((ansL l).getD k default)∧∃ L',plP l g (k+1) L'∧Sep w w2 (L'++M):=by
 obtain ⟨r,lv,rfl⟩:=hP
 have h1:=totL_take l k hk
 have h2:=totL_le l (k+1)
 refine (vLine_spec (M:=M) (l.getD k default) zo (st_ok l k zo) zo hv ht hS).mono fun v w2 h=>?_
 obtain ⟨h3,lv',h4⟩:=h
 exact ⟨by rw [h3,ansL_at l k hk],_,⟨r,lv',rfl⟩,by rw [dkS_step l k hk];exact h4⟩
theorem plP0 {w w':World} (l:List Str) (g r:Nat) (h:Sep w w' [boxC g 55 [U 44,U 34,I 1,.slice none 0 0,.map (some r)],mapC r S (fun _=>none)]):∃ L,plP l g 0 L∧Sep w w' L :=
 ⟨_,⟨r,.slice none 0 0,rfl⟩,Sep.sub (h.nil 121 eC) (.c (.t .h) (.c (.t .h) (.c .h .n)))⟩
def c3l1:MC:=(Z (yr [qq 16 (yb .lss (Y 15) (Y 14))]) (Z (yd (Y 16) yk (.exit 0)) (Z (.blk 1 (Z (yr [qq 17 (.adr 1 (Y 13) (Y 15)),qq 18 (.ld none (Y 17)),qm 6 18]) (yr [qm 19 4,qm 20 3,qm 21 6,qq 22 (yl 11 [(Y 20),(Y 21)]),qq 23 (.bsl 9 [(S [])] 1 [⟨0,⟨1,(Y 22)⟩⟩]),qq 24 (.raw (.call ⟨(.builtin .append),#[(Y 19),(Y 23)],#[22,22]⟩) 22),qm 4 24]))) (yr [qq 25 (yb .add (Y 15) (ki 1)),qm 15 25]))))
def c3:MC:=(Z (yr [qq 2 (.mv (kb false))]) (Z (Z (yr [qm 7 0,qq 8 (yl 8 [(Y 7)])]) (yd (Y 8) (Z (yr [qq 9 (yl 9 []),qm 2 9]) .ret) yk)) (Z (yr [qq 10 (yl 10 []),qm 3 10]) (Z (Z (yr [qm 11 3,qq 12 (.raw (.binOp .eql 25 (Y 11) (yc (.pointer none)) 25) 4)]) (yd (Y 12) (Z (yr [qq 2 (.mv (kb false))]) .ret) yk)) (Z (yr [qq 4 (.mv (yc (.slice none 0 0)))]) (Z (Z (yr [qm 13 0,qq 14 (.len (Y 13)),qq 15 (.mv (ki 0))]) (.blk 0 (.loop c3l1))) (Z (yr [qm 26 0,qq 27 (yl 13 [(Y 26)]),qm 28 4,qq 29 (yl 12 [(Y 27),(Y 28)]),qm 30 29,qt 30 31 (yl 9 []),qq 32 (.pick (Y 30) (Y 31) (kb false)),qm 2 32]) .ret)))))))
theorem k3:conv Tryz.prog 33 (Tryz.f3.body.getD .skip)=c3:=zf
theorem Ex.mid {x:Chk} {R:List Chk}:∀ A:List Chk,Ex x (A++x :: R) (A++R)
 | []=>.h
 | _ :: A=>.t (Ex.mid A)
theorem Sub.swap:∀ A B:List Chk,Sub (B++A) (A++B)
 | A,[]=>by rw [List.append_nil];exact Sub.all A
 | A,_ :: B=>.c (Ex.mid A) (Sub.swap A B)
theorem ask_line {w:World} (hv:ErrV w) (ht:Tab w) (l:List Str) (hl:totL l≤900) (ask:Str) (ha:ask.length≤100) (hkeep:∀ K,(lineK K ask).2.2=K) (g k:Nat) (L M:List Chk) (w':World) (hP:plP l g k L) (hS:Sep w w' (L++M)) :
 Ret Tryz.prog 11 #[(.pointer (some ⟨g,0,none⟩)),S ask] w' fun v w2=>v=S (answK (dkS (l.take k)) ask)∧∃ L',plP l g k L'∧Sep w w2 (L'++M):=by
 obtain ⟨r,lv,rfl⟩:=hP
 have h2:=totL_le l k
 by_cases hk:k≤l.length
 ·refine (vLine_spec (M:=M) ask zo (st_ok l k hk) zo hv ht hS).mono fun v w2 h=>?_
  obtain ⟨h3,lv',h4⟩:=h
  rw [hkeep] at h4
  exact ⟨h3,_,⟨r,lv',rfl⟩,h4⟩
 ·have e:l.take k=l.take l.length:=by rw [List.take_of_length_le zo,List.take_of_length_le (Nat.le_refl _)]
  have h5:=st_ok l l.length (Nat.le_refl _)
  rw [←e] at h5
  refine (vLine_spec (M:=M) ask zo h5 zo hv ht hS).mono fun v w2 h=>?_
  obtain ⟨h3,lv',h4⟩:=h
  rw [hkeep] at h4
  exact ⟨h3,_,⟨r,lv',rfl⟩,h4⟩
def c4l1:MC:=(Z (yr [qq 48 (yb .lss (Y 47) (Y 46))]) (Z (yd (Y 48) yk (.exit 1)) (Z (.blk 2 (Z (yr [qm 49 47,qq 50 (.adr 1 (Y 45) (Y 47)),qq 51 (.ld none (Y 50)),qm 10 49,qm 11 51]) (Z (Z (yr [qm 52 10,qm 53 9,qq 54 (yb .eql (Y 52) (Y 53)),qm 55 54,qmt 55 56 7,qmt 55 57 1,qt 55 58 (yl 11 [(Y 56),(Y 57)]),qmt 55 59 7,qmt 55 60 1,qt 55 61 (yl 11 [(Y 59),(Y 60)]),qt 55 62 (yb .neq (Y 58) (Y 61)),qq 63 (.pick (Y 55) (Y 62) (kb false))]) (yd (Y 63) (Z (yr [qq 6 (.mv (kb false))]) .ret) yk)) (Z (yr [qm 64 7,qm 65 11,qq 66 (yl 11 [(Y 64),(Y 65)]),qm 67 8,qm 68 11,qq 69 (yl 11 [(Y 67),(Y 68)]),qq 70 (yb .neq (Y 66) (Y 69))]) (yd (Y 70) (Z (yr [qq 6 (.mv (kb false))]) .ret) yk))))) (yr [qq 71 (yb .add (Y 47) (ki 1)),qm 47 71]))))
def c4:MC:=(Z (yr [qq 6 (.mv (kb false))]) (Z (Z (yr [qm 12 0,qq 13 (yl 8 [(Y 12)]),qm 14 13,qmf 14 15 1,qf 14 16 (.lenS (Y 15)),qf 14 17 (yb .gtr (Y 16) (ki 100)),qq 18 (.pick (Y 14) (kb true) (Y 17))]) (yd (Y 18) (Z (yr [qq 19 (yl 9 []),qm 6 19]) .ret) yk)) (Z (Z (yr [qm 20 1,qq 21 (yl 14 [(Y 20)]),qq 22 (.fld 0 none (Y 21))]) (.blk 0 (Z (Z (yr [qq 25 (yb .eql (Y 22) (yc (S [115,104,111,119]))),qm 24 25]) (yd (Y 24) yk (Z (yr [qq 26 (yb .eql (Y 22) (yc (S [99,104,101,99,107]))),qm 24 26]) (yd (Y 24) yk (Z (yr [qq 27 (yb .eql (Y 22) (yc (S [103,101,116]))),qm 24 27]) (yd (Y 24) yk (Z (yr [qq 28 (yb .eql (Y 22) (yc (S [114,111,119,115]))),qm 24 28]) (yd (Y 24) yk (Z (yr [qq 29 (yb .eql (Y 22) (yc (S [100,105,102,102]))),qm 24 29]) (yd (Y 24) yk (yr [qq 30 (yb .eql (Y 22) (yc (S []))),qm 24 30]))))))))))) (yd (Y 24) yk (Z (yr [qq 23 (yl 9 []),qm 6 23]) .ret))))) (Z (yr [qq 31 (yl 10 []),qq 32 (yl 10 []),qm 7 31,qm 8 32]) (Z (Z (yr [qm 33 7,qq 34 (.raw (.binOp .eql 25 (Y 33) (yc (.pointer none)) 25) 4),qm 35 34,qmf 35 36 8,qf 35 37 (.raw (.binOp .eql 25 (Y 36) (yc (.pointer none)) 25) 4),qq 38 (.pick (Y 35) (kb true) (Y 37))]) (yd (Y 38) (Z (yr [qq 6 (.mv (kb false))]) .ret) yk)) (Z (yr [qm 39 2,qq 40 (.cvi .i64 (Y 39)),qm 41 0,qq 42 (.len (Y 41)),qq 43 (yb .add (Y 42) (ki 1)),qq 44 (yb .rem (Y 40) (Y 43)),qm 9 44]) (Z (Z (yr [qm 45 0,qq 46 (.len (Y 45)),qq 47 (.mv (ki 0))]) (.blk 1 (.loop c4l1))) (Z (yr [qq 72 (yl 9 []),qm 6 72]) .ret))))))))
def askC (T:MC):MC:=match c4 with
 | .seq a (.seq b (.seq c _))=>.seq a (.seq b (.seq c T))
 | x=>x
def askT:MC:=match c4 with
 | .seq _ (.seq _ (.seq _ t))=>t
 | x=>x
theorem askC_eq:c4=askC askT:=by rfl
set_option maxHeartbeats 2000000 in
theorem ask_tail {n':Nat} {ρ:Fr} {v:Value} {l:List Str} {ask:Str} {a:Int} {w wl:World} (hr:Rd w eS v l) (hb:∀ s∈l,s.length≤140737488355328) (hlen:l.length≤30) (htl:totL l≤900) (hal:ask.length≤100) (ha:0≤a∧a≤255) (hkeep:∀ K,(lineK K ask).2.2=K) (hv:ErrV w) (ht:Tab w)
 (q0:ρ 0=v) (q1:ρ 1=S ask) (q2:ρ 2=U a) (hS:Sep w wl []) :
 G Tryz.prog Tryz.f4 n' [.c askT] (fun res w'=>res=.bool true∧Ext w w') ρ wl:=by
 unfold askT c4
 dsimp only
 have hln:=fun g k L M w' hk hP hS=>pl_line (w:=w) hv ht l htl g k L M w' hk hP hS
 have hak:=fun g k L M w' hP hS=>ask_line (w:=w) hv ht l htl ask hal hkeep g k L M w' hP hS
 have hal2:=ansL_len l
 have hop:=fun w=>open30_spec w
 have hpl0:=fun {w w':World} g r h=>plP0 (w:=w) (w':=w') l g r h
 generalize ansL l=aa at *
 generalize plP l=P at *
 have hfl:True:=trivial
 (have fct:=(a3 @q0 @q1 @q2);repeat' (first|refine G.reg fun K hK=>?_|(refine kM ?_;clear hK K)|refine sA ?_|(refine brO_n ?_ ?_<;>intro hb hc<;>first|exact zxf|(simp only [hb];clear hb))|(have hz:=hfl;clear hz hfl;refine zco 10 (hop _) ?_;rintro vb wb ⟨ga,ra,rfl,hS2⟩;obtain ⟨La,hPa,hS2⟩:=hpl0 _ _ hS2;have hS:=hS2.ap)|(refine zco 10 (hop _) ?_;rintro vb wb ⟨gb,rb,rfl,hS2⟩;obtain ⟨Lb,hPb,hS2⟩:=hpl0 _ _ hS2;have hS:=hS2.ap)|(refine zn3 ?_)|(refine zn4 ?_)|(refine G.cn ?_ ?_<;>intro hc<;>try exact zxf)))<;>(try clear fct)
 all_goals
  rw [List.append_nil] at hS
  have hS:=Sep.sub hS (Sub.swap Lb La)
  refine G.loop (fun x w'=>∃ (k:Nat) (n:Int) (L1 L2:List Chk),k≤l.length∧P ga k L1∧P gb k L2∧x 1=S ask∧x 7=(.pointer (some ⟨ga,0,none⟩))∧x 8=(.pointer (some ⟨gb,0,none⟩))∧x 9=I n∧x 45=v∧x 46=I l.length∧x 47=I k∧Sep w w' (L1++L2)) (fun x _=>l.length - toN (x 47)) ?_ ?_
 ·exact ⟨0,_,La,Lb,Nat.zero_le _,hPa,hPb,by simp only [push_cast,↓reduceIte,zq1,zq2,zq3,zq4,zq5,q1],by simp only [push_cast,↓reduceIte,zq1,zq2,zq3,zq4,zq5],by simp only [push_cast,↓reduceIte,zq1,zq2,zq3,zq4,zq5],by simp only [push_cast,↓reduceIte,zq1,zq2,zq3,zq4,zq5]<;>rfl,by simp only [push_cast,↓reduceIte,zq1,zq2,zq3,zq4,zq5,q0],by simp only [push_cast,↓reduceIte,zq1,zq2,zq3,zq4,zq5,q0]<;>rfl,by simp only [push_cast,↓reduceIte,zq1,zq2,zq3,zq4,zq5]<;>rfl,hS⟩
 ·clear hS
  rintro u w1 ⟨k,n,L1,L2,hk,hP1,hP2,p1,p7,p8,p9,p45,p46,p47,hS⟩ ih
  have hm:toN (u 47)=k:=by rw [p47];simp [toN]
  by_cases hlt:(k:Int) < l.length
  ·have hl1:=fun L w' hP hS=>hln ga k L L2 w' zo hP hS
   have hl2:=fun L M w' hP hS=>hln gb k L M w' zo hP hS
   have hk1:=fun L w' hP hS=>hak ga k L L2 w' hP hS
   generalize answK (dkS (l.take k)) ask=aq at *
   generalize hsk:l.getD k default=sk at *
   generalize aa.getD k default=ak at *
   (have fct:=(a8 @p1 @p7 @p8 @p9 @p45 @p46 @p47 @hsk);repeat' (first|refine G.reg fun K hK=>?_|(refine kM ?_;clear hK K)|refine sA ?_|(refine brO_n ?_ ?_<;>intro hb hc<;>first|exact zxf|(simp only [hb];clear hb))|((with_reducible (show CallK _ 11 [(.pointer (some ⟨ga,0,none⟩)),S ask] _ _ _ _));refine zco 11 (hk1 _ _ hP1 hS) ?_;rintro vb wb ⟨rfl,L1,hP1,hS⟩)|((with_reducible (show CallK _ 11 [(.pointer (some ⟨ga,0,none⟩)),S sk] _ _ _ _));refine zco 11 (hl1 _ _ hP1 hS) ?_;rintro vb wb ⟨rfl,L1,hP1,hS⟩;have hS:=Sep.sub hS (Sub.swap L1 L2))|((with_reducible (show CallK _ 11 [(.pointer (some ⟨gb,0,none⟩)),S sk] _ _ _ _));refine zco 11 (hl2 _ _ _ hP2 hS) ?_;rintro vb wb ⟨rfl,L2,hP2,hS⟩;have hS:=Sep.sub hS (Sub.swap L2 _))|(refine G.cn ?_ ?_<;>intro hc<;>try exact zxf)))<;>(try clear fct)
   all_goals
    have fct:=(a7 @p1 @p7 @p8 @p9 @p45 @p46 @p47);refine ih _ _ ⟨k+1,n,L1,L2,by omega,hP1,hP2,by exact sf,by exact sf,by exact sf,by exact sf,by exact sf,by exact sf,by exact sf,hS⟩ ?_
    rw [hm];simp only [push_cast,↓reduceIte,zq1,zq2,zq3,zq4,zq5,toN_i,p1,p7,p8,p9,p45,p46,p47];omega
  ·(have fct:=(a7 @p1 @p7 @p8 @p9 @p45 @p46 @p47);repeat' (first|refine G.reg fun K hK=>?_|(refine kM ?_;clear hK K)|refine sA ?_|(refine brO_n ?_ ?_<;>intro hb hc<;>first|exact zxf|(simp only [hb];clear hb))|(refine zcp 9 (awake30_spec _ (hv.ext (Sep.xt ‹_›)) (ht.ext (Sep.xt ‹_›))) ?_;intro wb hS)|(refine G.cn ?_ ?_<;>intro hc<;>try exact zxf)))<;>(try clear fct)
   all_goals
    (have fct:=(a7 @p1 @p7 @p8 @p9 @p45 @p46 @p47);refine rM ?_)
    (first|exact Sep.xt ‹_›|exact ⟨rfl,Sep.xt ‹_›⟩)
def awP (v r2:Str) (so:Bool):Str:=if so=true then (if (unL r2).isSome=true then v else []) else []
def awS (v:Str) (so:Bool):Str:=if so=true then [] else v
def awG (v r2:Str) (so:Bool):Str:=if so=true then (if (pnM (cutT 32 r2).1).2=0 then (if 0≤(pnM (cutT 32 r2).1).1 then (if (cutT 32 r2).2.2=true then [] else v) else []) else []) else []
def awT (v r2:Str) (so:Bool):Str:=if so=true then (if (pnM (cutT 32 r2).1).2=0 then (if 0≤(pnM (cutT 32 r2).1).1 then (if (cutT 32 r2).2.2=true then (if (unL (cutT 32 r2).2.1).isSome=true then v else []) else []) else []) else []) else []
def awD (v r2:Str) (so:Bool):Str:=if so=true then (if nmM (cutT 32 r2).1=true then (if (cutT 32 r2).2.2=true then v else []) else []) else []
def aw2 (v r2:Str) (so:Bool):Str :=
 if (v == [112,117,116])=true then awP v r2 so
 else if (v == [97,100,100])=true then awP v r2 so
 else if (v == [115,104,111,119])=true then awS v so
 else if (v == [99,104,101,99,107])=true then awS v so
 else if (v == [112,108,97,105,110])=true then awS v so
 else if (v == [115,110,105,102,102])=true then awS v so
 else if (v == [114,111,119,115])=true then awS v so
 else if (v == [103,101,116])=true then awG v r2 so
 else if (v == [115,101,116])=true then awT v r2 so
 else if (v == [100,105,102,102])=true then awD v r2 so
 else []
def aw1 (v rest:Str) (p:Bool):Str :=
 if (v == [99,108,101,97,114])=true then (if p=true then [] else v)
 else if (v == [100,105,97,108,101,99,116])=true then (if p=true then v else [])
 else if (v == [99,111,108,117,109,110])=true then (if p=true then v else [])
 else if p=true then (if nmM (cutT 32 rest).1=true then aw2 v (cutT 32 rest).2.1 (cutT 32 rest).2.2 else []) else []
def readW (s:Str):Str:=aw1 (cutT 32 s).1 (cutT 32 s).2.1 (cutT 32 s).2.2
def askL:List Str:=[[],[115,104,111,119],[99,104,101,99,107],[103,101,116],[114,111,119,115],[100,105,102,102]]
theorem nm_cut0:∀ s:Str,s.all nmB=true→cutM 32 s=none
 | [],_=>rfl
 | b :: r,h=>by
   rw [List.all_cons,Bool.and_eq_true] at h
   have hb:b≠32:=by rintro rfl;exact absurd h.1 zd
   rw [cutM,if_neg hb,nm_cut0 r h.2];rfl
theorem nm_nocut {s:Str} (h:nmM s=true):cutT 32 s=(s,[],false):=by
 unfold nmM at h
 rw [Bool.and_eq_true] at h
 unfold cutT
 rw [nm_cut0 s h.2]
theorem nu_some {s:Str} {n:Nat} (h:nuM s=some n):(pnM s).2=0∧0≤(pnM s).1:=by
 unfold nuM at h
 split at h
 ·assumption
 ·simp at h
theorem read_keeps {s:Str} (h:readW s∈askL) (K:Dk):(lineK K s).2.2=K:=by
 unfold lineK
 split
 ·rename_i h0
  subst h0
  exact absurd h zd
 split
 rotate_left
 ·rfl
 rename_i hp
 unfold readW at h
 rw [hp] at h
 generalize (cutT 32 s).1=v at *
 generalize (cutT 32 s).2.1=rest at *
 unfold verbK
 unfold aw1 at h
 split
 ·rename_i hv;subst hv;simp [askL] at h
 split
 ·rename_i hv;subst hv;simp [askL] at h
 have hput:∀ b,v=[112,117,116]∨v=[97,100,100]→(putK K rest b).2.2=K:=by
  intro b hv
  unfold putK
  split
  ·rfl
  ·rename_i m hm
   exfalso
   unfold lputM at hm
   split at hm
   ·rename_i hc
    obtain ⟨t,ht,-⟩:=Option.map_eq_some_iff.1 hm
    rcases hv with rfl|rfl<;>simp [aw2,awP,hc.1,hc.2,ht,askL] at h
   ·simp at hm
 split
 ·rename_i hv;exact hput _ (.inl hv)
 split
 ·rename_i hv;exact hput _ (.inr hv)
 split
 ·rfl
 split
 ·rename_i hv
  subst hv
  unfold setKK
  split
  ·rfl
  ·rename_i m hm
   exfalso
   unfold setK at hm
   split at hm
   ·rename_i hc
    split at hm
    ·rename_i n rec hn hr
     have h1:(cutT 32 rest).2.2=true:=by
      cases h2:(cutT 32 rest).2.2 with
      | true=>rfl
      | false =>
        rcases cutT_eq 32 rest with ⟨_,e⟩|⟨k,hk,hi,e⟩
        ·rw [e] at hc;simp [cutT,cutM] at hc
        ·rw [e] at h2;simp at h2
     have h2:=nu_some hn
     simp [aw2,awT,hc.1,hc.2,h1,h2.1,h2.2,hr,askL] at h
    ·simp at hm
   ·simp at hm
 split
 ·rfl
 split
 rotate_left
 ·rfl
 rename_i hv
 unfold namedK
 split
 rotate_left
 ·rfl
 rename_i hn
 have hcn:=nm_nocut hn
 split
 ·rfl
 split
 ·rfl
 split
 ·rfl
 split
 ·rename_i h2;subst h2;simp [aw2,awS,hcn,hn,askL] at h
 split
 ·rename_i h2;subst h2;simp [aw2,awS,hcn,hn,askL] at h
 ·rfl
end Go.Proofs.YtllanbmpacgigaaGreatDoor
