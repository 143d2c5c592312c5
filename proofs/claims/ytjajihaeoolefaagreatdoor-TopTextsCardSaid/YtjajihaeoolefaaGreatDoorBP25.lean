/- Texts of the proof, joined. -/
import Derived.Test.YtjajihaeoolefaaGreatDoorBP20
import Derived.Test.YtjajihaeoolefaaGreatDoorBP15
namespace Go.Proofs.YtjajihaeoolefaaGreatDoor
set_option linter.unusedSimpArgs false
set_option linter.unusedVariables false
open Go.RowKit
structure Chg where
  kind:Int
  old:List Val
  new:List Val
instance : Inhabited Chg := ⟨⟨0, [], []⟩⟩
def tailV (v:Val):Str :=
  if v.kind=1 then [116]++Lib.itoa v.s.length++[58]++v.s else if v.kind=2 then [105]++Lib.itoa v.n++[59]
  else if v.kind=3 then [98]++(if v.b=true then [116,114,117,101] else [102,97,108,115,101])++[59] else []
def tailW (v:Val):Str:=if v.kind=0 then [110] else tailV v
def markM (f:Val→Str) (r:List Val) (ps:List Int):Str:=(ps.map fun p=>f (r.getD p.toNat default)).flatten
def nullM (r:List Val) (ps:List Int):Bool:=ps.any fun p=>decide ((r.getD p.toNat default).kind=0)
theorem mark_vw (r:List Val) (ps:List Int) (h:nullM r ps=false):markM tailV r ps=markM tailW r ps:=by
  unfold markM
  congr 1
  refine List.map_congr_left fun p hp=>?_
  have h2:=List.any_eq_false.1 h p hp
  simp only [decide_eq_true_eq] at h2
  unfold tailW
  rw [if_neg h2]
def plcM (l:List Col) (k:Str):Int:=if 0≤atM (l.map (·.name)) k then atM (l.map (·.name)) k else 0
def placesM (l:List Col) (keys:List Str):List Int:=keys.map (plcM l)
def keysF (names:List Str):List Str→List Int→Int→Option (Int×Int)
  | [],_,_=>none
  | k :: ks,ps,i=>if atM names k < 0 then some (i,16) else if atM names k∈ps then some (i,15) else keysF names ks (ps++[atM names k]) (i+1)
def rowsF (n:Int) (ps:List Int):List (List Val)→List Str→Int→Option (Int×Int)
  | [],_,_=>none
  | r :: rs,ah,i=>if (r.length:Int)≠n then some (i,10) else if nullM r ps=true then some (i,20) else if 0≤atM ah (markM tailV r ps) then some (i,15) else rowsF n ps rs (ah++[markM tailV r ps]) (i+1)
def orE (a:Option (Int×Int)) (b:Int×Int):Int×Int:=match a with|some x=>x|none=>b
def dchkM (l:List Col) (rows:List (List Val)) (keys:List Str):Int×Int :=
  if (checkM (l.map nkC)).2≠0 then (0,(checkM (l.map nkC)).2) else if keys.length=0 then (0,13)
  else orE (keysF (l.map (·.name)) keys [] 0) (orE (rowsF l.length (placesM l keys) rows [] 0) (rows.length,0))
def oneM (n:Int) (ps:List Int) (c:Chg):Int :=
  if c.kind < 1∨3 < c.kind∨(c.kind=3∧0 < (c.old.length:Int))∨(c.kind=1∧0 < (c.new.length:Int)) then 22
  else if (c.kind≠3∧(c.old.length:Int)≠n)∨(c.kind≠1∧(c.new.length:Int)≠n) then 10
  else if (c.kind≠3∧nullM c.old ps=true)∨(c.kind≠1∧nullM c.new ps=true) then 20
  else if c.kind=2∧markM tailW c.old ps≠markM tailW c.new ps then 21 else 0
def onesF (n:Int) (ps:List Int):List Chg→Int→Int×Int
  | [],i=>(i,0)
  | c :: cs,i=>if oneM n ps c≠0 then (i,oneM n ps c) else onesF n ps cs (i+1)
def pchkM (l:List Col) (keys:List Str) (cs:List Chg):Int×Int :=
  if (dchkM l [] keys).2≠0 then (0,(dchkM l [] keys).2) else onesF l.length (placesM l keys) cs 0
def keyM (ps:List Int) (c:Chg):Str:=if c.kind=3 then markM tailW c.new ps else markM tailW c.old ps
structure Stt where
  rows:List (List Val)
  gone:List Bool
  at_:Str→Option Int
def cstM (ps:List Int) (s:Stt) (c:Chg):Except Int Stt :=
  match s.at_ (keyM ps c) with
  | none=>if c.kind=3 then .ok ⟨s.rows++[c.new],s.gone++[false],mput s.at_ (keyM ps c) (s.rows.length:Int)⟩ else .error 25
  | some n=>if c.kind=3 then .error 15 else if s.rows.getD n.toNat []≠c.old then .error 23
    else if c.kind=1 then .ok ⟨s.rows,s.gone.set n.toNat true,mdel s.at_ (keyM ps c)⟩ else .ok ⟨s.rows.set n.toNat c.new,s.gone,s.at_⟩
def cstsF (ps:List Int):List Chg→Int→Stt→Except (Int×Int) Stt
  | [],_,s=>.ok s
  | c :: cs,i,s=>match cstM ps s c with
    | .error e=>.error (i,e)
    | .ok s2=>cstsF ps cs (i+1) s2
def atsF (ps:List Int):List (List Val)→Int→(Str→Option Int)→(Str→Option Int)
  | [],_,m=>m
  | r :: rs,i,m=>atsF ps rs (i+1) (mput m (markM tailW r ps) i)
def sttM (ps:List Int) (rows:List (List Val)):Stt:=⟨rows,List.replicate rows.length false,atsF ps rows 0 fun _=>none⟩
def liveM:List (List Val)→List Bool→List (List Val)
  | r :: rs,g :: gs=>if g=true then liveM rs gs else r :: liveM rs gs
  | _,_=>[]
def applyM (l:List Col) (rows:List (List Val)) (keys:List Str) (cs:List Chg):Except (Int×Int) (List (List Val)) :=
  if (dchkM l rows keys).2≠0 then .error (0,(dchkM l rows keys).2) else if (pchkM l keys cs).2≠0 then .error (pchkM l keys cs)
  else match cstsF (placesM l keys) cs 0 (sttM (placesM l keys) rows) with
  | .error x=>.error x
  | .ok s=>.ok (liveM s.rows s.gone)
theorem liveM_app:∀ (a:List (List Val)) (g:List Bool),a.length=g.length→∀ x,liveM (a++[x]) (g++[false])=liveM a g++[x]
  | [],[],_,x=>rfl
  | r :: a,true :: g,h,x=>by
    have:=liveM_app a g (by simpa using h) x
    simpa [liveM] using this
  | r :: a,false :: g,h,x=>by
    have:=liveM_app a g (by simpa using h) x
    simp [liveM,this]
theorem liveM_at:∀ (a:List (List Val)) (g:List Bool) (x:List Val),x∈liveM a g↔∃ k,k < a.length∧g.getD k true=false∧a.getD k []=x
  | [],g,x=>by simp [liveM]
  | r :: a,[],x=>by simp [liveM]
  | r :: a,b :: g,x=>by
    have ih:=liveM_at a g x
    rw [liveM]
    constructor
    · intro h
      cases b
      · rw [if_neg (by simp),List.mem_cons] at h
        rcases h with rfl|h
        · exact ⟨0,by simp,rfl,rfl⟩
        · obtain ⟨k,h1,h2,h3⟩:=ih.1 h
          exact ⟨k+1,by simpa using h1,by simpa using h2,by simpa using h3⟩
      · rw [if_pos rfl] at h
        obtain ⟨k,h1,h2,h3⟩:=ih.1 h
        exact ⟨k+1,by simpa using h1,by simpa using h2,by simpa using h3⟩
    · rintro ⟨k,h1,h2,h3⟩
      cases k with
      | zero =>
        simp at h2 h3
        subst h2;subst h3
        simp
      | succ k =>
        have h:=ih.2 ⟨k,by simpa using h1,by simpa using h2,by simpa using h3⟩
        cases b
        · rw [if_neg (by simp)];exact List.mem_cons_of_mem _ h
        · rw [if_pos rfl];exact h
theorem liveM_gone:∀ (a:List (List Val)) (g:List Bool) (k:Nat),k < a.length→g.getD k true=false→(liveM a g).Perm (a.getD k [] :: liveM a (g.set k true))
  | [],g,k,h,_=>by simp at h
  | r :: a,[],k,_,h=>by simp at h
  | r :: a,b :: g,0,_,h=>by
    simp at h
    subst h
    simp [liveM]
  | r :: a,b :: g,k+1,h,h2=>by
    have ih:=liveM_gone a g k (by simpa using h) (by simpa using h2)
    cases b
    · simp only [liveM,List.set_cons_succ,List.getD_cons_succ,Bool.false_eq_true,↓reduceIte]
      exact (ih.cons r).trans (List.Perm.swap _ _ _)
    · simp only [liveM,List.set_cons_succ,List.getD_cons_succ,↓reduceIte]
      exact ih
theorem liveM_set:∀ (a:List (List Val)) (g:List Bool) (k:Nat) (x:List Val),k < a.length→g.getD k true=false→(liveM (a.set k x) g).Perm (x :: liveM a (g.set k true))
  | [],g,k,x,h,_=>by simp at h
  | r :: a,[],k,x,_,h=>by simp at h
  | r :: a,b :: g,0,x,_,h=>by
    simp at h
    subst h
    simp [liveM]
  | r :: a,b :: g,k+1,x,h,h2=>by
    have ih:=liveM_set a g k x (by simpa using h) (by simpa using h2)
    cases b
    · simp only [liveM,List.set_cons_succ,Bool.false_eq_true,↓reduceIte]
      exact (ih.cons r).trans (List.Perm.swap _ _ _)
    · simp only [liveM,List.set_cons_succ,↓reduceIte]
      exact ih
theorem liveM_all:∀ (a:List (List Val)),liveM a (List.replicate a.length false)=a
  | []=>rfl
  | r :: a=>by simp [liveM,List.replicate_succ,liveM_all a]
structure SttOk (ps:List Int) (s:Stt):Prop where
  len:s.rows.length=s.gone.length
  at_:∀ m (n:Int),s.at_ m=some n↔∃ k:Nat,n=k∧k < s.rows.length∧s.gone.getD k true=false∧markM tailW (s.rows.getD k []) ps=m
def Stp (ps:List Int) (R:List (List Val)) (c:Chg) (R':List (List Val)):Prop :=
  (c.kind=3∧(∀ r∈R,markM tailW r ps≠markM tailW c.new ps)∧R'.Perm (c.new :: R))∨(c.kind=1∧R.Perm (c.old :: R')) ∨
  (c.kind=2∧∃ Q,R.Perm (c.old :: Q)∧R'.Perm (c.new :: Q))
theorem Stp.perm {ps:List Int} {R R' T:List (List Val)} {c:Chg} (h:Stp ps R c R') (hp:R.Perm T):Stp ps T c R':=by
  rcases h with ⟨h1,h2,h3⟩|⟨h1,h2⟩|⟨h1,Q,h2,h3⟩
  · exact .inl ⟨h1,fun r hr=>h2 r (hp.mem_iff.2 hr),h3.trans (hp.cons _)⟩
  · exact .inr (.inl ⟨h1,hp.symm.trans h2⟩)
  · exact .inr (.inr ⟨h1,Q,hp.symm.trans h2,h3⟩)
theorem Stp.uniq {ps:List Int} {R R1 R2:List (List Val)} {c:Chg} (h:Stp ps R c R1) (h':Stp ps R c R2):R1.Perm R2:=by
  rcases h with ⟨h1,h2,h3⟩|⟨h1,h2⟩|⟨h1,Q,h2,h3⟩<;>rcases h' with ⟨g1,g2,g3⟩|⟨g1,g2⟩|⟨g1,Q',g2,g3⟩<;>try (exfalso;omega)
  · exact h3.trans g3.symm
  · exact List.Perm.cons_inv (h2.symm.trans g2)
  · have hq:Q.Perm Q':=List.Perm.cons_inv (h2.symm.trans g2)
    exact h3.trans ((hq.cons _).trans g3.symm)
def KeyD (ps:List Int) (R:List (List Val)):Prop:=(R.map fun r=>markM tailW r ps).Nodup
theorem KeyD.perm {ps:List Int} {R T:List (List Val)} (h:KeyD ps R) (hp:R.Perm T):KeyD ps T:=(hp.map _).nodup_iff.1 h
theorem KeyD.head {ps:List Int} {R:List (List Val)} {x:List Val} (h:KeyD ps (x :: R)):∀ r∈R,markM tailW r ps≠markM tailW x ps:=by
  unfold KeyD at h
  rw [List.map_cons,List.nodup_cons] at h
  intro r hr e
  exact h.1 (List.mem_map.2 ⟨r,hr,e⟩)
structure RowsOk (n:Int) (ps:List Int) (R:List (List Val)):Prop where
  w:∀ r∈R,(r.length:Int)=n∧nullM r ps=false
  d:KeyD ps R
theorem RowsOk.perm {n:Int} {ps:List Int} {R T:List (List Val)} (h:RowsOk n ps R) (hp:R.Perm T):RowsOk n ps T:=⟨fun r hr=>h.w r (hp.mem_iff.2 hr),h.d.perm hp⟩
theorem oneM_ok {n:Int} {ps:List Int} {c:Chg} (h:oneM n ps c=0):(1≤c.kind∧c.kind≤3)∧(c.kind=3→c.old=[])∧(c.kind=1→c.new=[])∧(c.kind≠3→(c.old.length:Int)=n∧nullM c.old ps=false) ∧
    (c.kind≠1→(c.new.length:Int)=n∧nullM c.new ps=false)∧(c.kind=2→markM tailW c.old ps=markM tailW c.new ps):=by
  unfold oneM at h
  split at h
  · simp at h
  rename_i h1
  split at h
  · simp at h
  rename_i h2
  split at h
  · simp at h
  rename_i h3
  split at h
  · simp at h
  rename_i h4
  refine ⟨by omega,fun e=>?_,fun e=>?_,fun e=>⟨?_,?_⟩,fun e=>⟨?_,?_⟩,fun e=>?_⟩
  · exact List.length_eq_zero_iff.1 (by omega)
  · exact List.length_eq_zero_iff.1 (by omega)
  · by_cases q:(c.old.length:Int)=n
    · exact q
    · exact absurd (.inl ⟨e,q⟩) h2
  · cases q:nullM c.old ps
    · rfl
    · exact absurd (.inl ⟨e,q⟩) h3
  · by_cases q:(c.new.length:Int)=n
    · exact q
    · exact absurd (.inr ⟨e,q⟩) h2
  · cases q:nullM c.new ps
    · rfl
    · exact absurd (.inr ⟨e,q⟩) h3
  · exact Classical.byContradiction fun q=>h4 ⟨e,q⟩
theorem oneM_mk {n:Int} {ps:List Int} {c:Chg} (h:(1≤c.kind∧c.kind≤3)∧(c.kind=3→c.old=[])∧(c.kind=1→c.new=[])∧(c.kind≠3→(c.old.length:Int)=n∧nullM c.old ps=false) ∧
    (c.kind≠1→(c.new.length:Int)=n∧nullM c.new ps=false)∧(c.kind=2→markM tailW c.old ps=markM tailW c.new ps)):oneM n ps c=0:=by
  obtain ⟨h1,h2,h3,h4,h5,h6⟩:=h
  unfold oneM
  rw [if_neg,if_neg,if_neg,if_neg]
  · exact fun q=>q.2 (h6 q.1)
  · rintro (⟨q,e⟩|⟨q,e⟩)
    · rw [(h4 q).2] at e;cases e
    · rw [(h5 q).2] at e;cases e
  · rintro (⟨q,e⟩|⟨q,e⟩)
    · exact e (h4 q).1
    · exact e (h5 q).1
  · rintro (q|q|⟨q,e⟩|⟨q,e⟩)
    · omega
    · omega
    · rw [h2 q] at e;simp at e
    · rw [h3 q] at e;simp at e
theorem Stp.ok {n:Int} {ps:List Int} {R R':List (List Val)} {c:Chg} (h:Stp ps R c R') (h1:oneM n ps c=0) (hR:RowsOk n ps R):RowsOk n ps R':=by
  obtain ⟨_,_,_,h4,h5,h6⟩:=oneM_ok h1
  rcases h with ⟨k,q2,q3⟩|⟨k,q2⟩|⟨k,Q,q2,q3⟩
  · refine RowsOk.perm ⟨fun r hr=>?_,?_⟩ q3.symm
    · rcases List.mem_cons.1 hr with rfl|hr
      · exact h5 (by omega)
      · exact hR.w r hr
    · unfold KeyD
      rw [List.map_cons,List.nodup_cons]
      refine ⟨fun hm=>?_,hR.d⟩
      obtain ⟨r,hr,e⟩:=List.mem_map.1 hm
      exact q2 r hr e
  · have h:=hR.perm q2
    refine ⟨fun r hr=>h.w r (List.mem_cons_of_mem _ hr),?_⟩
    have:=h.d
    unfold KeyD at this ⊢
    rw [List.map_cons,List.nodup_cons] at this
    exact this.2
  · have h:=hR.perm q2
    refine RowsOk.perm ⟨fun r hr=>?_,?_⟩ q3.symm
    · rcases List.mem_cons.1 hr with rfl|hr
      · exact h5 (by omega)
      · exact h.w r (List.mem_cons_of_mem _ hr)
    · have:=h.d
      unfold KeyD at this ⊢
      rw [List.map_cons,List.nodup_cons] at this ⊢
      rw [←h6 k]
      exact this
theorem getD_setT (g:List Bool) (k j:Nat):(g.set k true).getD j true=false↔g.getD j true=false∧j≠k:=by
  rw [List.getD_eq_getElem?_getD,List.getD_eq_getElem?_getD,List.getElem?_set]
  by_cases h:k=j
  · subst h
    by_cases h2:k < g.length<;>simp [h2]
  · simp [h,Ne.symm h]
theorem getD_setR (a:List (List Val)) (k j:Nat) (x:List Val) (hk:k < a.length):(a.set k x).getD j []=if j=k then x else a.getD j []:=by
  rw [List.getD_eq_getElem?_getD,List.getD_eq_getElem?_getD,List.getElem?_set]
  by_cases h:k=j
  · subst h;simp [hk]
  · simp [h,Ne.symm h]
theorem cst_ok {n:Int} {ps:List Int} {s s':Stt} {c:Chg} (hs:SttOk ps s) (h1:oneM n ps c=0) (h:cstM ps s c=.ok s'):SttOk ps s'∧Stp ps (liveM s.rows s.gone) c (liveM s'.rows s'.gone):=by
  obtain ⟨hk,_,_,_,_,h6⟩:=oneM_ok h1
  unfold cstM at h
  have hl:=hs.len
  cases ha:s.at_ (keyM ps c) with
  | none =>
    rw [ha] at h
    simp only [] at h
    by_cases hc:c.kind=3
    · rw [if_pos hc] at h
      cases h
      have hkm:keyM ps c=markM tailW c.new ps:=by unfold keyM;rw [if_pos hc]
      refine ⟨⟨by simp [hl],fun m q=>?_⟩,.inl ⟨hc,fun r hr e=>?_,?_⟩⟩
      · simp only [mput]
        by_cases hm:m=keyM ps c
        · rw [if_pos hm]
          constructor
          · intro e
            cases e
            refine ⟨s.rows.length,rfl,by simp,?_,?_⟩
            · rw [List.getD_eq_getElem?_getD,hl];simp
            · rw [List.getD_eq_getElem?_getD];simp [hm,hkm]
          · rintro ⟨k,rfl,g1,g2,g3⟩
            by_cases hkk:k=s.rows.length
            · rw [hkk]
            · exfalso
              have g1':k < s.rows.length:=by simp at g1;omega
              have:=(hs.at_ m k).2 ⟨k,rfl,g1',by rw [List.getD_eq_getElem?_getD,List.getElem?_append_left (by omega)] at g2;rwa [List.getD_eq_getElem?_getD],by rw [List.getD_eq_getElem?_getD,List.getElem?_append_left g1'] at g3;rwa [List.getD_eq_getElem?_getD]⟩
              rw [hm,ha] at this
              cases this
        · rw [if_neg hm,hs.at_]
          constructor
          · rintro ⟨k,rfl,g1,g2,g3⟩
            refine ⟨k,rfl,by simp;omega,?_,?_⟩
            · rw [List.getD_eq_getElem?_getD,List.getElem?_append_left (by omega),←List.getD_eq_getElem?_getD];exact g2
            · rw [List.getD_eq_getElem?_getD,List.getElem?_append_left g1,←List.getD_eq_getElem?_getD];exact g3
          · rintro ⟨k,rfl,g1,g2,g3⟩
            by_cases hkk:k=s.rows.length
            · exfalso
              rw [hkk,List.getD_eq_getElem?_getD] at g3
              simp at g3
              exact hm (by rw [hkm,←g3])
            · have g1':k < s.rows.length:=by simp at g1;omega
              refine ⟨k,rfl,g1',?_,?_⟩
              · rw [List.getD_eq_getElem?_getD,List.getElem?_append_left (by omega),←List.getD_eq_getElem?_getD] at g2;exact g2
              · rw [List.getD_eq_getElem?_getD,List.getElem?_append_left g1',←List.getD_eq_getElem?_getD] at g3;exact g3
      · obtain ⟨k,g1,g2,g3⟩:=(liveM_at _ _ _).1 hr
        have:=(hs.at_ (keyM ps c) k).2 ⟨k,rfl,g1,g2,by rw [g3,e,hkm]⟩
        rw [ha] at this
        cases this
      · rw [liveM_app _ _ hl]
        exact List.perm_append_singleton _ _
    · rw [if_neg hc] at h;cases h
  | some q =>
    rw [ha] at h
    simp only [] at h
    obtain ⟨k,rfl,g1,g2,g3⟩:=(hs.at_ _ _).1 ha
    rw [Int.toNat_natCast] at h
    by_cases hc:c.kind=3
    · rw [if_pos hc] at h;cases h
    rw [if_neg hc] at h
    have hkm:keyM ps c=markM tailW c.old ps:=by unfold keyM;rw [if_neg hc]
    by_cases ho:s.rows.getD k []≠c.old
    · rw [if_pos ho] at h;cases h
    rw [if_neg ho] at h
    have ho:s.rows.getD k []=c.old:=Classical.not_not.1 ho
    have hone:∀ j:Nat,j < s.rows.length→s.gone.getD j true=false→markM tailW (s.rows.getD j []) ps=keyM ps c→j=k:=by
      intro j j1 j2 j3
      have:=(hs.at_ (keyM ps c) j).2 ⟨j,rfl,j1,j2,j3⟩
      rw [ha] at this
      cases this
      rfl
    by_cases hc1:c.kind=1
    · rw [if_pos hc1] at h
      cases h
      refine ⟨⟨by simp [hl],fun m q=>?_⟩,.inr (.inl ⟨hc1,?_⟩)⟩
      · simp only [mdel]
        by_cases hm:m=keyM ps c
        · rw [if_pos hm]
          constructor
          · intro e;cases e
          · rintro ⟨j,rfl,j1,j2,j3⟩
            obtain ⟨j2,j4⟩:=(getD_setT _ _ _).1 j2
            exact absurd (hone j j1 j2 (by rw [j3,hm])) j4
        · rw [if_neg hm,hs.at_]
          constructor
          · rintro ⟨j,rfl,j1,j2,j3⟩
            refine ⟨j,rfl,j1,(getD_setT _ _ _).2 ⟨j2,fun e=>hm ?_⟩,j3⟩
            rw [←j3,e,g3]
          · rintro ⟨j,rfl,j1,j2,j3⟩
            exact ⟨j,rfl,j1,((getD_setT _ _ _).1 j2).1,j3⟩
      · have:=liveM_gone s.rows s.gone k g1 g2
        rwa [ho] at this
    · rw [if_neg hc1] at h
      cases h
      have hc2:c.kind=2:=by omega
      refine ⟨⟨by simp [hl],fun m q=>?_⟩,.inr (.inr ⟨hc2,_,?_,liveM_set s.rows s.gone k c.new g1 g2⟩)⟩
      · rw [hs.at_]
        have hmk:∀ j:Nat,markM tailW ((s.rows.set k c.new).getD j []) ps=markM tailW (s.rows.getD j []) ps:=by
          intro j
          rw [getD_setR _ _ _ _ g1]
          by_cases hj:j=k
          · rw [if_pos hj,hj,ho,h6 hc2]
          · rw [if_neg hj]
        constructor
        · rintro ⟨j,rfl,j1,j2,j3⟩
          exact ⟨j,rfl,by simpa using j1,j2,by rw [hmk];exact j3⟩
        · rintro ⟨j,rfl,j1,j2,j3⟩
          exact ⟨j,rfl,by simpa using j1,j2,by rw [hmk] at j3;exact j3⟩
      · have:=liveM_gone s.rows s.gone k g1 g2
        rwa [ho] at this
theorem cst_may {n:Int} {ps:List Int} {s:Stt} {c:Chg} {R':List (List Val)} (hs:SttOk ps s) (h1:oneM n ps c=0) (h:Stp ps (liveM s.rows s.gone) c R') (hd:KeyD ps (liveM s.rows s.gone)):∃ s',cstM ps s c=.ok s':=by
  unfold cstM
  have hold:c.kind≠3→c.old∈liveM s.rows s.gone→∃ q:Nat,s.at_ (keyM ps c)=some (q:Int)∧s.rows.getD q []=c.old:=by
    intro hc hm
    obtain ⟨k,g1,g2,g3⟩:=(liveM_at _ _ _).1 hm
    exact ⟨k,(hs.at_ _ _).2 ⟨k,rfl,g1,g2,by unfold keyM;rw [if_neg hc,g3]⟩,g3⟩
  rcases h with ⟨hc,h2,h3⟩|⟨hc,h2⟩|⟨hc,Q,h2,h3⟩
  · cases ha:s.at_ (keyM ps c) with
    | none=>simp only [];rw [if_pos hc];exact ⟨_,rfl⟩
    | some q =>
      exfalso
      obtain ⟨k,rfl,g1,g2,g3⟩:=(hs.at_ _ _).1 ha
      refine h2 _ ((liveM_at _ _ _).2 ⟨k,g1,g2,rfl⟩) ?_
      rw [g3];unfold keyM;rw [if_pos hc]
  · obtain ⟨q,e1,e2⟩:=hold (by omega) (h2.mem_iff.2 (by simp))
    rw [e1]
    simp only [Int.toNat_natCast]
    rw [if_neg (by omega),if_neg (not_not_intro e2),if_pos hc]
    exact ⟨_,rfl⟩
  · obtain ⟨q,e1,e2⟩:=hold (by omega) (h2.mem_iff.2 (by simp))
    rw [e1]
    simp only [Int.toNat_natCast]
    rw [if_neg (by omega),if_neg (not_not_intro e2),if_neg (by omega)]
    exact ⟨_,rfl⟩
end Go.Proofs.YtjajihaeoolefaaGreatDoor
namespace Go.Proofs.YtjajihaeoolefaaGreatDoor
set_option linter.unusedSimpArgs false
set_option linter.unusedVariables false
open Go.RowKit
theorem keysF_ne (names:List Str):∀ (ks:List Str) (ps:List Int) (i:Int) (x:Int×Int),keysF names ks ps i=some x→x.2≠0
  | [],_,_,_,h=>by simp [keysF] at h
  | k :: ks,ps,i,x,h=>by
    rw [keysF] at h
    split at h
    · cases h;simp
    · split at h
      · cases h;simp
      · exact keysF_ne names ks _ _ x h
theorem rowsF_ne (n:Int) (ps:List Int):∀ (rs:List (List Val)) (ah:List Str) (i:Int) (x:Int×Int),rowsF n ps rs ah i=some x→x.2≠0
  | [],_,_,_,h=>by simp [rowsF] at h
  | r :: rs,ah,i,x,h=>by
    rw [rowsF] at h
    split at h
    · cases h;simp
    · split at h
      · cases h;simp
      · split at h
        · cases h;simp
        · exact rowsF_ne n ps rs _ _ x h
theorem atM_in (l:List Str) (s:Str):0≤atM l s↔s∈l:=by
  unfold atM
  have : ∀ (l:List Str) (i:Nat),0≤atF l s i↔s∈l:=by
    intro l
    induction l with
    | nil=>intro i;simp [atF]
    | cons a l ih =>
      intro i
      rw [atF]
      by_cases h:a=s
      · rw [if_pos h];simp [h]
      · rw [if_neg h,ih];simp [Ne.symm h]
  exact this l 0
theorem rowsF_none (n:Int) (ps:List Int):∀ (rs:List (List Val)) (ah:List Str) (i:Int),rowsF n ps rs ah i=none↔(∀ r∈rs,(r.length:Int)=n∧nullM r ps=false)∧(rs.map fun r=>markM tailV r ps).Nodup∧∀ r∈rs,markM tailV r ps ∉ ah
  | [],_,_=>by simp [rowsF]
  | r :: rs, ah,i=>by
    rw [rowsF]
    by_cases h1:(r.length:Int)≠n
    · rw [if_pos h1];simp [h1]
    · rw [if_neg h1]
      have h1:=Classical.not_not.1 h1
      cases h2:nullM r ps
      · rw [if_neg (by simp)]
        by_cases h3:markM tailV r ps∈ah
        · rw [if_pos ((atM_in _ _).2 h3)];simp [h3]
        · rw [if_neg (fun e=>h3 ((atM_in _ _).1 e)),rowsF_none n ps rs]
          simp only [List.mem_cons,forall_eq_or_imp,List.map_cons,List.nodup_cons,List.mem_append,List.not_mem_nil,or_false,List.mem_map,not_exists,not_and,not_or]
          constructor
          · rintro ⟨a1,a2,a3⟩
            exact ⟨⟨⟨h1,h2⟩,a1⟩,⟨fun x hx e=>(a3 x hx).2 e,a2⟩,h3,fun x hx=>(a3 x hx).1⟩
          · rintro ⟨⟨_,a1⟩,⟨a2,a3⟩,_,a4⟩
            exact ⟨a1,a3,fun x hx=>⟨a4 x hx,fun e=>a2 x hx e⟩⟩
      · rw [if_pos rfl];simp [h2]
def KeysOk (l:List Col) (keys:List Str):Prop:=(checkM (l.map nkC)).2=0∧keys.length≠0∧keysF (l.map (·.name)) keys [] 0=none
theorem rows_vw {n:Int} {ps:List Int} {rs:List (List Val)} (h:∀ r∈rs,(r.length:Int)=n∧nullM r ps=false):(rs.map fun r=>markM tailV r ps)=rs.map fun r=>markM tailW r ps :=
  List.map_congr_left fun r hr=>mark_vw r ps (h r hr).2
theorem dchk_iff (l:List Col) (rows:List (List Val)) (keys:List Str):(dchkM l rows keys).2=0↔KeysOk l keys∧RowsOk l.length (placesM l keys) rows:=by
  unfold dchkM KeysOk
  by_cases h1:(checkM (l.map nkC)).2≠0
  · rw [if_pos h1]
    constructor
    · intro h;exact absurd h h1
    · intro h;exact absurd h.1.1 h1
  · rw [if_neg h1]
    by_cases h2:keys.length=0
    · rw [if_pos h2]
      constructor
      · intro h;exact absurd h (by decide)
      · intro h;exact absurd h2 h.1.2.1
    · rw [if_neg h2]
      cases h3:keysF (l.map (·.name)) keys [] 0 with
      | some x =>
        have:=keysF_ne _ _ _ _ _ h3
        constructor
        · intro h;exact absurd h this
        · intro h;cases h.1.2.2
      | none =>
        simp only [orE]
        cases h4:rowsF l.length (placesM l keys) rows [] 0 with
        | some x =>
          have:=rowsF_ne _ _ _ _ _ _ h4
          constructor
          · intro h;exact absurd h this
          · intro h
            have hv:=rows_vw h.2.w
            have:=(rowsF_none l.length (placesM l keys) rows [] 0).2 ⟨h.2.w,by rw [hv];exact h.2.d,fun _ _=>by simp⟩
            rw [h4] at this
            cases this
        | none =>
          obtain ⟨a1,a2,_⟩:=(rowsF_none _ _ _ _ _).1 h4
          constructor
          · intro _
            exact ⟨⟨Classical.not_not.1 h1,h2,by first|rfl|trivial⟩,⟨a1,by rw [rows_vw a1] at a2;exact a2⟩⟩
          · intro _;rfl
theorem rowsOk_nil (n:Int) (ps:List Int):RowsOk n ps []:=⟨fun _ h=>by simp at h,List.nodup_nil⟩
theorem onesF_iff (n:Int) (ps:List Int):∀ (cs:List Chg) (i:Int),(onesF n ps cs i).2=0↔∀ c∈cs,oneM n ps c=0
  | [],i=>by simp [onesF]
  | c :: cs,i=>by
    rw [onesF]
    by_cases h:oneM n ps c≠0
    · rw [if_pos h]
      constructor
      · intro e;exact absurd e h
      · intro e;exact absurd (e c (by simp)) h
    · rw [if_neg h,onesF_iff n ps cs]
      have h:=Classical.not_not.1 h
      simp [h]
theorem pchk_iff (l:List Col) (keys:List Str) (cs:List Chg):(pchkM l keys cs).2=0↔KeysOk l keys∧∀ c∈cs,oneM l.length (placesM l keys) c=0:=by
  unfold pchkM
  have hd:=dchk_iff l [] keys
  by_cases h:(dchkM l [] keys).2≠0
  · rw [if_pos h]
    constructor
    · intro e;exact absurd e h
    · intro e;exact absurd (hd.2 ⟨e.1,rowsOk_nil _ _⟩) h
  · rw [if_neg h,onesF_iff]
    have h:=Classical.not_not.1 h
    exact ⟨fun e=>⟨(hd.1 h).1,e⟩,fun e=>e.2⟩
theorem atsF_get (ps:List Int):∀ (rs:List (List Val)) (i:Int) (m:Str→Option Int),(rs.map fun r=>markM tailW r ps).Nodup→∀ k (n:Int),atsF ps rs i m k=some n↔(∃ j:Nat,n=i+j∧j < rs.length∧markM tailW (rs.getD j []) ps=k)∨(m k=some n∧∀ r∈rs,markM tailW r ps≠k)
  | [],i,m,_,k,n=>by simp [atsF]
  | r :: rs,i,m,hd,k,n=>by
    rw [atsF]
    rw [List.map_cons,List.nodup_cons] at hd
    rw [atsF_get ps rs (i+1) _ hd.2 k n]
    have hr:∀ x∈rs,markM tailW x ps≠markM tailW r ps:=fun x hx e=>hd.1 (List.mem_map.2 ⟨x,hx,e⟩)
    constructor
    · rintro (⟨j,rfl,h1,h2⟩|⟨h1,h2⟩)
      · exact .inl ⟨j+1,by omega,by simp;exact h1,by simpa using h2⟩
      · simp only [mput] at h1
        by_cases hk:k=markM tailW r ps
        · rw [if_pos hk] at h1
          cases h1
          exact .inl ⟨0,by simp,by simp,by simpa using hk.symm⟩
        · rw [if_neg hk] at h1
          refine .inr ⟨h1,fun x hx=>?_⟩
          rcases List.mem_cons.1 hx with rfl|hx
          · exact Ne.symm hk
          · exact h2 x hx
    · rintro (⟨j,rfl,h1,h2⟩|⟨h1,h2⟩)
      · cases j with
        | zero =>
          simp at h2
          subst h2
          refine .inr ⟨by simp [mput],hr⟩
        | succ j=>exact .inl ⟨j,by omega,by simpa using h1,by simpa using h2⟩
      · refine .inr ⟨?_,fun x hx=>h2 x (List.mem_cons_of_mem _ hx)⟩
        have:=h2 r (by simp)
        simp only [mput]
        rw [if_neg (Ne.symm this)]
        exact h1
theorem stt_ok {ps:List Int} {rows:List (List Val)} (h:KeyD ps rows):SttOk ps (sttM ps rows):=by
  refine ⟨by simp [sttM],fun m n=>?_⟩
  simp only [sttM]
  rw [atsF_get ps rows 0 _ h]
  constructor
  · rintro (⟨j,rfl,h1,h2⟩|⟨h1,_⟩)
    · exact ⟨j,by omega,h1,by rw [List.getD_eq_getElem?_getD];simp [h1],h2⟩
    · cases h1
  · rintro ⟨k,rfl,h1,_,h2⟩
    exact .inl ⟨k,by omega,h1,h2⟩
inductive Stps (ps:List Int):List (List Val)→List Chg→List (List Val)→Prop
  | nil {R R':List (List Val)}:R.Perm R'→Stps ps R [] R'
  | cons {R R1 R':List (List Val)} {c:Chg} {cs:List Chg}:Stp ps R c R1→Stps ps R1 cs R'→Stps ps R (c :: cs) R'
theorem Stps.perm {ps:List Int} {R T R':List (List Val)} {cs:List Chg} (h:Stps ps R cs R') (hp:R.Perm T):Stps ps T cs R':=by
  cases h with
  | nil h=>exact .nil (hp.symm.trans h)
  | cons h1 h2=>exact .cons (h1.perm hp) h2
theorem Stps.uniq {ps:List Int}:∀ {cs:List Chg} {R R1 R2:List (List Val)},Stps ps R cs R1→Stps ps R cs R2→R1.Perm R2
  | _,_,_,_,.nil h,.nil h'=>h.symm.trans h'
  | _,_,_,_,.cons h1 h2,.cons h1' h2'=>by
    have:=h1.uniq h1'
    exact (h2.perm this).uniq h2'
theorem csts_may {n:Int} {ps:List Int}:∀ (cs:List Chg) (i:Int) (s:Stt) (R':List (List Val)),SttOk ps s→RowsOk n ps (liveM s.rows s.gone)→(∀ c∈cs,oneM n ps c=0)→Stps ps (liveM s.rows s.gone) cs R'→∃ s',cstsF ps cs i s=.ok s'∧(liveM s'.rows s'.gone).Perm R'
  | [],i,s,R',hs,_,_,h=>by
    cases h with
    | nil h=>exact ⟨s,rfl,h⟩
  | c :: cs,i,s,R',hs,hR,h1,h=>by
    cases h with
    | cons h2 h3 =>
      obtain ⟨s2,hc⟩:=cst_may hs (h1 c (by simp)) h2 hR.d
      obtain ⟨a1,a2⟩:=cst_ok hs (h1 c (by simp)) hc
      obtain ⟨s',e,hp⟩:=csts_may cs (i+1) s2 R' a1 (a2.ok (h1 c (by simp)) hR) (fun x hx=>h1 x (List.mem_cons_of_mem _ hx)) (h3.perm (h2.uniq a2))
      exact ⟨s',by rw [cstsF,hc];exact e,hp⟩
theorem applyM_may {l:List Col} {rows R:List (List Val)} {keys:List Str} {cs:List Chg} (k1:KeysOk l keys) (k2:RowsOk l.length (placesM l keys) rows) (k3:∀ c∈cs,oneM l.length (placesM l keys) c=0) (h:Stps (placesM l keys) rows cs R):∃ T,applyM l rows keys cs=.ok T∧T.Perm R:=by
  have hl:liveM (sttM (placesM l keys) rows).rows (sttM (placesM l keys) rows).gone=rows:=liveM_all rows
  obtain ⟨s',e,hp⟩:=csts_may (n:=l.length) cs 0 (sttM (placesM l keys) rows) R (stt_ok k2.d) (by rw [hl];exact k2) k3 (by rw [hl];exact h)
  refine ⟨liveM s'.rows s'.gone,?_,hp⟩
  unfold applyM
  rw [if_neg (not_not_intro ((dchk_iff _ _ _).2 ⟨k1,k2⟩)),if_neg (not_not_intro ((pchk_iff _ _ _).2 ⟨k1,k3⟩)),e]
theorem Stps.ok {n:Int} {ps:List Int}:∀ {cs:List Chg} {R R':List (List Val)},Stps ps R cs R'→(∀ c∈cs,oneM n ps c=0)→RowsOk n ps R→RowsOk n ps R'
  | _,_,_,.nil h,_,hR=>hR.perm h
  | _,_,_,.cons h1 h2,h,hR=>h2.ok (fun x hx=>h x (List.mem_cons_of_mem _ hx)) (h1.ok (h _ (by simp)) hR)
end Go.Proofs.YtjajihaeoolefaaGreatDoor
namespace Go.Proofs.YtjajihaeoolefaaGreatDoor
set_option linter.unusedSimpArgs false
set_option linter.unusedVariables false
open Go.RowKit
def dif1 (ps:List Int) (rb:List (List Val)) (r:List Val):Option Chg :=
  match atsF ps rb 0 (fun _=>none) (markM tailW r ps) with
  | none=>some ⟨1,r,[]⟩
  | some n=>if r=rb.getD n.toNat [] then none else some ⟨2,r,rb.getD n.toNat []⟩
def dif2 (ps:List Int) (ra:List (List Val)) (r:List Val):Option Chg:=if markM tailW r ps∈ra.map (fun r=>markM tailW r ps) then none else some ⟨3,[],r⟩
def difM (ps:List Int) (ra rb:List (List Val)):List Chg:=ra.filterMap (dif1 ps rb)++rb.filterMap (dif2 ps ra)
def getR (ps:List Int) (R:List (List Val)) (m:Str):Option (List Val):=R.find? fun r=>decide (markM tailW r ps=m)
def chgM:Option (List Val)→Option (List Val)→Option Chg
  | none,none=>none
  | some r,none=>some ⟨1,r,[]⟩
  | none,some s=>some ⟨3,[],s⟩
  | some r,some s=>if r=s then none else some ⟨2,r,s⟩
theorem getR_some {ps:List Int} {R:List (List Val)} {m:Str} {r:List Val} (h:getR ps R m=some r):r∈R∧markM tailW r ps=m:=by
  unfold getR at h
  exact ⟨List.mem_of_find?_eq_some h,by simpa using List.find?_some h⟩
theorem getR_none {ps:List Int} {R:List (List Val)} {m:Str}:getR ps R m=none↔∀ r∈R,markM tailW r ps≠m:=by
  unfold getR
  rw [List.find?_eq_none]
  simp
theorem keyD_eq {ps:List Int}:∀ {R:List (List Val)},KeyD ps R→∀ {a b:List Val},a∈R→b∈R→markM tailW a ps=markM tailW b ps→a=b
  | [],_,_,_,ha,_,_=>by simp at ha
  | r :: R,h,a,b,ha,hb,e=>by
    have h2:=h
    unfold KeyD at h2
    rw [List.map_cons,List.nodup_cons] at h2
    rcases List.mem_cons.1 ha with rfl|ha'<;>rcases List.mem_cons.1 hb with rfl|hb'
    · rfl
    · exact absurd (List.mem_map.2 ⟨b,hb',e.symm⟩) h2.1
    · exact absurd (List.mem_map.2 ⟨a,ha',e⟩) h2.1
    · exact keyD_eq (R:=R) h2.2 ha' hb' e
theorem keyD_nodup {ps:List Int} {R:List (List Val)} (h:KeyD ps R):R.Nodup:=List.Pairwise.of_map (fun r=>markM tailW r ps) (fun a b hne e=>hne (by rw [e])) h
theorem getR_mem {ps:List Int} {R:List (List Val)} (h:KeyD ps R) {r:List Val} (hr:r∈R):getR ps R (markM tailW r ps)=some r:=by
  cases e:getR ps R (markM tailW r ps) with
  | none=>exact absurd rfl (getR_none.1 e r hr)
  | some x =>
    obtain ⟨h1,h2⟩:=getR_some e
    rw [keyD_eq h h1 hr h2]
theorem getR_iff {ps:List Int} {R:List (List Val)} (h:KeyD ps R) {m:Str} {r:List Val}:getR ps R m=some r↔r∈R∧markM tailW r ps=m :=
  ⟨getR_some,fun ⟨h1,h2⟩=>by rw [←h2];exact getR_mem h h1⟩
theorem getR_perm {ps:List Int} {R T:List (List Val)} (h:KeyD ps R) (hp:R.Perm T) (m:Str):getR ps R m=getR ps T m:=by
  cases e:getR ps T m with
  | none=>exact getR_none.2 fun r hr=>getR_none.1 e r (hp.mem_iff.1 hr)
  | some x =>
    obtain ⟨h1,h2⟩:=getR_some e
    exact (getR_iff h).2 ⟨hp.mem_iff.2 h1,h2⟩
theorem getR_cons (ps:List Int) (x:List Val) (R:List (List Val)) (m:Str):getR ps (x :: R) m=if markM tailW x ps=m then some x else getR ps R m:=by
  unfold getR
  rw [List.find?_cons]
  by_cases h:markM tailW x ps=m
  · simp [h]
  · simp [h]
theorem perm_of_get {ps:List Int} {R T:List (List Val)} (hR:KeyD ps R) (hT:KeyD ps T) (h:∀ m,getR ps R m=getR ps T m):R.Perm T:=by
  have n1:R.Nodup:=keyD_nodup hR
  have n2:T.Nodup:=keyD_nodup hT
  rw [List.perm_ext_iff_of_nodup n1 n2]
  intro r
  constructor
  · intro hr
    have:=getR_mem hR hr
    rw [h] at this
    exact (getR_some this).1
  · intro hr
    have:=getR_mem hT hr
    rw [←h] at this
    exact (getR_some this).1
theorem ats_get {ps:List Int} {R:List (List Val)} (h:KeyD ps R) (m:Str):(atsF ps R 0 (fun _=>none) m).map (fun n=>R.getD n.toNat [])=getR ps R m:=by
  cases e:atsF ps R 0 (fun _=>none) m with
  | none =>
    refine (getR_none.2 fun r hr he=>?_).symm
    obtain ⟨j,hj,rfl⟩:=List.mem_iff_getElem.1 hr
    have:=(atsF_get ps R 0 (fun _=>none) h m (j:Int)).2 (.inl ⟨j,by omega,hj,by rw [List.getD_eq_getElem?_getD,List.getElem?_eq_getElem hj];exact he⟩)
    rw [e] at this
    cases this
  | some n =>
    rcases (atsF_get ps R 0 (fun _=>none) h m n).1 e with ⟨j,rfl,hj,hm⟩|⟨h1,_⟩
    · refine ((getR_iff h).2 ⟨?_,?_⟩).symm
      · show R.getD (0+(j:Int)).toNat []∈R
        rw [show (0+(j:Int)).toNat=j by omega,List.getD_eq_getElem?_getD,List.getElem?_eq_getElem hj]
        exact List.getElem_mem hj
      · show markM tailW (R.getD (0+(j:Int)).toNat []) ps=m
        rw [show (0+(j:Int)).toNat=j by omega];exact hm
    · cases h1
theorem dif1_eq {ps:List Int} {rb:List (List Val)} (h:KeyD ps rb) (r:List Val):dif1 ps rb r=chgM (some r) (getR ps rb (markM tailW r ps)):=by
  have:=ats_get h (markM tailW r ps)
  unfold dif1
  cases e:atsF ps rb 0 (fun _=>none) (markM tailW r ps) with
  | none=>rw [e] at this;rw [←this];rfl
  | some n=>rw [e] at this;rw [←this];rfl
theorem dif2_eq (ps:List Int) (ra:List (List Val)) (r:List Val):dif2 ps ra r=if getR ps ra (markM tailW r ps)=none then some ⟨3,[],r⟩ else none:=by
  unfold dif2
  by_cases h:markM tailW r ps∈ra.map (fun r=>markM tailW r ps)
  · rw [if_pos h,if_neg]
    intro e
    obtain ⟨x,hx,hm⟩:=List.mem_map.1 h
    exact getR_none.1 e x hx hm
  · rw [if_neg h,if_pos]
    exact getR_none.2 fun x hx hm=>h (List.mem_map.2 ⟨x,hx,hm⟩)
theorem chg_key {ps:List Int} {R T:List (List Val)} {m:Str} {c:Chg} (h:chgM (getR ps R m) (getR ps T m)=some c):keyM ps c=m:=by
  cases e1:getR ps R m with
  | none =>
    cases e2:getR ps T m with
    | none=>rw [e1,e2] at h;cases h
    | some s=>rw [e1,e2] at h;cases h;exact (getR_some e2).2
  | some r =>
    cases e2:getR ps T m with
    | none=>rw [e1,e2] at h;cases h;exact (getR_some e1).2
    | some s =>
      rw [e1,e2] at h
      simp only [chgM] at h
      split at h
      · cases h
      · cases h;exact (getR_some e1).2
theorem dif_mem {ps:List Int} {ra rb:List (List Val)} (ha:KeyD ps ra) (hb:KeyD ps rb) (c:Chg):c∈difM ps ra rb↔∃ m,chgM (getR ps ra m) (getR ps rb m)=some c:=by
  unfold difM
  rw [List.mem_append,List.mem_filterMap,List.mem_filterMap]
  constructor
  · rintro (⟨r,hr,h⟩|⟨r,hr,h⟩)
    · rw [dif1_eq hb] at h
      exact ⟨markM tailW r ps,by rw [getR_mem ha hr];exact h⟩
    · rw [dif2_eq] at h
      split at h
      · rename_i hn
        exact ⟨markM tailW r ps,by rw [hn,getR_mem hb hr];exact h⟩
      · cases h
  · rintro ⟨m,h⟩
    cases e1:getR ps ra m with
    | none =>
      cases e2:getR ps rb m with
      | none=>rw [e1,e2] at h;cases h
      | some s =>
        obtain ⟨h1,h2⟩:=getR_some e2
        refine .inr ⟨s,h1,?_⟩
        rw [dif2_eq,h2,if_pos e1]
        rw [e1,e2] at h;exact h
    | some r =>
      obtain ⟨h1,h2⟩:=getR_some e1
      refine .inl ⟨r,h1,?_⟩
      rw [dif1_eq hb,h2,←e1]
      exact h
theorem dif_keys {ps:List Int} {ra rb:List (List Val)} (ha:KeyD ps ra) (hb:KeyD ps rb):((difM ps ra rb).map (keyM ps)).Nodup:=by
  have k1:∀ r c,dif1 ps rb r=some c→keyM ps c=markM tailW r ps:=fun r c h=>by
    unfold dif1 at h
    split at h
    · cases h;rfl
    · split at h
      · cases h
      · cases h;rfl
  have k2:∀ r c,dif2 ps ra r=some c→keyM ps c=markM tailW r ps∧markM tailW r ps ∉ ra.map (fun r=>markM tailW r ps):=fun r c h=>by
    unfold dif2 at h
    split at h
    · cases h
    · rename_i hn;cases h;exact ⟨rfl,hn⟩
  have gen:∀ (R:List (List Val)) (f:List Val→Option Chg),KeyD ps R→(∀ r c,f r=some c→keyM ps c=markM tailW r ps)→((R.filterMap f).map (keyM ps)).Nodup∧∀ x∈(R.filterMap f).map (keyM ps),x∈R.map (fun r=>markM tailW r ps):=by
    intro R f
    induction R with
    | nil=>intro _ _;exact ⟨List.nodup_nil,fun x hx=>by simp at hx⟩
    | cons r R ih =>
      intro hR hf
      unfold KeyD at hR
      rw [List.map_cons,List.nodup_cons] at hR
      obtain ⟨i1,i2⟩:=ih hR.2 hf
      rw [List.filterMap_cons]
      cases e:f r with
      | none=>exact ⟨i1,fun x hx=>List.mem_cons_of_mem _ (i2 x hx)⟩
      | some c =>
        simp only [List.map_cons,List.nodup_cons,List.mem_cons]
        have hk:=hf r c e
        refine ⟨⟨fun hm=>hR.1 (by rw [←hk];exact i2 _ hm),i1⟩,fun x hx=>?_⟩
        rcases hx with rfl|hx
        · exact .inl hk
        · exact .inr (i2 x hx)
  obtain ⟨a1,a2⟩:=gen ra (dif1 ps rb) ha k1
  obtain ⟨b1,b2⟩:=gen rb (dif2 ps ra) hb (fun r c h=>(k2 r c h).1)
  unfold difM
  rw [List.map_append,List.nodup_append]
  refine ⟨a1,b1,fun x hx y hy e=>?_⟩
  subst e
  obtain ⟨c,hc,rfl⟩:=List.mem_map.1 hy
  obtain ⟨r,_,h⟩:=List.mem_filterMap.1 hc
  obtain ⟨e1,e2⟩:=k2 r c h
  exact e2 (by rw [←e1];exact a2 _ hx)
end Go.Proofs.YtjajihaeoolefaaGreatDoor
namespace Go.Proofs.YtjajihaeoolefaaGreatDoor
set_option linter.unusedSimpArgs false
set_option linter.unusedVariables false
open Go.RowKit
theorem chg_same {a b c:Option (List Val)} (h:chgM b c=none):chgM a b=chgM a c:=by
  have : b=c:=by
    cases b with
    | none=>cases c with
      | none=>rfl
      | some t=>cases h
    | some s=>cases c with
      | none=>cases h
      | some t =>
        simp only [chgM] at h
        split at h
        · rename_i e;rw [e]
        · cases h
  rw [this]
theorem dif_iff {ps:List Int} {ra rb:List (List Val)} (ha:KeyD ps ra) (hb:KeyD ps rb) (c:Chg):c∈difM ps ra rb↔chgM (getR ps ra (keyM ps c)) (getR ps rb (keyM ps c))=some c:=by
  rw [dif_mem ha hb]
  constructor
  · rintro ⟨m,h⟩
    rw [chg_key h];exact h
  · intro h;exact ⟨_,h⟩
theorem chg_one {n:Int} {ps:List Int} {ra rb:List (List Val)} (ha:RowsOk n ps ra) (hb:RowsOk n ps rb) {c:Chg} (h:c∈difM ps ra rb):oneM n ps c=0:=by
  obtain ⟨m,h⟩:=(dif_mem ha.d hb.d c).1 h
  refine oneM_mk ?_
  cases e1:getR ps ra m with
  | none =>
    cases e2:getR ps rb m with
    | none=>rw [e1,e2] at h;cases h
    | some s =>
      rw [e1,e2] at h;cases h
      exact ⟨by simp,fun _=>rfl,fun e=>by simp at e,fun e=>absurd rfl e,fun _=>hb.w s (getR_some e2).1,fun e=>by simp at e⟩
  | some r =>
    cases e2:getR ps rb m with
    | none =>
      rw [e1,e2] at h;cases h
      exact ⟨by simp,fun e=>by simp at e,fun _=>rfl,fun _=>ha.w r (getR_some e1).1,fun e=>absurd rfl e,fun e=>by simp at e⟩
    | some s =>
      rw [e1,e2] at h
      simp only [chgM] at h
      split at h
      · cases h
      · cases h
        exact ⟨by simp,fun e=>by simp at e,fun e=>by simp at e,fun _=>ha.w r (getR_some e1).1,fun _=>hb.w s (getR_some e2).1,fun _=>(getR_some e1).2.trans (getR_some e2).2.symm⟩
theorem apply_run {n:Int} {ps:List Int} {T:List (List Val)} (hT:RowsOk n ps T):∀ (D:List Chg) (R:List (List Val)),RowsOk n ps R→(D.map (keyM ps)).Nodup→(∀ c∈D,oneM n ps c=0)→(∀ c∈D,chgM (getR ps R (keyM ps c)) (getR ps T (keyM ps c))=some c)→(∀ m,(∀ c∈D,keyM ps c≠m)→getR ps R m=getR ps T m)→Stps ps R D T
  | [],R,hR,_,_,_,hm=>.nil (perm_of_get hR.d hT.d fun m=>hm m (fun c hc=>by simp at hc))
  | c :: D, R,hR,hn,ho,hc,hm=>by
    rw [List.map_cons,List.nodup_cons] at hn
    have hne:∀ x∈D,keyM ps x≠keyM ps c:=fun x hx e=>hn.1 (List.mem_map.2 ⟨x,hx,e⟩)
    have hcc:=hc c (by simp)
    have step:∃ R1,Stp ps R c R1∧∀ m,getR ps R1 m=if m=keyM ps c then getR ps T m else getR ps R m:=by
      generalize hk:keyM ps c=k at *
      cases e1:getR ps R k with
      | none =>
        cases e2:getR ps T k with
        | none=>rw [e1,e2] at hcc;cases hcc
        | some s =>
          rw [e1,e2] at hcc;cases hcc
          obtain ⟨s1,s2⟩:=getR_some e2
          refine ⟨s :: R,.inl ⟨rfl,fun r hr=>?_,List.Perm.refl _⟩,fun m=>?_⟩
          · rw [s2];exact getR_none.1 e1 r hr
          · rw [getR_cons,s2]
            by_cases h:m=k
            · rw [if_pos h.symm,if_pos h,h,e2]
            · rw [if_neg (Ne.symm h),if_neg h]
      | some r =>
        obtain ⟨r1,r2⟩:=getR_some e1
        obtain ⟨Q,hQ⟩:∃ Q,R.Perm (r :: Q):=⟨_,List.perm_cons_erase r1⟩
        have hD:=hR.d.perm hQ
        have hq:∀ m,getR ps Q m=if m=k then none else getR ps R m:=fun m=>by
          rw [getR_perm hR.d hQ,getR_cons,r2]
          by_cases h:m=k
          · rw [if_pos h]
            refine getR_none.2 fun x hx e=>?_
            exact hD.head x hx (by rw [e,r2,h])
          · rw [if_neg h,if_neg (Ne.symm h)]
        cases e2:getR ps T k with
        | none =>
          rw [e1,e2] at hcc;cases hcc
          refine ⟨Q,.inr (.inl ⟨rfl,hQ⟩),fun m=>?_⟩
          rw [hq]
          by_cases h:m=k
          · rw [if_pos h,if_pos h,h,e2]
          · rw [if_neg h,if_neg h]
        | some s =>
          obtain ⟨s1,s2⟩:=getR_some e2
          rw [e1,e2] at hcc
          simp only [chgM] at hcc
          split at hcc
          · cases hcc
          cases hcc
          refine ⟨s :: Q,.inr (.inr ⟨rfl,Q,hQ,List.Perm.refl _⟩),fun m=>?_⟩
          rw [getR_cons,s2,hq]
          by_cases h:m=k
          · rw [if_pos h.symm,if_pos h,h,e2]
          · rw [if_neg (Ne.symm h),if_neg h,if_neg h]
    obtain ⟨R1,h1,h2⟩:=step
    refine .cons h1 (apply_run hT D R1 (h1.ok (ho c (by simp)) hR) hn.2 (fun x hx=>ho x (List.mem_cons_of_mem _ hx)) (fun x hx=>?_) (fun m hx=>?_))
    · rw [h2,if_neg (hne x hx)];exact hc x (List.mem_cons_of_mem _ hx)
    · rw [h2]
      by_cases h:m=keyM ps c
      · rw [if_pos h]
      · rw [if_neg h]
        exact hm m fun x hx'=>by
          rcases List.mem_cons.1 hx' with rfl|hx'
          · exact Ne.symm h
          · exact hx x hx'
theorem apply_dif {n:Int} {ps:List Int} {ra rb:List (List Val)} {D:List Chg} (ha:RowsOk n ps ra) (hb:RowsOk n ps rb) (hD:D.Perm (difM ps ra rb)):(∀ c∈D,oneM n ps c=0)∧Stps ps ra D rb:=by
  have h1:∀ c∈D,oneM n ps c=0:=fun c hc=>chg_one ha hb (hD.mem_iff.1 hc)
  refine ⟨h1,apply_run hb D ra ha ((hD.map (keyM ps)).nodup_iff.2 (dif_keys ha.d hb.d)) h1 (fun c hc=>(dif_iff ha.d hb.d c).1 (hD.mem_iff.1 hc)) (fun m hm=>?_)⟩
  cases e:chgM (getR ps ra m) (getR ps rb m) with
  | some c=>exact absurd (chg_key e) (hm c (hD.mem_iff.2 ((dif_mem ha.d hb.d c).2 ⟨m,e⟩)))
  | none =>
    have:=chg_same (a:=none) e
    cases h1:getR ps ra m<;>cases h2:getR ps rb m<;>rw [h1,h2] at e<;>simp [chgM] at e ⊢
    exact e
end Go.Proofs.YtjajihaeoolefaaGreatDoor
