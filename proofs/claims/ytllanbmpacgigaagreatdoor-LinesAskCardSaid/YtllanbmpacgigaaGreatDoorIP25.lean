/- Texts of the proof, joined. -/
import Derived.Test.YtllanbmpacgigaaGreatDoorIP20
import Derived.Test.YtllanbmpacgigaaGreatDoorIP15
namespace Go.Proofs.YtllanbmpacgigaaGreatDoor
open Nat renaming reduceAdd→zq1,reduceLeDiff→zq2,reduceEqDiff→zq3,reduceLT→zq4
open Int renaming reduceToNat→zq5
set_option linter.unusedSimpArgs false
set_option linter.unusedVariables false
open Go.RowKit
structure Chg where
 kind:Int
 old:List Val
 new:List Val
instance : Inhabited Chg := ⟨⟨0, [], []⟩⟩
def tailV (v:Val):Str :=
 if v.kind=1 then [116]++Lib.itoa v.s.length++[58]++v.s else if v.kind=2 then [105]++Lib.itoa v.n++[59]
 else if v.kind=3 then [98]++(if v.b=true then [116,114,117,101] else [102,97,108,115,101])++[59] else []
def tailW (v:Val):Str:=if v.kind=0 then [110] else tailV v
def markM (f:Val→Str) (r:List Val) (ps:List Int):Str:=(ps.map fun p=>f (r.getD p.toNat default)).flatten
def nullM (r:List Val) (ps:List Int):Bool:=ps.any fun p=>decide ((r.getD p.toNat default).kind=0)
theorem mark_vw (r:List Val) (ps:List Int) (h:nullM r ps=false):markM tailV r ps=markM tailW r ps:=by
 unfold markM
 congr 1
 refine List.map_congr_left fun p hp=>?_
 have h2:=List.any_eq_false.1 h p hp
 simp only [decide_eq_true_eq] at h2
 unfold tailW
 rw [if_neg h2]
def plcM (l:List Col) (k:Str):Int:=if 0≤atM (l.map (·.name)) k then atM (l.map (·.name)) k else 0
def placesM (l:List Col) (keys:List Str):List Int:=keys.map (plcM l)
def keysF (names:List Str):List Str→List Int→Int→Option (Int×Int)
 | [],_,_=>none
 | k :: ks,ps,i=>if atM names k < 0 then some (i,16) else if atM names k∈ps then some (i,15) else keysF names ks (ps++[atM names k]) (i+1)
def rowsF (n:Int) (ps:List Int):List (List Val)→List Str→Int→Option (Int×Int)
 | [],_,_=>none
 | r :: rs,ah,i=>if (r.length:Int)≠n then some (i,10) else if nullM r ps=true then some (i,20) else if 0≤atM ah (markM tailV r ps) then some (i,15) else rowsF n ps rs (ah++[markM tailV r ps]) (i+1)
def orE (a:Option (Int×Int)) (b:Int×Int):Int×Int:=match a with|some x=>x|none=>b
def dchkM (l:List Col) (rows:List (List Val)) (keys:List Str):Int×Int :=
 if (checkM (l.map nkC)).2≠0 then (0,(checkM (l.map nkC)).2) else if keys.length=0 then (0,13)
 else orE (keysF (l.map (·.name)) keys [] 0) (orE (rowsF l.length (placesM l keys) rows [] 0) (rows.length,0))
def oneM (n:Int) (ps:List Int) (c:Chg):Int :=
 if c.kind < 1∨3 < c.kind∨(c.kind=3∧0 < (c.old.length:Int))∨(c.kind=1∧0 < (c.new.length:Int)) then 22
 else if (c.kind≠3∧(c.old.length:Int)≠n)∨(c.kind≠1∧(c.new.length:Int)≠n) then 10
 else if (c.kind≠3∧nullM c.old ps=true)∨(c.kind≠1∧nullM c.new ps=true) then 20
 else if c.kind=2∧markM tailW c.old ps≠markM tailW c.new ps then 21 else 0
def atsF (ps:List Int):List (List Val)→Int→(Str→Option Int)→(Str→Option Int)
 | [],_,m=>m
 | r :: rs,i,m=>atsF ps rs (i+1) (mput m (markM tailW r ps) i)
def Stp (ps:List Int) (R:List (List Val)) (c:Chg) (R':List (List Val)):Prop :=
 (c.kind=3∧(∀ r∈R,markM tailW r ps≠markM tailW c.new ps)∧R'.Perm (c.new :: R))∨(c.kind=1∧R.Perm (c.old :: R')) ∨
 (c.kind=2∧∃ Q,R.Perm (c.old :: Q)∧R'.Perm (c.new :: Q))
theorem Stp.perm {ps:List Int} {R R' T:List (List Val)} {c:Chg} (h:Stp ps R c R') (hp:R.Perm T):Stp ps T c R':=by
 rcases h with ⟨h1,h2,h3⟩|⟨h1,h2⟩|⟨h1,Q,h2,h3⟩
 ·exact .inl ⟨h1,fun r hr=>h2 r (hp.mem_iff.2 hr),h3.trans (hp.cons _)⟩
 ·exact .inr (.inl ⟨h1,hp.symm.trans h2⟩)
 ·exact .inr (.inr ⟨h1,Q,hp.symm.trans h2,h3⟩)
def KeyD (ps:List Int) (R:List (List Val)):Prop:=(R.map fun r=>markM tailW r ps).Nodup
theorem KeyD.perm {ps:List Int} {R T:List (List Val)} (h:KeyD ps R) (hp:R.Perm T):KeyD ps T:=(hp.map _).nodup_iff.1 h
theorem KeyD.head {ps:List Int} {R:List (List Val)} {x:List Val} (h:KeyD ps (x :: R)):∀ r∈R,markM tailW r ps≠markM tailW x ps:=by
 unfold KeyD at h
 rw [List.map_cons,List.nodup_cons] at h
 intro r hr e
 exact h.1 (List.mem_map.2 ⟨r,hr,e⟩)
structure RowsOk (n:Int) (ps:List Int) (R:List (List Val)):Prop where
 w:∀ r∈R,(r.length:Int)=n∧nullM r ps=false
 d:KeyD ps R
theorem RowsOk.perm {n:Int} {ps:List Int} {R T:List (List Val)} (h:RowsOk n ps R) (hp:R.Perm T):RowsOk n ps T:=⟨fun r hr=>h.w r (hp.mem_iff.2 hr),h.d.perm hp⟩
theorem oneM_ok {n:Int} {ps:List Int} {c:Chg} (h:oneM n ps c=0):(1≤c.kind∧c.kind≤3)∧(c.kind=3→c.old=[])∧(c.kind=1→c.new=[])∧(c.kind≠3→(c.old.length:Int)=n∧nullM c.old ps=false) ∧
 (c.kind≠1→(c.new.length:Int)=n∧nullM c.new ps=false)∧(c.kind=2→markM tailW c.old ps=markM tailW c.new ps):=by
 unfold oneM at h
 split at h
 ·simp at h
 rename_i h1
 split at h
 ·simp at h
 rename_i h2
 split at h
 ·simp at h
 rename_i h3
 split at h
 ·simp at h
 rename_i h4
 refine ⟨by omega,fun e=>?_,fun e=>?_,fun e=>⟨?_,?_⟩,fun e=>⟨?_,?_⟩,fun e=>?_⟩
 ·exact List.length_eq_zero_iff.1 zo
 ·exact List.length_eq_zero_iff.1 zo
 ·by_cases q:(c.old.length:Int)=n
  ·exact q
  ·exact absurd (.inl ⟨e,q⟩) h2
 ·cases q:nullM c.old ps
  ·rfl
  ·exact absurd (.inl ⟨e,q⟩) h3
 ·by_cases q:(c.new.length:Int)=n
  ·exact q
  ·exact absurd (.inr ⟨e,q⟩) h2
 ·cases q:nullM c.new ps
  ·rfl
  ·exact absurd (.inr ⟨e,q⟩) h3
 ·exact Classical.byContradiction fun q=>h4 ⟨e,q⟩
theorem Stp.ok {n:Int} {ps:List Int} {R R':List (List Val)} {c:Chg} (h:Stp ps R c R') (h1:oneM n ps c=0) (hR:RowsOk n ps R):RowsOk n ps R':=by
 obtain ⟨_,_,_,h4,h5,h6⟩:=oneM_ok h1
 rcases h with ⟨k,q2,q3⟩|⟨k,q2⟩|⟨k,Q,q2,q3⟩
 ·refine RowsOk.perm ⟨fun r hr=>?_,?_⟩ q3.symm
  ·rcases List.mem_cons.1 hr with rfl|hr
   ·exact h5 zo
   ·exact hR.w r hr
  ·unfold KeyD
   rw [List.map_cons,List.nodup_cons]
   refine ⟨fun hm=>?_,hR.d⟩
   obtain ⟨r,hr,e⟩:=List.mem_map.1 hm
   exact q2 r hr e
 ·have h:=hR.perm q2
  refine ⟨fun r hr=>h.w r (List.mem_cons_of_mem _ hr),?_⟩
  have:=h.d
  unfold KeyD at this ⊢
  rw [List.map_cons,List.nodup_cons] at this
  exact this.2
 ·have h:=hR.perm q2
  refine RowsOk.perm ⟨fun r hr=>?_,?_⟩ q3.symm
  ·rcases List.mem_cons.1 hr with rfl|hr
   ·exact h5 zo
   ·exact h.w r (List.mem_cons_of_mem _ hr)
  ·have:=h.d
   unfold KeyD at this ⊢
   rw [List.map_cons,List.nodup_cons] at this ⊢
   rw [←h6 k]
   exact this
theorem keysF_ne (names:List Str):∀ (ks:List Str) (ps:List Int) (i:Int) (x:Int×Int),keysF names ks ps i=some x→x.2≠0
 | [],_,_,_,h=>by simp [keysF] at h
 | k :: ks,ps,i,x,h=>by
   rw [keysF] at h
   split at h
   ·cases h;simp
   ·split at h
    ·cases h;simp
    ·exact keysF_ne names ks _ _ x h
theorem rowsF_ne (n:Int) (ps:List Int):∀ (rs:List (List Val)) (ah:List Str) (i:Int) (x:Int×Int),rowsF n ps rs ah i=some x→x.2≠0
 | [],_,_,_,h=>by simp [rowsF] at h
 | r :: rs,ah,i,x,h=>by
   rw [rowsF] at h
   split at h
   ·cases h;simp
   ·split at h
    ·cases h;simp
    ·split at h
     ·cases h;simp
     ·exact rowsF_ne n ps rs _ _ x h
theorem atM_in (l:List Str) (s:Str):0≤atM l s↔s∈l:=by
 unfold atM
 have : ∀ (l:List Str) (i:Nat),0≤atF l s i↔s∈l:=by
  intro l
  induction l with
  | nil=>intro i;simp [atF]
  | cons a l ih =>
    intro i
    rw [atF]
    by_cases h:a=s
    ·rw [if_pos h];simp [h]
    ·rw [if_neg h,ih];simp [Ne.symm h]
 exact this l 0
theorem rowsF_none (n:Int) (ps:List Int):∀ (rs:List (List Val)) (ah:List Str) (i:Int),rowsF n ps rs ah i=none↔(∀ r∈rs,(r.length:Int)=n∧nullM r ps=false)∧(rs.map fun r=>markM tailV r ps).Nodup∧∀ r∈rs,markM tailV r ps ∉ ah
 | [],_,_=>by simp [rowsF]
 | r :: rs, ah,i=>by
   rw [rowsF]
   by_cases h1:(r.length:Int)≠n
   ·rw [if_pos h1];simp [h1]
   ·rw [if_neg h1]
    have h1:=Classical.not_not.1 h1
    cases h2:nullM r ps
    ·rw [if_neg ze]
     by_cases h3:markM tailV r ps∈ah
     ·rw [if_pos ((atM_in _ _).2 h3)];simp [h3]
     ·rw [if_neg (fun e=>h3 ((atM_in _ _).1 e)),rowsF_none n ps rs]
      simp only [List.mem_cons,forall_eq_or_imp,List.map_cons,List.nodup_cons,List.mem_append,List.not_mem_nil,or_false,List.mem_map,not_exists,not_and,not_or]
      constructor
      ·rintro ⟨a1,a2,a3⟩
       exact ⟨⟨⟨h1,h2⟩,a1⟩,⟨fun x hx e=>(a3 x hx).2 e,a2⟩,h3,fun x hx=>(a3 x hx).1⟩
      ·rintro ⟨⟨_,a1⟩,⟨a2,a3⟩,_,a4⟩
       exact ⟨a1,a3,fun x hx=>⟨a4 x hx,fun e=>a2 x hx e⟩⟩
    ·rw [if_pos rfl];simp [h2]
def KeysOk (l:List Col) (keys:List Str):Prop:=(checkM (l.map nkC)).2=0∧keys.length≠0∧keysF (l.map (·.name)) keys [] 0=none
theorem rows_vw {n:Int} {ps:List Int} {rs:List (List Val)} (h:∀ r∈rs,(r.length:Int)=n∧nullM r ps=false):(rs.map fun r=>markM tailV r ps)=rs.map fun r=>markM tailW r ps :=
 List.map_congr_left fun r hr=>mark_vw r ps (h r hr).2
theorem dchk_iff (l:List Col) (rows:List (List Val)) (keys:List Str):(dchkM l rows keys).2=0↔KeysOk l keys∧RowsOk l.length (placesM l keys) rows:=by
 unfold dchkM KeysOk
 by_cases h1:(checkM (l.map nkC)).2≠0
 ·rw [if_pos h1]
  constructor
  ·intro h;exact absurd h h1
  ·intro h;exact absurd h.1.1 h1
 ·rw [if_neg h1]
  by_cases h2:keys.length=0
  ·rw [if_pos h2]
   constructor
   ·intro h;exact absurd h zd
   ·intro h;exact absurd h2 h.1.2.1
  ·rw [if_neg h2]
   cases h3:keysF (l.map (·.name)) keys [] 0 with
   | some x =>
     have:=keysF_ne _ _ _ _ _ h3
     constructor
     ·intro h;exact absurd h this
     ·intro h;cases h.1.2.2
   | none =>
     simp only [orE]
     cases h4:rowsF l.length (placesM l keys) rows [] 0 with
     | some x =>
       have:=rowsF_ne _ _ _ _ _ _ h4
       constructor
       ·intro h;exact absurd h this
       ·intro h
        have hv:=rows_vw h.2.w
        have:=(rowsF_none l.length (placesM l keys) rows [] 0).2 ⟨h.2.w,by rw [hv];exact h.2.d,fun _ _=>by simp⟩
        rw [h4] at this
        cases this
     | none =>
       obtain ⟨a1,a2,_⟩:=(rowsF_none _ _ _ _ _).1 h4
       constructor
       ·intro _
        exact ⟨⟨Classical.not_not.1 h1,h2,by first|rfl|trivial⟩,⟨a1,by rw [rows_vw a1] at a2;exact a2⟩⟩
       ·intro _;rfl
theorem atsF_get (ps:List Int):∀ (rs:List (List Val)) (i:Int) (m:Str→Option Int),(rs.map fun r=>markM tailW r ps).Nodup→∀ k (n:Int),atsF ps rs i m k=some n↔(∃ j:Nat,n=i+j∧j < rs.length∧markM tailW (rs.getD j []) ps=k)∨(m k=some n∧∀ r∈rs,markM tailW r ps≠k)
 | [],i,m,_,k,n=>by simp [atsF]
 | r :: rs,i,m,hd,k,n=>by
   rw [atsF]
   rw [List.map_cons,List.nodup_cons] at hd
   rw [atsF_get ps rs (i+1) _ hd.2 k n]
   have hr:∀ x∈rs,markM tailW x ps≠markM tailW r ps:=fun x hx e=>hd.1 (List.mem_map.2 ⟨x,hx,e⟩)
   constructor
   ·rintro (⟨j,rfl,h1,h2⟩|⟨h1,h2⟩)
    ·exact .inl ⟨j+1,by omega,by simp;exact h1,by simpa using h2⟩
    ·simp only [mput] at h1
     by_cases hk:k=markM tailW r ps
     ·rw [if_pos hk] at h1
      cases h1
      exact .inl ⟨0,by simp,by simp,by simpa using hk.symm⟩
     ·rw [if_neg hk] at h1
      refine .inr ⟨h1,fun x hx=>?_⟩
      rcases List.mem_cons.1 hx with rfl|hx
      ·exact Ne.symm hk
      ·exact h2 x hx
   ·rintro (⟨j,rfl,h1,h2⟩|⟨h1,h2⟩)
    ·cases j with
     | zero =>
       simp at h2
       subst h2
       refine .inr ⟨by simp [mput],hr⟩
     | succ j=>exact .inl ⟨j,by omega,by simpa using h1,by simpa using h2⟩
    ·refine .inr ⟨?_,fun x hx=>h2 x (List.mem_cons_of_mem _ hx)⟩
     have:=h2 r ze
     simp only [mput]
     rw [if_neg (Ne.symm this)]
     exact h1
inductive Stps (ps:List Int):List (List Val)→List Chg→List (List Val)→Prop
 | nil {R R':List (List Val)}:R.Perm R'→Stps ps R [] R'
 | cons {R R1 R':List (List Val)} {c:Chg} {cs:List Chg}:Stp ps R c R1→Stps ps R1 cs R'→Stps ps R (c :: cs) R'
theorem Stps.perm {ps:List Int} {R T R':List (List Val)} {cs:List Chg} (h:Stps ps R cs R') (hp:R.Perm T):Stps ps T cs R':=by
 cases h with
 | nil h=>exact .nil (hp.symm.trans h)
 | cons h1 h2=>exact .cons (h1.perm hp) h2
theorem Stps.ok {n:Int} {ps:List Int}:∀ {cs:List Chg} {R R':List (List Val)},Stps ps R cs R'→(∀ c∈cs,oneM n ps c=0)→RowsOk n ps R→RowsOk n ps R'
 | _,_,_,.nil h,_,hR=>hR.perm h
 | _,_,_,.cons h1 h2,h,hR=>h2.ok (fun x hx=>h x (List.mem_cons_of_mem _ hx)) (h1.ok (h _ ze) hR)
def dif1 (ps:List Int) (rb:List (List Val)) (r:List Val):Option Chg :=
 match atsF ps rb 0 (fun _=>none) (markM tailW r ps) with
 | none=>some ⟨1,r,[]⟩
 | some n=>if r=rb.getD n.toNat [] then none else some ⟨2,r,rb.getD n.toNat []⟩
def dif2 (ps:List Int) (ra:List (List Val)) (r:List Val):Option Chg:=if markM tailW r ps∈ra.map (fun r=>markM tailW r ps) then none else some ⟨3,[],r⟩
def difM (ps:List Int) (ra rb:List (List Val)):List Chg:=ra.filterMap (dif1 ps rb)++rb.filterMap (dif2 ps ra)
end Go.Proofs.YtllanbmpacgigaaGreatDoor
