/- Texts of the proof, joined. -/
import Derived.Test.YtllanbmpacgigaaGreatDoorIP10
import Derived.Test.YtllanbmpacgigaaGreatDoorIH06
namespace Go.Proofs.YtllanbmpacgigaaGreatDoor
open Nat renaming reduceAdd→zq1,reduceLeDiff→zq2,reduceEqDiff→zq3,reduceLT→zq4
open Int renaming reduceToNat→zq5
set_option linter.unusedSimpArgs false
set_option linter.unusedVariables false
def Full (q:Int) (t:Str) (q':Int):Prop:=runM q t=(q',t.length)
theorem Full.nil {q:Int}:Full q [] q:=rfl
theorem Full.cons {q s q':Int} {b:UInt8} {t:Str} (h:stepM q b.toNat=(s,true)) (hf:Full s t q'):Full q (b :: t) q':=by
 unfold Full at *
 rw [run_y h,hf];rfl
theorem Full.un {q q':Int} {b:UInt8} {t:Str} (h:Full q (b :: t) q'):∃ s,stepM q b.toNat=(s,true)∧Full s t q':=by
 unfold Full at *
 cases hs:stepM q b.toNat with
 | mk s ok =>
   cases ok
   ·rw [run_n hs] at h
    simp at h
   ·rw [run_y hs] at h
    injection h with h1 h2
    refine ⟨s,rfl,?_⟩
    rw [←h1]
    simp only [List.length_cons] at h2
    exact Prod.ext rfl (by simp only;omega)
theorem Full.app {q q1 q2:Int} {b:Str}:∀ {a:Str},Full q a q1→Full q1 b q2→Full q (a++b) q2:=by
 intro a
 induction a generalizing q with
 | nil => intro h1 h2;have:q1=q:=by unfold Full at h1;rw [run_nil] at h1;injection h1 with h _;exact h.symm
          subst this;exact h2
 | cons c a ih =>
   intro h1 h2
   obtain ⟨s,e,h3⟩:=h1.un
   exact Full.cons e (ih h3 h2)
section
variable {d:Dl}
structure SpanAt (d:Dl) (q st:Int) (m:Mk) (p:Nat) (t:Str) (SP:List (Nat×Nat)) (i:Nat) (a b:Str) (m2:Mk) (fr2 to2:Nat):Prop where
 cut:t=a++b
 sp:spW d wideL 0 0 m2 fr2 to2 (p+a.length) b=SP.drop i
 rc:m2.rc=[]
 fl:m2.fl=[]
 bg:∃ c b',b=c :: b'∧(scM d 0 c).1.b=true
 lf:(a=[]∧st=0)∨∃ a' z,a=a'++[z]∧(z.toNat:Int)=10
 run:∀ b2,wrun d wideL q st m p (a++b2)=(wrun d wideL 0 0 m2 (p+a.length) b2).pre ((wrun d wideL q st m p t).rs.take i)
theorem SpanAt.cons {q st:Int} {m:Mk} {p:Nat} {b:UInt8} {t:Str} {x:Int×Int×Mk×Option (List Str)} {SP:List (Nat×Nat)} {i:Nat} {a c:Str} {m2:Mk} {fr2 to2:Nat} (he:stepW d wideL q st m b=.ok x)
 (h:SpanAt d x.1 x.2.1 x.2.2.1 (p+1) t SP i a c m2 fr2 to2) (hz:a=[]→x.2.1=0→(b.toNat:Int)=10) {SP':List (Nat×Nat)} {n:Nat} (hn:n=(oneR x.2.2.2 p).length) (hSP:SP'.drop (n+i)=SP.drop i) :
 SpanAt d q st m p (b :: t) SP' (n+i) (b :: a) c m2 fr2 to2:=by
 obtain ⟨h1,h2,h3,h4,h5,h6,h7⟩:=h
 have e1:p+(b :: a).length=p+1+a.length:=by simp only [List.length_cons];omega
 refine ⟨by rw [h1];rfl,by rw [e1,h2,hSP],h3,h4,h5,?_,fun b2=>?_⟩
 ·rcases h6 with ⟨ha,hst⟩|⟨a',z,ha,hz'⟩
  ·subst ha;exact .inr ⟨[],b,rfl,hz rfl hst⟩
  ·exact .inr ⟨b :: a',z,by rw [ha];rfl,hz'⟩
 ·rw [e1,List.cons_append,wrun_cons,he,wrun_cons,he]
  simp only
  rw [h7 b2,pre_pre]
  congr 1
  simp only [Rs.pre]
  rw [hn,List.take_length_add_append]
end
open Go.RowKit
def txtF (d:Dl) (first:Bool):List (List Str)→Str
 | []=>[]
 | r :: t=>lineM d r first++txtF d false t
theorem txtF_snoc (d:Dl):∀ (t:List (List Str)) (first:Bool) (r:List Str),txtF d first (t++[r])=txtF d first t++lineM d r (first && decide (t.length=0))
 | [],first,r=>by simp [txtF]
 | x :: t,first,r=>by
   simp only [List.cons_append,txtF,txtF_snoc d t false r,List.append_assoc,Bool.false_and]
   congr 2
   simp
theorem end_len (d:Dl):(endM d).length≤2:=by unfold endM;split<;>simp
theorem txt_len (d:Dl) (A N:Nat):∀ (t:List (List Str)) (first:Bool),(∀ r∈t,r.length≤A∧∀ f∈r,f.length≤N)→(txtF d first t).length≤t.length * (A * (2 * N+3)+2)
 | [],_,_=>by simp [txtF]
 | r :: t,first,h=>by
   have ih:=txt_len d A N t false fun x hx=>h x (by simp [hx])
   obtain ⟨h1,h2⟩:=h r ze
   have h3:=lineF_len d r.length first N r 0 h2
   have h4:=end_len d
   have h5:r.length * (2 * N+3)≤A * (2 * N+3):=Nat.mul_le_mul_right _ h1
   simp only [txtF,lineM,List.length_append,List.length_cons,Nat.add_mul]
   generalize A * (2 * N+3)=z at *
   generalize r.length * (2 * N+3)=y at *
   omega
def wtS (r:List Str):Nat:=(r.map fun f=>f.length+1).sum
theorem wtS_app (a b:List Str):wtS (a++b)=wtS a+wtS b:=by simp [wtS]
theorem wtS_one (x:Str):wtS [x]=x.length+1:=by simp [wtS]
def WBm (m:Mk) (n:Nat):Prop:=m.fl.length+wtS m.rc≤n
theorem WBm.up {m:Mk} {n n':Nat} (h:WBm m n) (hn:n≤n'):WBm m n':=Nat.le_trans h hn
theorem WBm.put {m:Mk} {n:Nat} (h:WBm m n):WBm m.put (n+1):=by
 unfold WBm at *
 simp only [Mk.put,wtS_app,wtS_one,List.length_nil]
 omega
def kB (k:Int):Prop:=0≤k∧k≤12
theorem gather_kb {l:Lm} {m:Mk} {e:Ev} {k:Int} (h:gather l m e=.error k):kB k:=by
 unfold gather at h
 split at h
 ·rename_i z h1
  injection h with h;subst h
  unfold gBegin at h1
  split at h1
  ·split at h1
   ·injection h1 with h1;subst h1;exact ⟨by simp,by simp⟩
   ·simp at h1
  ·simp at h1
 ·split at h
  ·rename_i z h1
   injection h with h;subst h
   unfold gAdd at h1
   split at h1
   ·split at h1
    ·injection h1 with h1;subst h1;exact ⟨by simp,by simp⟩
    ·simp at h1
   ·simp at h1
  ·split at h
   ·rename_i z h1
    injection h with h;subst h
    unfold gField at h1
    split at h1
    ·split at h1
     ·injection h1 with h1;subst h1;exact ⟨by simp,by simp⟩
     ·split at h1
      ·injection h1 with h1;subst h1;exact ⟨by simp,by simp⟩
      ·simp at h1
    ·simp at h1
   ·unfold gLine at h
    split at h
    ·split at h
     ·injection h with h;subst h;exact ⟨by simp,by simp⟩
     ·simp at h
    ·simp at h
theorem take_kb {l:Lm} {m:Mk} {e:Ev} {k:Int} (h:takeM l m e=.error k):kB k:=by
 unfold takeM at h
 split at h
 ·rename_i z h1
  injection h with h;subst h
  exact gather_kb h1
 ·split at h<;>simp at h
theorem sc_kb (d:Dl) (st:Int) (b:UInt8):kB (scM d st b).2.2:=by
 unfold scM startM inM
 repeat' split
 all_goals exact ⟨by simp,by simp⟩
theorem close_kb (st:Int):kB (closeM st).2:=by
 unfold closeM
 repeat' split
 all_goals exact ⟨by simp,by simp⟩
theorem step_kb {d:Dl} {l:Lm} {st:Int} {m:Mk} {b:UInt8} {k:Int} (h:stepR d l st m b=.error k):kB k:=by
 unfold stepR at h
 split at h
 ·injection h with h;subst h;exact sc_kb d st b
 ·split at h
  ·rename_i z h1
   injection h with h;subst h;exact take_kb h1
  ·simp at h
theorem endR_kb {l:Lm} {st:Int} {m:Mk} {k:Int} (h:endR l st m=.error k):kB k:=by
 unfold endR at h
 split at h
 ·injection h with h;subst h;exact close_kb st
 ·split at h
  ·rename_i z h1
   injection h with h;subst h;exact take_kb h1
  ·simp at h
theorem wrun_kb (d:Dl) (l:Lm):∀ (t:Str) (q st:Int) (m:Mk) (p:Nat),kB (wrun d l q st m p t).k∧(wrun d l q st m p t).a≤p+t.length:=by
 intro t
 induction t with
 | nil =>
   intro q st m p
   rw [wrun]
   split
   ·exact ⟨⟨by simp,by simp⟩,by simp⟩
   ·split
    ·rename_i k h;exact ⟨endR_kb h,by simp⟩
    ·exact ⟨⟨by simp,by simp⟩,by simp⟩
 | cons b t ih =>
   intro q st m p
   rw [wrun]
   split
   ·exact ⟨⟨by simp,by simp⟩,by simp⟩
   ·split
    ·rename_i k h;exact ⟨step_kb h,by simp⟩
    ·rename_i x h
     have:=ih (stepM q b.toNat).1 x.1 x.2.1 (p+1)
     simp only [Rs.pre,List.length_cons]
     exact ⟨this.1,by omega⟩
theorem parM_kb (d:Dl) (l:Lm) (s:Str):kB (parM d l s).k∧(parM d l s).a≤s.length:=by
 have h:=wrun_kb d l (stripM s) 0 0 {} (s.length - (stripM s).length)
 have hl:=(strip_drop s).2
 unfold parM
 exact ⟨h.1,by omega⟩
theorem mayR_kb (r:List Str):0≤mayR r∧mayR r≤14:=by
 unfold mayR
 repeat' split
 all_goals exact ⟨by simp,by simp⟩
def wcM (d:Dl) (f:Str):Nat:=(wrM d f false false).length
def flW (d:Dl) (r:List Str):Nat:=(r.map fun f=>wcM d f+1).sum
def loneW (r:List Str):Nat:=if r=[[]] then 2 else 0
def lnW (d:Dl) (r:List Str):Nat:=flW d r - 1+loneW r+(endM d).length
def lnT (d:Dl) (t:List (List Str)):Nat:=(t.map (lnW d)).sum
theorem quoB_cnt (q:UInt8):∀ f:Str,(f.flatMap (quoB q)).length=f.length+f.count q
 | []=>by simp
 | c :: f=>by
   have:=quoB_cnt q f
   rw [List.flatMap_cons,List.length_append,this,List.count_cons,List.length_cons]
   unfold quoB
   by_cases h:c=q
   ·subst h;simp;omega
   ·simp [h];omega
theorem quoM_len (d:Dl) (f:Str):(quoM d f).length=f.length+f.count (bQ d)+2:=by
 unfold quoM
 have:=quoB_cnt (bQ d) f
 simp only [List.length_cons,List.length_append,List.length_nil];omega
theorem wc_le (d:Dl) (f:Str):wcM d f≤f.length+f.count (bQ d)+2:=by
 unfold wcM wrM
 split
 ·rw [quoM_len];exact Nat.le_refl _
 ·omega
theorem hasB_cnt {f:Str} {c:UInt8} (h:hasB f c=false):f.count c=0:=by
 rw [List.count_eq_zero]
 intro hm
 unfold hasB at h
 rw [List.any_eq_false] at h
 exact h c hm ze
theorem wc_safe {d:Dl} {f:Str} (h1:hasB f (bD d)=false) (h2:hasB f (bQ d)=false) (h3:hasB f 13=false) (h4:hasB f 10=false):wcM d f=f.length:=by
 unfold wcM wrM whyM
 rw [h1,h2,h3,h4]
 simp
theorem wr_wc (d:Dl) (f:Str) (a b:Bool):(wrM d f a b).length≤wcM d f+(if a=true∧f=[] then 2 else 0)+(if b=true then 2 else 0):=by
 by_cases h1:hasB f (bD d)=true
 ·unfold wcM wrM whyM;simp [h1];omega
 by_cases h2:hasB f (bQ d)=true
 ·unfold wcM wrM whyM;simp [h1,h2];omega
 by_cases h3:hasB f 13=true∨hasB f 10=true
 ·unfold wcM wrM whyM;simp [h1,h2,h3];omega
 have h13:hasB f 13=false:=by cases h:hasB f 13;rfl;exact absurd (.inl h) h3
 have h10:hasB f 10=false:=by cases h:hasB f 10;rfl;exact absurd (.inr h) h3
 rw [Bool.not_eq_true] at h1 h2
 rw [wc_safe h1 h2 h13 h10]
 unfold wrM whyM
 rw [h1,h2,h13,h10]
 have hq:=quoM_len d f
 rw [hasB_cnt h2] at hq
 by_cases h4:f=[]∧a=true
 ·obtain ⟨rfl,rfl⟩:=h4
  simp at hq ⊢
  omega
 ·by_cases h5:b=true∧f.take 3=[239,187,191]
  ·obtain ⟨rfl,h5⟩:=h5
   simp [h4,h5];omega
  ·simp [h4,h5];omega
theorem lineF_w (d:Dl) (n:Nat) (first:Bool) (hn:n≠1):∀ (r:List Str) (i:Nat),0 < i→(lineF d n first i r).length≤flW d r
 | [],_,_=>by simp [lineF]
 | f :: r,i,hi=>by
   have ih:=lineF_w d n first hn r (i+1) zo
   have h1:=wr_wc d f (decide (n=1)) (first && decide (i=0))
   rw [show decide (i=0)=false from decide_eq_false zo,show decide (n=1)=false from decide_eq_false hn,Bool.and_false] at h1
   simp only [Bool.false_eq_true,false_and,if_false] at h1
   have e:flW d (f :: r)=wcM d f+1+flW d r:=by simp [flW]
   simp only [lineF,pieceM,List.length_append]
   rw [show decide (i=0)=false from decide_eq_false zo,show decide (n=1)=false from decide_eq_false hn,Bool.and_false]
   split<;>simp only [List.length_cons,List.length_nil]<;>omega
theorem lineM_w (d:Dl) (r:List Str) (first:Bool) (hr:r≠[]):(lineM d r first).length≤lnW d r+(if first=true then 2 else 0):=by
 cases r with
 | nil=>exact absurd rfl hr
 | cons f r =>
   have h1:=wr_wc d f (decide ((f :: r).length=1)) (first && decide (0=0))
   have e:flW d (f :: r)=wcM d f+1+flW d r:=by simp [flW]
   unfold lnW lineM
   simp only [lineF,pieceM,List.length_append,Nat.lt_irrefl,if_false,List.length_nil,Nat.zero_add]
   simp only [decide_true,Bool.and_true] at h1 ⊢
   cases r with
   | nil =>
     simp only [lineF,List.length_nil,Nat.add_zero,List.length_cons,Nat.zero_add,decide_true,true_and] at h1 ⊢
     have hl:loneW [f]=if f=[] then 2 else 0:=by unfold loneW;simp
     rw [hl]
     have e0:flW d ([]:List Str)=0:=rfl
     omega
   | cons x r =>
     have h2:=lineF_w d (f :: x :: r).length first ze (x :: r) 1 zo
     have hl:loneW (f :: x :: r)=0:=by unfold loneW;simp
     rw [hl]
     have h3:decide ((f :: x :: r).length=1)=false:=decide_eq_false ze
     rw [h3] at h1 ⊢
     simp only [Bool.false_eq_true,false_and,if_false] at h1
     omega
theorem txtF_w (d:Dl):∀ (t:List (List Str)) (first:Bool),(∀ r∈t,r≠[])→(txtF d first t).length≤lnT d t+(if first=true then 2 else 0)
 | [],_,_=>by simp [txtF]
 | r :: t,first,h=>by
   have ih:=txtF_w d t false fun x hx=>h x (by simp [hx])
   have h1:=lineM_w d r first (h r ze)
   have e:lnT d (r :: t)=lnW d r+lnT d t:=by simp [lnT]
   simp only [txtF,List.length_append,Bool.false_eq_true,if_false] at ih ⊢
   omega
def PgI (d:Dl) (st:Int) (m:Mk) (c W:Nat):Prop :=
 (st=0∧m.fl=[]∧m.rc=[]∧W≤c)∨(st=1∧m.fl=[]∧m.rc≠[]∧W+flW d m.rc≤c) ∨
 (st=2∧m.fl≠[]∧wcM d m.fl=m.fl.length∧(hasB m.fl (bD d)=false∧hasB m.fl (bQ d)=false∧hasB m.fl 13=false∧hasB m.fl 10=false)∧W+flW d m.rc+m.fl.length≤c) ∨
 (st=3∧W+flW d m.rc+1+m.fl.length+m.fl.count (bQ d)≤c)∨(st=4∧W+flW d m.rc+2+m.fl.length+m.fl.count (bQ d)≤c) ∨
 (st=5∧m.fl=[]∧m.rc≠[]∧W+flW d m.rc+loneW m.rc≤c)∨(st=6∧m.fl=[]∧m.rc=[]∧W≤c)
theorem flW_app (d:Dl) (a b:List Str):flW d (a++b)=flW d a+flW d b:=by simp [flW]
theorem flW_one (d:Dl) (f:Str):flW d [f]=wcM d f+1:=by simp [flW]
theorem wc_nil (d:Dl):wcM d []=0:=by simp [wcM,wrM,whyM,hasB]
theorem take_w {l:Lm} {m:Mk} {e:Ev} {x:Mk×Option (List Str)} (h:takeM l m e=.ok x) :
 (e.r=true∧x.1.fl=(if e.f=true∨e.l=true then [] else if e.a=true then m.fl++[e.c] else m.fl)∧x.1.rc=[]∧x.2=some (m.rc++(if e.f=true then [if e.a=true then m.fl++[e.c] else m.fl] else [])++(if e.l=true then [if e.f=true then [] else if e.a=true then m.fl++[e.c] else m.fl] else []))) ∨
 (e.r=false∧x.1.fl=(if e.f=true∨e.l=true then [] else if e.a=true then m.fl++[e.c] else m.fl)∧x.1.rc=m.rc++(if e.f=true then [if e.a=true then m.fl++[e.c] else m.fl] else [])++(if e.l=true then [if e.f=true then [] else if e.a=true then m.fl++[e.c] else m.fl] else [])∧x.2=none):=by
 have key : ∀ m',gather l m e=.ok m'→m'.fl=(if e.f=true∨e.l=true then [] else if e.a=true then m.fl++[e.c] else m.fl)∧m'.rc=m.rc++(if e.f=true then [if e.a=true then m.fl++[e.c] else m.fl] else [])++(if e.l=true then [if e.f=true then [] else if e.a=true then m.fl++[e.c] else m.fl] else []):=by
  intro m' hg
  unfold gather at hg
  split at hg
  ·simp at hg
  ·rename_i m1 h1
   have b1:m1.fl=m.fl∧m1.rc=m.rc:=by
    unfold gBegin at h1
    split at h1
    ·split at h1
     ·simp at h1
     ·injection h1 with h1;subst h1;exact ⟨rfl,rfl⟩
    ·injection h1 with h1;subst h1;exact ⟨rfl,rfl⟩
   split at hg
   ·simp at hg
   ·rename_i m2 h2
    have b2:m2.fl=(if e.a=true then m.fl++[e.c] else m.fl)∧m2.rc=m.rc:=by
     unfold gAdd at h2
     split at h2
     ·rename_i ha
      split at h2
      ·simp at h2
      ·injection h2 with h2;subst h2;rw [if_pos ha,←b1.1];exact ⟨rfl,b1.2⟩
     ·rename_i ha
      injection h2 with h2;subst h2;rw [if_neg ha];exact b1
    split at hg
    ·simp at hg
    ·rename_i m3 h3
     have b3:m3.fl=(if e.f=true then [] else m2.fl)∧m3.rc=m.rc++(if e.f=true then [m2.fl] else []):=by
      unfold gField at h3
      split at h3
      ·rename_i hf
       split at h3
       ·simp at h3
       ·split at h3
        ·simp at h3
        ·injection h3 with h3;subst h3;rw [if_pos hf,if_pos hf,←b2.2];exact ⟨rfl,rfl⟩
      ·rename_i hf
       injection h3 with h3;subst h3;rw [if_neg hf,if_neg hf,List.append_nil];exact ⟨rfl,b2.2⟩
     unfold gLine at hg
     rw [←b2.1]
     split at hg
     ·rename_i hl
      split at hg
      ·simp at hg
      ·injection hg with hg;subst hg
       rw [if_pos (.inr hl),if_pos hl,←b3.2,←b3.1];exact ⟨rfl,rfl⟩
     ·rename_i hl
      injection hg with hg;subst hg
      rw [if_neg hl,List.append_nil]
      refine ⟨?_,b3.2⟩
      rw [b3.1]
      by_cases hf:e.f=true
      ·rw [if_pos hf,if_pos (.inl hf)]
      ·rw [if_neg hf,if_neg (fun h=>h.elim hf hl)]
 unfold takeM at h
 split at h
 ·simp at h
 ·rename_i m1 h1
  obtain ⟨k1,k2⟩:=key m1 h1
  split at h
  ·rename_i hr
   injection h with h;subst h
   exact .inl ⟨hr,k1,rfl,by rw [←k2]⟩
  ·rename_i hr
   injection h with h;subst h
   exact .inr ⟨by simpa using hr,k1,k2,rfl⟩
theorem lone_snoc (rc:List Str) (f:Str):loneW (rc++[f])=if rc=[]∧f=[] then 2 else 0:=by
 unfold loneW
 cases rc with
 | nil=>simp
 | cons a r=>simp
theorem lnW_snoc (d:Dl) (rc:List Str) (f:Str):lnW d (rc++[f])=flW d rc+wcM d f+(if rc=[]∧f=[] then 2 else 0)+(endM d).length:=by
 unfold lnW
 rw [flW_app,flW_one,lone_snoc]
 omega
theorem end_lf {d:Dl} {b:UInt8} (h:(b.toNat:Int)=10) (hw:¬ wrongE d b.toNat=true):(endM d).length=1:=by
 unfold wrongE at hw
 rw [h] at hw
 unfold endM
 split
 ·rename_i h2;exact absurd (by simp [h2]) hw
 ·rfl
theorem bQ_ne {d:Dl} (hd:byD d) {b:UInt8} (h:¬ (b.toNat:Int)=d.q):¬ b=bQ d:=fun e=>h (by rw [e];exact byte_of ⟨hd.2.2.1,hd.2.2.2⟩)
theorem bD_ne {d:Dl} (hd:byD d) {b:UInt8} (h:¬ (b.toNat:Int)=d.dl):¬ b=bD d:=fun e=>h (by rw [e];exact byte_of ⟨hd.1,hd.2.1⟩)
theorem has_snoc (f:Str) (b c:UInt8) (h:hasB f c=false) (hb:¬ b=c):hasB (f++[b]) c=false:=by
 unfold hasB at *
 rw [List.any_append,h]
 simp [hb]
def PgN (d:Dl) (c W:Nat) (x:Int×Mk×Option (List Str)):Prop:=PgI d x.1 x.2.1 (c+1) (W+(x.2.2.map (lnW d)).getD 0)∧∀ r,x.2.2=some r→r≠[]
section
variable {d:Dl} {l:Lm} {m:Mk} {b:UInt8} {c W:Nat} {z:Mk×Option (List Str)}
def PgF (d:Dl) (m:Mk) (c W:Nat):Prop:=W+flW d m.rc+wcM d m.fl+(if m.rc=[]∧m.fl=[] then 2 else 0)≤c
theorem in_dl (hI:PgF d m c W) (hz:takeM l m {f:=true}=.ok z):PgN d c W (1,z.1,z.2):=by
 unfold PgF at hI
 rcases take_w hz with ⟨k,k1,k2,k3⟩|⟨k,k1,k2,k3⟩
 ·(exact absurd k ze)
 ·simp at k1 k2
  unfold PgN;rw [k3];dsimp only
  refine ⟨.inr (.inl ⟨rfl,k1,?_,?_⟩),by simp⟩
  ·rw [k2];simp
  ·rw [k2,flW_app,flW_one];simp;omega
theorem in_cr (hI:PgF d m c W) (hz:takeM l m {l:=true}=.ok z):PgN d c W (5,z.1,z.2):=by
 unfold PgF at hI
 rcases take_w hz with ⟨k,k1,k2,k3⟩|⟨k,k1,k2,k3⟩
 ·(exact absurd k ze)
 ·simp at k1 k2
  unfold PgN;rw [k3];dsimp only
  refine ⟨.inr (.inr (.inr (.inr (.inr (.inl ⟨rfl,k1,?_,?_⟩))))),by simp⟩
  ·rw [k2];simp
  ·rw [k2,flW_app,flW_one,lone_snoc];simp;omega
theorem in_lf (hI:PgF d m c W) (he:(endM d).length=1) (hz:takeM l m {l:=true,r:=true}=.ok z):PgN d c W (0,z.1,z.2):=by
 unfold PgF at hI
 rcases take_w hz with ⟨k,k1,k2,k3⟩|⟨k,k1,k2,k3⟩
 ·simp at k1 k2 k3
  unfold PgN;rw [k3];dsimp only
  refine ⟨.inl ⟨rfl,k1,k2,?_⟩,fun r h=>by injection h with h;subst h;simp⟩
  simp only [Option.map_some,Option.getD_some]
  rw [lnW_snoc];omega
 ·(exact absurd k ze)
theorem in_q (h1:W+flW d m.rc≤c) (hf:m.fl=[]) (hz:takeM l m {}=.ok z):PgN d c W (3,z.1,z.2):=by
 rcases take_w hz with ⟨k,k1,k2,k3⟩|⟨k,k1,k2,k3⟩
 ·(exact absurd k ze)
 ·simp at k1 k2
  unfold PgN;rw [k3];dsimp only
  refine ⟨.inr (.inr (.inr (.inl ⟨rfl,?_⟩))),by simp⟩
  rw [k1,k2,hf];simp;omega
theorem in_add (hd:byD d) (h1:W+flW d m.rc+m.fl.length≤c) (hs:hasB m.fl (bD d)=false∧hasB m.fl (bQ d)=false∧hasB m.fl 13=false∧hasB m.fl 10=false) (hb:¬ (b.toNat:Int)=d.q∧¬ (b.toNat:Int)=d.dl∧¬ (b.toNat:Int)=13∧¬ (b.toNat:Int)=10) {e:Ev} (he:e.a=true∧e.c=b∧e.f=false∧e.l=false∧e.r=false) (hz:takeM l m e=.ok z):PgN d c W (2,z.1,z.2):=by
 obtain ⟨e1,e2,e3,e4,e5⟩:=he
 rcases take_w hz with ⟨k,k1,k2,k3⟩|⟨k,k1,k2,k3⟩
 ·rw [e5] at k;simp at k
 ·rw [e1,e2,e3,e4] at *
  simp at k1 k2
  unfold PgN;rw [k3];dsimp only
  have s1:=has_snoc m.fl b (bD d) hs.1 (bD_ne hd hb.2.1)
  have s2:=has_snoc m.fl b (bQ d) hs.2.1 (bQ_ne hd hb.1)
  have s3:=has_snoc m.fl b 13 hs.2.2.1 (fun h=>hb.2.2.1 (by rw [h];rfl))
  have s4:=has_snoc m.fl b 10 hs.2.2.2 (fun h=>hb.2.2.2 (by rw [h];rfl))
  refine ⟨.inr (.inr (.inl ⟨rfl,by rw [k1];simp,by rw [k1];exact wc_safe s1 s2 s3 s4,by rw [k1];exact ⟨s1,s2,s3,s4⟩,?_⟩)),by simp⟩
  rw [k1,k2];simp;omega
theorem q_add {n:Nat} (h1:W+flW d m.rc+1+m.fl.length+m.fl.count (bQ d)+n≤c) (hb:b=bQ d→n=1) {e:Ev} (he:e.a=true∧e.c=b∧e.f=false∧e.l=false∧e.r=false) (hz:takeM l m e=.ok z):PgN d c W (3,z.1,z.2):=by
 obtain ⟨e1,e2,e3,e4,e5⟩:=he
 rcases take_w hz with ⟨k,k1,k2,k3⟩|⟨k,k1,k2,k3⟩
 ·rw [e5] at k;simp at k
 ·rw [e1,e2,e3,e4] at *
  simp at k1 k2
  unfold PgN;rw [k3];dsimp only
  refine ⟨.inr (.inr (.inr (.inl ⟨rfl,?_⟩))),by simp⟩
  rw [k1,k2,List.count_append,List.length_append]
  by_cases h:b=bQ d
  ·have:=hb h
   subst h;simp;omega
  ·simp [h];omega
theorem PgI.inF {st:Int} (hI:PgI d st m c W) (hs:st=1∨st=2∨st=4):PgF d m c W:=by
 unfold PgF
 rcases hI with ⟨h,_⟩|⟨_,hf,hr,hW⟩|⟨_,hf,hw,_,hW⟩|⟨h,_⟩|⟨_,hW⟩|⟨h,_⟩|⟨h,_⟩
 ·omega
 ·rw [hf,wc_nil,if_neg (fun h=>hr h.1)];omega
 ·rw [hw,if_neg (fun h=>hf h.2)];omega
 ·omega
 ·have h1:=wc_le d m.fl
  by_cases h:m.rc=[]∧m.fl=[]
  ·rw [if_pos h,h.2,wc_nil];omega
  ·rw [if_neg h];omega
 ·omega
 ·omega
theorem step_w (hd:byD d) {st:Int} {x:Int×Mk×Option (List Str)} (hI:PgI d st m c W) (h:stepR d l st m b=.ok x):PgN d c W x:=by
 unfold stepR at h
 split at h
 ·simp at h
 rename_i hne
 split at h
 ·simp at h
 rename_i z hz
 injection h with h;subst h
 rw [ne_eq,Classical.not_not] at hne
 by_cases h124:st=1∨st=2∨st=4
 ·have hF:=hI.inF h124
  have e0:scM d st b=inM d st b:=by
   unfold scM
   rw [if_neg zo,if_pos h124]
  rw [e0] at hne hz ⊢
  unfold inM at hne hz ⊢
  by_cases c1:wrongE d b.toNat=true
  ·simp [c1] at hne
  rw [if_neg c1] at hne hz ⊢
  by_cases c2:(b.toNat:Int)=d.q
  ·rw [if_pos c2] at hne hz ⊢
   rcases hI with ⟨h,_⟩|⟨h,hf,hr,hW⟩|⟨h,_⟩|⟨h,_⟩|⟨h,hW⟩|⟨h,_⟩|⟨h,_⟩
   ·omega
   ·rw [if_pos h] at hz ⊢;exact in_q zo hf hz
   ·rw [if_neg zo,if_neg zo] at hne;simp at hne
   ·omega
   ·rw [if_neg zo,if_pos h] at hz ⊢
    exact q_add (n:=1) zo (fun _=>rfl) ⟨rfl,rfl,rfl,rfl,rfl⟩ hz
   ·omega
   ·omega
  rw [if_neg c2] at hne hz ⊢
  by_cases c3:(b.toNat:Int)=d.dl
  ·rw [if_pos c3] at hne hz ⊢;exact in_dl hF hz
  rw [if_neg c3] at hne hz ⊢
  by_cases c4:(b.toNat:Int)=13
  ·rw [if_pos c4] at hne hz ⊢;exact in_cr hF hz
  rw [if_neg c4] at hne hz ⊢
  by_cases c5:(b.toNat:Int)=10
  ·rw [if_pos c5] at hne hz ⊢;exact in_lf hF (end_lf c5 c1) hz
  rw [if_neg c5] at hne hz ⊢
  by_cases c6:st=4
  ·rw [if_pos c6] at hne;simp at hne
  rw [if_neg c6] at hne hz ⊢
  rcases hI with ⟨h,_⟩|⟨_,hf,hr,hW⟩|⟨_,hf,hw,hs,hW⟩|⟨h,_⟩|⟨h,hW⟩|⟨h,_⟩|⟨h,_⟩
  ·omega
  ·exact in_add hd (by rw [hf];simpa using hW) (by rw [hf];exact ⟨rfl,rfl,rfl,rfl⟩) ⟨c2,c3,c4,c5⟩ ⟨rfl,rfl,rfl,rfl,rfl⟩ hz
  ·exact in_add hd zo hs ⟨c2,c3,c4,c5⟩ ⟨rfl,rfl,rfl,rfl,rfl⟩ hz
  ·omega
  ·omega
  ·omega
  ·omega
 rcases hI with ⟨rfl,hf,hr,hW⟩|⟨h,_⟩|⟨h,_⟩|⟨rfl,hW⟩|⟨h,_⟩|⟨rfl,hf,hr,hW⟩|⟨rfl,hf,hr,hW⟩
 ·have hr0:flW d m.rc=0:=by rw [hr];rfl
  have e0:scM d 0 b=startM d b:=by simp [scM]
  rw [e0] at hne hz ⊢
  unfold startM at hne hz ⊢
  by_cases c1:wrongE d b.toNat=true
  ·simp [c1] at hne
  rw [if_neg c1] at hne hz ⊢
  by_cases c2:(b.toNat:Int)=d.q
  ·rw [if_pos c2] at hne hz ⊢
   rcases take_w hz with ⟨k,k1,k2,k3⟩|⟨k,k1,k2,k3⟩
   ·(exact absurd k ze)
   ·simp at k1 k2
    unfold PgN;rw [k3];dsimp only
    refine ⟨.inr (.inr (.inr (.inl ⟨rfl,?_⟩))),by simp⟩
    rw [k1,k2,hf,hr0];simp;omega
  rw [if_neg c2] at hne hz ⊢
  by_cases c3:(b.toNat:Int)=d.dl
  ·rw [if_pos c3] at hne hz ⊢
   rcases take_w hz with ⟨k,k1,k2,k3⟩|⟨k,k1,k2,k3⟩
   ·(exact absurd k ze)
   ·simp at k1 k2
    unfold PgN;rw [k3];dsimp only
    refine ⟨.inr (.inl ⟨rfl,k1,by rw [k2];simp,?_⟩),by simp⟩
    rw [k2,flW_app,flW_one,hf,hr0,wc_nil];simp;omega
  rw [if_neg c3] at hne hz ⊢
  by_cases c4:(b.toNat:Int)=13
  ·rw [if_pos c4] at hne hz ⊢
   rcases take_w hz with ⟨k,k1,k2,k3⟩|⟨k,k1,k2,k3⟩
   ·(exact absurd k ze)
   ·simp at k1 k2
    unfold PgN;rw [k3];dsimp only
    refine ⟨.inr (.inr (.inr (.inr (.inr (.inr ⟨rfl,by rw [k1,hf],by rw [k2,hr],?_⟩))))),by simp⟩
    simp;omega
  rw [if_neg c4] at hne hz ⊢
  by_cases c5:(b.toNat:Int)=10
  ·rw [if_pos c5] at hne hz ⊢
   rcases take_w hz with ⟨k,k1,k2,k3⟩|⟨k,k1,k2,k3⟩
   ·(exact absurd k ze)
   ·simp at k1 k2
    unfold PgN;rw [k3];dsimp only
    refine ⟨.inl ⟨rfl,by rw [k1,hf],by rw [k2,hr],?_⟩,by simp⟩
    simp;omega
  rw [if_neg c5] at hne hz ⊢
  exact in_add hd (by rw [hf,hr0];simpa using hW) (by rw [hf];exact ⟨rfl,rfl,rfl,rfl⟩) ⟨c2,c3,c4,c5⟩ ⟨rfl,rfl,rfl,rfl,rfl⟩ hz
 ·omega
 ·omega
 ·have e0:scM d 3 b=if (b.toNat:Int)=d.q then ({},4,0) else ({a:=true,c:=b},3,0):=by simp [scM]
  rw [e0] at hne hz ⊢
  by_cases c2:(b.toNat:Int)=d.q
  ·rw [if_pos c2] at hne hz ⊢
   rcases take_w hz with ⟨k,k1,k2,k3⟩|⟨k,k1,k2,k3⟩
   ·(exact absurd k ze)
   ·simp at k1 k2
    unfold PgN;rw [k3];dsimp only
    refine ⟨.inr (.inr (.inr (.inr (.inl ⟨rfl,?_⟩)))),by simp⟩
    rw [k1,k2];simp;omega
  ·rw [if_neg c2] at hne hz ⊢
   exact q_add (n:=0) zo (fun h=>absurd h (bQ_ne hd c2)) ⟨rfl,rfl,rfl,rfl,rfl⟩ hz
 ·omega
 ·have e0:scM d 5 b=if (b.toNat:Int)=10 then ({r:=true},0,0) else ({},0,6):=by simp [scM]
  rw [e0] at hne hz ⊢
  by_cases c2:(b.toNat:Int)=10
  ·rw [if_pos c2] at hne hz ⊢
   rcases take_w hz with ⟨k,k1,k2,k3⟩|⟨k,k1,k2,k3⟩
   ·simp at k1 k2 k3
    unfold PgN;rw [k3];dsimp only
    refine ⟨.inl ⟨rfl,by rw [k1,hf],k2,?_⟩,fun r h=>by injection h with h;subst h;exact hr⟩
    simp only [Option.map_some,Option.getD_some]
    have:=end_len d
    unfold lnW
    have h1:1≤flW d m.rc:=by
     cases hm:m.rc with
     | nil=>exact absurd hm hr
     | cons a r=>simp [flW];omega
    omega
   ·(exact absurd k ze)
  ·rw [if_neg c2] at hne;simp at hne
 ·have e0:scM d 6 b=if (b.toNat:Int)=10 then ({r:=false},0,0) else ({},0,6):=by simp [scM]
  rw [e0] at hne hz ⊢
  by_cases c2:(b.toNat:Int)=10
  ·rw [if_pos c2] at hne hz ⊢
   rcases take_w hz with ⟨k,k1,k2,k3⟩|⟨k,k1,k2,k3⟩
   ·(exact absurd k ze)
   ·simp at k1 k2
    unfold PgN;rw [k3];dsimp only
    refine ⟨.inl ⟨rfl,by rw [k1,hf],by rw [k2,hr],?_⟩,by simp⟩
    simp;omega
  ·rw [if_neg c2] at hne;simp at hne
end
theorem lnT_app (d:Dl) (a b:List (List Str)):lnT d (a++b)=lnT d a+lnT d b:=by simp [lnT]
theorem lnT_one (d:Dl) (r:Option (List Str)) (p:Nat):lnT d ((oneR r p).map Prod.fst)=(r.map (lnW d)).getD 0:=by
 cases r<;>simp [oneR,lnT]
theorem one_mem {r:Option (List Str)} {p:Nat} (h:∀ x,r=some x→x≠[]):∀ x∈(oneR r p).map Prod.fst,x≠[]:=by
 cases r with
 | none=>simp [oneR]
 | some y=>intro x hx;simp [oneR] at hx;subst hx;exact h _ rfl
theorem end_w {d:Dl} {l:Lm} {st:Int} {m:Mk} {c W:Nat} {r:Option (List Str)} (hI:PgI d st m c W) (h:endR l st m=.ok r):W+(r.map (lnW d)).getD 0≤c+2∧∀ x,r=some x→x≠[]:=by
 unfold endR at h
 split at h
 ·simp at h
 rename_i hne
 split at h
 ·simp at h
 rename_i z hz
 injection h with h;subst h
 rw [ne_eq,Classical.not_not] at hne
 by_cases h124:st=1∨st=2∨st=4
 ·have hF:=hI.inF h124
  unfold PgF at hF
  have hel:=end_len d
  have e0:closeM st=({l:=true,r:=true},0):=by unfold closeM;rw [if_pos h124]
  rw [e0] at hz
  rcases take_w hz with ⟨k,k1,k2,k3⟩|⟨k,k1,k2,k3⟩
  ·simp at k3
   rw [k3]
   refine ⟨?_,fun x hx=>by injection hx with hx;subst hx;simp⟩
   simp only [Option.map_some,Option.getD_some]
   rw [lnW_snoc];omega
  ·exact absurd k ze
 ·have e0:(closeM st).1={}:=by
   unfold closeM at hne ⊢
   rw [if_neg h124] at hne ⊢
   split
   ·rfl
   ·split<;>rfl
  rw [e0] at hz
  rcases take_w hz with ⟨k,k1,k2,k3⟩|⟨k,k1,k2,k3⟩
  ·exact absurd k ze
  ·rw [k3]
   have hW:W≤c:=by rcases hI with ⟨_,_,_,h⟩|⟨_,_,_,h⟩|⟨_,_,_,_,h⟩|⟨_,h⟩|⟨_,h⟩|⟨_,_,_,h⟩|⟨_,_,_,h⟩<;>omega
   exact ⟨by simp;omega,by simp⟩
theorem wrun_w {d:Dl} (hd:byD d) (l:Lm):∀ (t:Str) (q st:Int) (m:Mk) (p c W:Nat),PgI d st m c W→(wrun d l q st m p t).k=0 →
 W+lnT d ((wrun d l q st m p t).rs.map Prod.fst)≤c+t.length+2∧∀ r∈(wrun d l q st m p t).rs.map Prod.fst,r≠[]:=by
 intro t
 induction t with
 | nil =>
   intro q st m p c W hI hk
   rw [wrun] at hk ⊢
   split at hk
   ·simp at hk
   rename_i hq
   rw [if_neg hq]
   cases h:endR l st m with
   | error k =>
     rw [h] at hk
     exact absurd hk (by have:=end_err h;show ¬ k=0;omega)
   | ok r =>
     obtain ⟨h1,h2⟩:=end_w hI h
     dsimp only
     rw [lnT_one]
     exact ⟨by simp only [List.length_nil];omega,one_mem h2⟩
 | cons b t ih =>
   intro q st m p c W hI hk
   rw [wrun] at hk ⊢
   split at hk
   ·simp at hk
   rename_i hq
   rw [if_neg hq]
   cases h:stepR d l st m b with
   | error k =>
     rw [h] at hk
     exact absurd hk (by have:=step_err h;show ¬ k=0;omega)
   | ok x =>
     rw [h] at hk
     obtain ⟨h1,h2⟩:=step_w hd hI h
     obtain ⟨h3,h4⟩:=ih (stepM q b.toNat).1 x.1 x.2.1 (p+1) (c+1) _ h1 (by simpa [Rs.pre] using hk)
     simp only [Rs.pre,List.map_append,List.length_cons]
     rw [lnT_app,lnT_one]
     refine ⟨by omega,fun r hr=>?_⟩
     rcases List.mem_append.1 hr with hr|hr
     ·exact one_mem h2 r hr
     ·exact h4 r hr
theorem plain_w {d:Dl} (hd:byD d) (l:Lm) (s:Str) (hk:(parM d l s).k=0):lnT d ((parM d l s).rs.map Prod.fst)≤s.length+2∧∀ r∈(parM d l s).rs.map Prod.fst,r≠[]:=by
 have hl:=(strip_drop s).2
 unfold parM at hk ⊢
 obtain ⟨h1,h2⟩:=wrun_w hd l (stripM s) 0 0 {} (s.length - (stripM s).length) 0 0 (.inl ⟨rfl,rfl,rfl,Nat.le_refl _⟩) hk
 exact ⟨by omega,h2⟩
theorem plain_len {d:Dl} (hd:byD d) (l:Lm) (s:Str) (hk:(parM d l s).k=0):(txtF d true ((parM d l s).rs.map Prod.fst)).length≤s.length+4∧∀ r∈(parM d l s).rs.map Prod.fst,r≠[]:=by
 obtain ⟨h1,h2⟩:=plain_w hd l s hk
 have h3:=txtF_w d _ true h2
 refine ⟨?_,h2⟩
 simp only [if_true] at h3
 omega
theorem plain_line {d:Dl} (hd:byD d) (l:Lm) (s:Str) (hk:(parM d l s).k=0) (h1:((parM d l s).rs.map Prod.fst).length=1) (n:Nat) (first:Bool) (hn:n=(((parM d l s).rs.map Prod.fst).getD 0 default).length):(lineF d n first 0 (((parM d l s).rs.map Prod.fst).getD 0 default)).length≤s.length+4:=by
 subst hn
 obtain ⟨h2,h3⟩:=plain_w hd l s hk
 generalize (parM d l s).rs.map Prod.fst=t at *
 match t,h1 with
 | [x],_ =>
   have h4:=lineM_w d x first (h3 x ze)
   have e:lnT d [x]=lnW d x:=by simp [lnT]
   have e2:(lineM d x first).length=(lineF d x.length first 0 x).length+(endM d).length:=by unfold lineM;rw [List.length_append]
   show (lineF d x.length first 0 x).length≤_
   split at h4<;>omega
end Go.Proofs.YtllanbmpacgigaaGreatDoor
