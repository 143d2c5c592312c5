/- Texts of the proof, joined. -/
import Derived.Test.YtllanbmpacgigaaGreatDoorIV20
import Derived.Test.YtllanbmpacgigaaGreatDoorIS10
namespace Go.Proofs.YtllanbmpacgigaaGreatDoor
open Nat renaming reduceAdd→zq1,reduceLeDiff→zq2,reduceEqDiff→zq3,reduceLT→zq4
open Int renaming reduceToNat→zq5
set_option linter.unusedSimpArgs false
set_option linter.unusedVariables false
open Go.RowKit
theorem enc_len (v:Val) (k:Int) (nl:Bool) (N:Nat) (hs:v.s.length+1≤N) (hn:i64M v.n) (h20:25≤N):(encM v k nl).1.length≤N:=by
 unfold encM
 split
 ·simp
 split
 ·simp
 split
 ·split<;>simp
 split
 ·have:=Lib.itoa_length_le v.n hn.1 hn.2
  show (Lib.itoa v.n).length≤N
  omega
 split
 ·show List.length (if v.b=true then ([116,114,117,101]:Str) else [102,97,108,115,101])≤N
  cases v.b<;>simp<;>omega
 split
 ·show (92 :: v.s).length≤N
  simp;omega
 ·show v.s.length≤N
  omega
theorem rowF_rec:∀ (r:List Str) (l:List Col) (o1:List Val) (o2:List Str),r.length=l.length→(rowF r l o1).2.2=0 →
 ∃ vs:List Val,(rowF r l o1).1=o1++vs∧vs.length=l.length∧(recF vs l o2).2.2=0∧∀ x∈vs,∃ s∈r,∃ k nl,x=(deM s k nl).1
 | [],[],o1,o2,_,_=>⟨[],by simp [rowF],rfl,by simp [recF],by simp⟩
 | [],_ :: _,_,_,h,_=>by simp at h
 | _ :: _,[],_,_,h,_=>by simp at h
 | s :: r,c :: l,o1,o2,hl,h=>by
   rw [rowF] at h ⊢
   by_cases he:(deM s c.kind c.null).2=0
   ·rw [if_neg (not_not_intro he)] at h ⊢
    have hen:=(enc_dec s c.kind c.null he).2
    obtain ⟨vs,h1,h2,h3,h4⟩:=rowF_rec r l (o1++[(deM s c.kind c.null).1]) (o2++[s]) (by simpa using hl) h
    refine ⟨(deM s c.kind c.null).1 :: vs,by rw [h1];simp,by simp [h2],?_,fun x hx=>?_⟩
    ·rw [recF,hen,if_neg ze];exact h3
    ·rcases List.mem_cons.1 hx with rfl|hx
     ·exact ⟨s,by simp,_,_,rfl⟩
     ·obtain ⟨y,hy,k,nl,e⟩:=h4 x hx
      exact ⟨y,List.mem_cons_of_mem _ hy,k,nl,e⟩
   ·rw [if_pos he] at h;exact absurd h he
theorem row_rec (r:List Str) (l:List Col) (h:(rowM r l).2.2=0):(recM (rowM r l).1 l).2.2=0∧(rowM r l).1.length=l.length∧∀ x∈(rowM r l).1,∃ s∈r,∃ k nl,x=(deM s k nl).1:=by
 unfold rowM at h ⊢
 by_cases hl:(r.length:Int)=l.length
 ·rw [if_pos hl] at h ⊢
  obtain ⟨vs,h1,h2,h3,h4⟩:=rowF_rec r l [] [] zo h
  rw [List.nil_append] at h1
  rw [h1]
  refine ⟨?_,h2,h4⟩
  unfold recM
  rw [if_pos zo]
  exact h3
 ·rw [if_neg hl] at h;simp at h
def GoodR (l:List Col) (N:Nat) (v:List Val):Prop:=(recM v l).2.2=0∧v.length=l.length∧∀ x∈v,i64M x.n∧x.s.length≤N
theorem rdF_good (r0:Nat) (p:List Int) (l:List Col) (fk fa:Int) (N:Nat):∀ (t:List (List Str)) (out:List (List Val)),(∀ r∈t,∀ f∈r,f.length≤N)→(∀ v∈out,GoodR l N v)→(rdF r0 p l fk fa t out).2.k=0 →
 fk=0∧(rdF r0 p l fk fa t out).2=⟨0,0,0,0⟩∧∀ v∈(rdF r0 p l fk fa t out).1,GoodR l N v
 | [],out,_,ho,h=>by
   rw [rdF] at h ⊢
   by_cases hk:fk=0
   ·rw [if_neg (not_not_intro hk)];exact ⟨hk,rfl,ho⟩
   ·rw [if_pos hk] at h;exact absurd h hk
 | r :: t,out,hN,ho,h=>by
   rw [rdF] at h ⊢
   by_cases h1:¬ (r.length:Int)=r0
   ·rw [if_pos h1] at h;simp at h
   rw [if_neg h1] at h ⊢
   by_cases h2:(pickM r p).2=0
   ·rw [if_neg (not_not_intro h2)] at h ⊢
    by_cases h3:(rowM (pickM r p).1 l).2.2=0
    ·rw [if_neg (not_not_intro h3)] at h ⊢
     obtain ⟨g1,g2,g3⟩:=row_rec _ l h3
     have hpk:=(pickM_sub r p N (hN r ze)).1
     refine rdF_good r0 p l fk fa N t _ (fun x hx=>hN x (List.mem_cons_of_mem _ hx)) (fun v hv=>?_) h
     rcases List.mem_append.1 hv with hv|hv
     ·exact ho v hv
     ·rw [List.mem_singleton] at hv
      subst hv
      refine ⟨g1,g2,fun x hx=>?_⟩
      obtain ⟨s,hs,k,nl,rfl⟩:=g3 x hx
      exact ⟨de_i64 s k nl,Nat.le_trans (de_len s k nl) (hpk s hs)⟩
    ·rw [if_pos h3] at h;exact absurd h h3
   ·rw [if_pos h2] at h;exact absurd h h2
theorem readM_good (d:Dl) (l:List Col) (mode:Int) (s:Str) (h:(readM d l mode s).2.k=0):(checkM (l.map nkC)).2=0∧(readM d l mode s).2=⟨0,0,0,0⟩∧∀ v∈(readM d l mode s).1,GoodR l (s.length+1) v:=by
 unfold readM at h ⊢
 by_cases h1:(checkM (l.map nkC)).2=0
 ·rw [if_neg (not_not_intro h1)] at h ⊢
  by_cases h2:mode < 1∨3 < mode
  ·rw [if_pos h2] at h;simp at h
  rw [if_neg h2] at h ⊢
  by_cases h3:rightD d=false
  ·rw [if_pos h3] at h;simp at h
  rw [if_neg h3] at h ⊢
  have hmb:=parM_mb d wideL s
  generalize (parM d wideL s).rs.map Prod.fst=t at *
  refine ⟨h1,?_⟩
  cases t with
  | nil =>
    rw [rdT] at h
    by_cases hk:(parM d wideL s).k=0
    ·rw [if_neg (not_not_intro hk)] at h;simp at h
    ·rw [if_pos hk] at h;exact absurd h hk
  | cons r0 t =>
    rw [rdT] at h ⊢
    by_cases hb:(bindCM r0 (l.map nkC) mode).2.2=0
    ·rw [if_neg (not_not_intro hb)] at h ⊢
     exact (rdF_good _ _ l _ _ (s.length+1) t [] (fun r hr f hf=>(hmb r (List.mem_cons_of_mem _ hr)).2 f hf) ze h).2
    ·rw [if_pos hb] at h;exact absurd h hb
 ·rw [if_pos h1] at h;exact absurd h h1
theorem rdF_none (r0:Nat) (p:List Int) (l:List Col) (fk fa:Int):∀ (t:List (List Str)) (out:List (List Val)),(rdF r0 p l fk fa t out).2.k≠0→(rdF r0 p l fk fa t out).1=[]
 | [],out,h=>by
   rw [rdF] at h ⊢
   split at h
   ·rw [if_pos ‹_›]
   ·simp at h
 | r :: t,out,h=>by
   rw [rdF] at h ⊢
   split
   ·rfl
   split
   ·rfl
   split
   ·rfl
   ·rename_i h1 h2 h3
    rw [if_neg h1,if_neg h2,if_neg h3] at h
    exact rdF_none r0 p l fk fa t _ h
theorem readM_none (d:Dl) (l:List Col) (mode:Int) (s:Str) (h:(readM d l mode s).2.k≠0):(readM d l mode s).1=[]:=by
 unfold readM at h ⊢
 split
 ·rfl
 split
 ·rfl
 split
 ·rfl
 rename_i h1 h2 h3
 rw [if_neg h1,if_neg h2,if_neg h3] at h
 generalize (parM d wideL s).rs.map Prod.fst=t at *
 cases t with
 | nil=>rw [rdT];split<;>rfl
 | cons r0 t =>
   rw [rdT] at h ⊢
   split
   ·rfl
   ·rename_i h4
    rw [if_neg h4] at h
    exact rdF_none _ _ _ _ _ _ _ h
end Go.Proofs.YtllanbmpacgigaaGreatDoor
