/- Texts of the proof, joined. -/
import Derived.Lib.Bytealg
import Derived.Laws.Externs
import Derived.Test.YtllanbmpacgigaaGreatDoorIMc
import Derived.Test.YtllanbmpacgigaaGreatDoorIP15
namespace Go.Proofs.YtllanbmpacgigaaGreatDoor
open Nat renaming reduceAdd→zq1,reduceLeDiff→zq2,reduceEqDiff→zq3,reduceLT→zq4
open Int renaming reduceToNat→zq5
set_option linter.unusedSimpArgs false
set_option linter.unusedVariables false
open Go.RowKit
theorem idx_cut (c:UInt8) (s:Str):(Lib.indexByte s c=-1∧cutM c s=none)∨∃ k:Nat,k < s.length∧Lib.indexByte s c=k∧cutM c s=some (s.take k,s.drop (k+1)):=by
 induction s with
 | nil=>exact .inl ⟨rfl,rfl⟩
 | cons b r ih =>
   by_cases hb:b=c
   ·exact .inr ⟨0,by simp,by simp [Lib.indexByte,hb],by simp [cutM,hb]⟩
   ·rcases ih with ⟨h1,h2⟩|⟨k,h0,h1,h2⟩
    ·exact .inl ⟨by simp [Lib.indexByte,hb,h1],by simp [cutM,hb,h2]⟩
    ·refine .inr ⟨k+1,by simp;omega,?_,by simp [cutM,hb,h2]⟩
     have:¬ (k:Int)=-1:=by omega
     simp [Lib.indexByte,hb,h1,this]
theorem idx_self (c:UInt8):Lib.indexByte [c] c=0:=by simp [Lib.indexByte]
def cutT (c:UInt8) (s:Str):Str×Str×Bool:=match cutM c s with
 | none=>(s,[],false)
 | some p=>(p.1,p.2,true)
theorem cutT_eq (c:UInt8) (s:Str):(Lib.indexByte s c=-1∧cutT c s=(s,[],false))∨∃ k:Nat,k < s.length∧Lib.indexByte s c=k∧cutT c s=(s.take k,s.drop (k+1),true):=by
 rcases idx_cut c s with ⟨h1,h2⟩|⟨k,h0,h1,h2⟩
 ·exact .inl ⟨h1,by simp [cutT,h2]⟩
 ·exact .inr ⟨k,h0,h1,by simp [cutT,h2]⟩
theorem cutT_cut (c:UInt8) (s:Str):cutM c s=if (cutT c s).2.2=true then some ((cutT c s).1,(cutT c s).2.1) else none:=by
 unfold cutT
 cases cutM c s<;>simp
theorem cutT_len (c:UInt8) (s:Str):(cutT c s).1.length≤s.length∧(cutT c s).2.1.length≤s.length∧((cutT c s).2.2=true→(cutT c s).2.1.length < s.length):=by
 rcases cutT_eq c s with ⟨_,h⟩|⟨k,h0,_,h⟩<;>rw [h]<;>simp<;>omega
theorem suf_at (k:Str):sufM k=if 1≤k.length∧k.drop (k.length - 1)=[63] then (k.take (k.length - 1),true) else (k,false):=by
 unfold sufM
 by_cases h:k=[]
 ·subst h;simp
 ·have e:=List.dropLast_concat_getLast h
  obtain ⟨r,x,e2⟩:∃ r x,k=r++[x]:=⟨_,_,e.symm⟩
  subst e2
  simp
end Go.Proofs.YtllanbmpacgigaaGreatDoor
