/- Texts of the proof, joined. -/
import Derived.Test.YtllanbmpacgigaaGreatDoorIPa
import Derived.Test.YtllanbmpacgigaaGreatDoorIMc
namespace Go.Proofs.YtllanbmpacgigaaGreatDoor
open Nat renaming reduceAdd→zq1,reduceLeDiff→zq2,reduceEqDiff→zq3,reduceLT→zq4
open Int renaming reduceToNat→zq5
set_option linter.unusedSimpArgs false
set_option linter.unusedVariables false
open Go.RowKit
def eVal:Enc Val:=⟨4,fun v=>[I v.kind,S v.s,I v.n,.bool v.b],fun _=>rfl⟩
def eRv:Enc Val:=⟨4,fun v=>[I v.kind,S v.s,I v.n,I (if v.b=true then 1 else 0)],fun _=>rfl⟩
instance : EncSz eVal 4 := ⟨rfl⟩
instance : EncSz eRv 4 := ⟨rfl⟩
theorem eVal_f (v:Val):eVal.f v=[I v.kind,S v.s,I v.n,.bool v.b]:=rfl
theorem eRv_f (v:Val):eRv.f v=[I v.kind,S v.s,I v.n,I (if v.b=true then 1 else 0)]:=rfl
attribute [push_cast] eVal_f eRv_f
instance : DecidableEq Val := fun a b => if h : a.kind = b.kind ∧ a.s = b.s ∧ a.n = b.n ∧ a.b = b.b then isTrue (val_ext h.1 h.2.1 h.2.2.1 h.2.2.2) else isFalse fun e => h (by rw [e]; exact ⟨rfl, rfl, rfl, rfl⟩)
theorem row_step {α:Type} [Inhabited α] (a b:List α) (k:Nat) (h1:k < a.length) (h2:k < b.length) (e:a.take k=b.take k) (h:a.getD k default=b.getD k default):a.take (k+1)=b.take (k+1):=by
 rw [List.take_succ_eq_append_getElem h1,List.take_succ_eq_append_getElem h2,e]
 simp only [List.getD_eq_getElem?_getD,List.getElem?_eq_getElem h1,List.getElem?_eq_getElem h2,Option.getD_some] at h
 rw [h]
theorem val_eq (a b:Val):a=b↔a.kind=b.kind∧a.s=b.s∧a.n=b.n∧a.b=b.b:=⟨fun e=>by rw [e];exact ⟨rfl,rfl,rfl,rfl⟩,fun h=>val_ext h.1 h.2.1 h.2.2.1 h.2.2.2⟩
end Go.Proofs.YtllanbmpacgigaaGreatDoor
