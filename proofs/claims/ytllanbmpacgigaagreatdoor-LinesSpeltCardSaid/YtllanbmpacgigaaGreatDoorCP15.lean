/- Texts of the proof, joined. -/
import Derived.Test.YtllanbmpacgigaaGreatDoorCPa
import Derived.Test.YtllanbmpacgigaaGreatDoorCMb
namespace Go.Proofs.YtllanbmpacgigaaGreatDoor
set_option linter.unusedSimpArgs false
set_option linter.unusedVariables false
theorem dropD {α:Type} [Inhabited α] (l:List α) (k:Nat) (h:(k:Int) < l.length):l.drop k=l.getD k default :: l.drop (k+1):=by
  have h':k < l.length:=by omega
  rw [List.drop_eq_getElem_cons h']
  simp [h']
theorem takeD {α:Type} [Inhabited α] (l:List α) (k:Nat) (h:(k:Int) < l.length):l.take (k+1)=l.take k++[l.getD k default]:=by
  have h':k < l.length:=by omega
  rw [List.take_succ_eq_append_getElem h']
  simp [h']
theorem getD_mem {α:Type} [Inhabited α] (l:List α) (k:Nat) (h:(k:Int) < l.length):l.getD k default∈l:=by
  have h':k < l.length:=by omega
  simp [h']
end Go.Proofs.YtllanbmpacgigaaGreatDoor
namespace Go.Proofs.YtllanbmpacgigaaGreatDoor
set_option linter.unusedSimpArgs false
set_option linter.unusedVariables false
structure Col where
  name:Str
  kind:Int
  null:Bool
structure RCol where
  name:Str
  kind:Int
  null:Int
instance : Inhabited Col := ⟨⟨[], 0, false⟩⟩
instance : Inhabited RCol := ⟨⟨[], 0, 0⟩⟩
def eC:Enc Col:=⟨3,fun c=>[S c.name,I c.kind,.bool c.null],fun _=>rfl⟩
def eR:Enc RCol:=⟨3,fun c=>[S c.name,I c.kind,I c.null],fun _=>rfl⟩
instance : EncSz eC 3 := ⟨rfl⟩
instance : EncSz eR 3 := ⟨rfl⟩
theorem eC_f (c:Col):eC.f c=[S c.name,I c.kind,.bool c.null]:=rfl
theorem eR_f (c:RCol):eR.f c=[S c.name,I c.kind,I c.null]:=rfl
attribute [push_cast] eC_f eR_f
end Go.Proofs.YtllanbmpacgigaaGreatDoor
namespace Go.Proofs.YtllanbmpacgigaaGreatDoor
set_option linter.unusedSimpArgs false
set_option linter.unusedVariables false
def spB (b:UInt8):Str:=if b=92 then [92,92] else if b=10 then [92,110] else if b=13 then [92,114] else [b]
def sqM (s:Str):Str:=s.flatMap spB
theorem sqM_cons (b:UInt8) (r:Str):sqM (b :: r)=spB b++sqM r:=by simp [sqM]
theorem spB_92:spB 92=[92,92]:=by decide
theorem spB_10:spB 10=[92,110]:=by decide
theorem spB_13:spB 13=[92,114]:=by decide
theorem spB_o {b:UInt8} (h1:¬ b=92) (h2:¬ b=10) (h3:¬ b=13):spB b=[b]:=by unfold spB;rw [if_neg h1,if_neg h2,if_neg h3]
def cutM (c:UInt8):Str→Option (Str×Str)
  | []=>none
  | b :: r=>if b=c then some ([],r) else (cutM c r).map fun p=>(b :: p.1,p.2)
end Go.Proofs.YtllanbmpacgigaaGreatDoor
namespace Go.Proofs.YtllanbmpacgigaaGreatDoor
set_option linter.unusedSimpArgs false
set_option linter.unusedVariables false
end Go.Proofs.YtllanbmpacgigaaGreatDoor
