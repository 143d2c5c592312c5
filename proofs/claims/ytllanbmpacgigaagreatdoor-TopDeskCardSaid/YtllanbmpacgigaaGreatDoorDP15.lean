/- Texts of the proof, joined. -/
import Derived.Test.YtllanbmpacgigaaGreatDoorDPa
import Derived.Test.YtllanbmpacgigaaGreatDoorDMb
namespace Go.Proofs.YtllanbmpacgigaaGreatDoor
set_option linter.unusedSimpArgs false
set_option linter.unusedVariables false
theorem dropD {α:Type} [Inhabited α] (l:List α) (k:Nat) (h:(k:Int) < l.length):l.drop k=l.getD k default :: l.drop (k+1):=by
  have h':k < l.length:=by omega
  rw [List.drop_eq_getElem_cons h']
  simp [h']
theorem takeD {α:Type} [Inhabited α] (l:List α) (k:Nat) (h:(k:Int) < l.length):l.take (k+1)=l.take k++[l.getD k default]:=by
  have h':k < l.length:=by omega
  rw [List.take_succ_eq_append_getElem h']
  simp [h']
def gRow:List Str→Int→Option Int
  | [],b=>some b
  | f :: r,b=>if b < f.length then none else gRow r (b - f.length)
def gTab:List (List Str)→Int→Int→Bool
  | [],_,_=>false
  | r :: t,f,b=>if f < r.length then true else match gRow r b with|none=>true|some b'=>gTab t (f - r.length) b'
def greatM (t:List (List Str)) (n f b:Int):Bool:=if n < t.length then true else gTab t f b
def totL:List Str→Nat
  | []=>0
  | f :: r=>f.length+totL r
theorem gRow_eq:∀ (r:List Str) (b:Int),0≤b→gRow r b=if (totL r:Int)≤b then some (b - totL r) else none:=by
  intro r
  induction r with
  | nil=>intro b h;simp [gRow,totL,h]
  | cons f r ih =>
    intro b h
    have e:totL (f :: r)=f.length+totL r:=rfl
    rw [gRow]
    by_cases h1:b < f.length
    · rw [if_pos h1,if_neg (by omega)]
    · rw [if_neg h1,ih _ (by omega)]
      by_cases h2:(totL r:Int)≤b - f.length
      · rw [if_pos h2,if_pos (by omega)];congr 1;omega
      · rw [if_neg h2,if_neg (by omega)]
theorem totL_mem {l:List Str} {s:Str} (h:s∈l):s.length≤totL l:=by
  induction l with
  | nil=>cases h
  | cons x l ih =>
    simp only [totL]
    rcases List.mem_cons.1 h with rfl|h
    · omega
    · have:=ih h;omega
theorem getD_mem {α:Type} [Inhabited α] (l:List α) (k:Nat) (h:(k:Int) < l.length):l.getD k default∈l:=by
  have h':k < l.length:=by omega
  simp [h']
end Go.Proofs.YtllanbmpacgigaaGreatDoor
namespace Go.Proofs.YtllanbmpacgigaaGreatDoor
set_option linter.unusedSimpArgs false
set_option linter.unusedVariables false
structure Col where
  name:Str
  kind:Int
  null:Bool
structure RCol where
  name:Str
  kind:Int
  null:Int
instance : Inhabited Col := ⟨⟨[], 0, false⟩⟩
instance : Inhabited RCol := ⟨⟨[], 0, 0⟩⟩
def eC:Enc Col:=⟨3,fun c=>[S c.name,I c.kind,.bool c.null],fun _=>rfl⟩
def eR:Enc RCol:=⟨3,fun c=>[S c.name,I c.kind,I c.null],fun _=>rfl⟩
instance : EncSz eC 3 := ⟨rfl⟩
instance : EncSz eR 3 := ⟨rfl⟩
theorem eC_f (c:Col):eC.f c=[S c.name,I c.kind,.bool c.null]:=rfl
theorem eR_f (c:RCol):eR.f c=[S c.name,I c.kind,I c.null]:=rfl
attribute [push_cast] eC_f eR_f
end Go.Proofs.YtllanbmpacgigaaGreatDoor
namespace Go.Proofs.YtllanbmpacgigaaGreatDoor
set_option linter.unusedSimpArgs false
set_option linter.unusedVariables false
def spB (b:UInt8):Str:=if b=92 then [92,92] else if b=10 then [92,110] else if b=13 then [92,114] else [b]
def sqM (s:Str):Str:=s.flatMap spB
theorem sqM_cons (b:UInt8) (r:Str):sqM (b :: r)=spB b++sqM r:=by simp [sqM]
theorem spB_92:spB 92=[92,92]:=by decide
theorem spB_10:spB 10=[92,110]:=by decide
theorem spB_13:spB 13=[92,114]:=by decide
theorem spB_o {b:UInt8} (h1:¬ b=92) (h2:¬ b=10) (h3:¬ b=13):spB b=[b]:=by unfold spB;rw [if_neg h1,if_neg h2,if_neg h3]
def cutM (c:UInt8):Str→Option (Str×Str)
  | []=>none
  | b :: r=>if b=c then some ([],r) else (cutM c r).map fun p=>(b :: p.1,p.2)
end Go.Proofs.YtllanbmpacgigaaGreatDoor
namespace Go.Proofs.YtllanbmpacgigaaGreatDoor
set_option linter.unusedSimpArgs false
set_option linter.unusedVariables false
end Go.Proofs.YtllanbmpacgigaaGreatDoor
