/- Texts of the proof, joined. -/
import Derived.Lib.ItoaNum
namespace Go.Proofs.YtllanbmpacgigaaGreatDoor
set_option linter.unusedSimpArgs false
set_option linter.unusedVariables false
def followM (b least most next:Int):Int×Bool:=if b < least∨most < b then (0,false) else (next,true)
def beginM (b:Int):Int×Bool :=
  if b≤0x7F then (0,true) else if b < 0xC2 then (0,false) else if b≤0xDF then (1,true) else if b=0xE0 then (4,true) else if b=0xED then (5,true)
  else if b≤0xEF then (2,true) else if b=0xF0 then (6,true) else if b≤0xF3 then (3,true) else if b=0xF4 then (7,true) else (0,false)
def stepM (s b:Int):Int×Bool :=
  if s=0 then beginM b else if s=1 then followM b 0x80 0xBF 0 else if s=2 then followM b 0x80 0xBF 1 else if s=3 then followM b 0x80 0xBF 2
  else if s=4 then followM b 0xA0 0xBF 1 else if s=5 then followM b 0x80 0x9F 1 else if s=6 then followM b 0x90 0xBF 2 else if s=7 then followM b 0x80 0x8F 2 else (0,false)
def runM (st:Int):List UInt8→Int×Nat
  | []=>(st,0)
  | b :: l=>if (stepM st b.toNat).2=true then ((runM (stepM st b.toNat).1 l).1,(runM (stepM st b.toNat).1 l).2+1) else (st,0)
def validM (l:List UInt8):Bool:=((runM 0 l).2 == l.length) && ((runM 0 l).1 == 0)
abbrev B (n:Int):UInt8:=UInt8.ofNat n.toNat
end Go.Proofs.YtllanbmpacgigaaGreatDoor
namespace Go.Proofs.YtllanbmpacgigaaGreatDoor
set_option linter.unusedSimpArgs false
set_option linter.unusedVariables false
end Go.Proofs.YtllanbmpacgigaaGreatDoor
namespace Go.Proofs.YtllanbmpacgigaaGreatDoor
set_option linter.unusedSimpArgs false
set_option linter.unusedVariables false
theorem st2 (y:Int):stepM 2 y=followM y 128 191 1:=rfl
theorem run_y {st:Int} {b:UInt8} {l:List UInt8} {s:Int} (h:stepM st b.toNat=(s,true)):runM st (b :: l)=((runM s l).1,(runM s l).2+1):=by simp [runM,h]
theorem run_n {st:Int} {b:UInt8} {l:List UInt8} {s:Int} (h:stepM st b.toNat=(s,false)):runM st (b :: l)=(st,0):=by simp [runM,h]
theorem run_nil (st:Int):runM st []=(st,0):=rfl
end Go.Proofs.YtllanbmpacgigaaGreatDoor
namespace Go.Proofs.YtllanbmpacgigaaGreatDoor
set_option linter.unusedSimpArgs false
set_option linter.unusedVariables false
end Go.Proofs.YtllanbmpacgigaaGreatDoor
namespace Go.Proofs.YtllanbmpacgigaaGreatDoor
set_option linter.unusedSimpArgs false
set_option linter.unusedVariables false
end Go.Proofs.YtllanbmpacgigaaGreatDoor
namespace Go.Proofs.YtllanbmpacgigaaGreatDoor
set_option linter.unusedSimpArgs false
set_option linter.unusedVariables false
structure Val where
  kind:Int
  s:List UInt8
  n:Int
  b:Bool
instance : Inhabited Val := ⟨⟨0, [], 0, false⟩⟩
def decV (l:List UInt8):Nat:=l.foldl (fun a b=>a * 10+(b.toNat - 48)) 0
end Go.Proofs.YtllanbmpacgigaaGreatDoor
