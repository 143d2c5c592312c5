/- Texts of the proof, joined. -/
import Derived.Test.YtllanbmpacgigaaGreatDoorCP06
namespace Go.Proofs.YtllanbmpacgigaaGreatDoor
set_option linter.unusedSimpArgs false
set_option linter.unusedVariables false
section
variable {d:Dl} {l:Lm} {m:Mk} {b:UInt8} {st:Int}
def aft (st:Int):Prop:=st=1∨st=2∨st=4
end
end Go.Proofs.YtllanbmpacgigaaGreatDoor
