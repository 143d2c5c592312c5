/- Texts of the proof, joined. -/
import Derived.Test.YtllanbmpacgigaaGreatDoorCP10
import Derived.Test.YtllanbmpacgigaaGreatDoorCQ06
import Derived.Test.YtllanbmpacgigaaGreatDoorCW06
namespace Go.Proofs.YtllanbmpacgigaaGreatDoor
set_option linter.unusedSimpArgs false
set_option linter.unusedVariables false
end Go.Proofs.YtllanbmpacgigaaGreatDoor
