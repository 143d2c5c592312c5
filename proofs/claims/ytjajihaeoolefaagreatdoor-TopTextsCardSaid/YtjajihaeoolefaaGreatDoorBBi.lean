/- Texts of the proof, joined. -/
import Derived.Lib.Bytealg
import Derived.Laws.Externs
import Derived.Test.YtjajihaeoolefaaGreatDoorBMc
import Derived.Test.YtjajihaeoolefaaGreatDoorBP15
namespace Go.Proofs.YtjajihaeoolefaaGreatDoor
set_option linter.unusedSimpArgs false
set_option linter.unusedVariables false
open Go.RowKit
end Go.Proofs.YtjajihaeoolefaaGreatDoor
