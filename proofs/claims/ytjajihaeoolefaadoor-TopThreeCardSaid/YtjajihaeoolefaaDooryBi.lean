/- Texts of the proof, joined. -/
import Derived.Lib.Bytealg
import Derived.Laws.Externs
import Derived.Test.YtjajihaeoolefaaDooryMc
import Derived.Test.YtjajihaeoolefaaDooryP15
namespace Go.Proofs.YtjajihaeoolefaaDoor
set_option linter.unusedSimpArgs false
set_option linter.unusedVariables false
open Go.RowKit
end Go.Proofs.YtjajihaeoolefaaDoor
