/- Texts of the proof, joined. -/
import Derived.Test.YtjajihaeoolefaaDooryP06
namespace Go.Proofs.YtjajihaeoolefaaDoor
set_option linter.unusedSimpArgs false
set_option linter.unusedVariables false
end Go.Proofs.YtjajihaeoolefaaDoor
