/- Chapter 02 (utf): the walks of the reference's functions, further. -/
import Derived.Test.YtcphknmkjicpkaaDoorR02
namespace Go.Proofs.YtcphknmkjicpkaaDoor
set_option linter.unusedSimpArgs false
set_option linter.unusedVariables false
open Go.RowKit
theorem inf_s : (Tryd.prog.info? 9).map (·.size) = some 1 := by kernel_rfl
end Go.Proofs.YtcphknmkjicpkaaDoor
