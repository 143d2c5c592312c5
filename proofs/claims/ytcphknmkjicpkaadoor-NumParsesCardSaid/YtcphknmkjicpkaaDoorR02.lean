/- Chapter 02 (utf): the walks of the reference's functions. -/
import Derived.Test.YtcphknmkjicpkaaDoorMe7
import Derived.Test.YtcphknmkjicpkaaDoorP02
import Derived.Test.YtcphknmkjicpkaaDoorProg
namespace Go.Proofs.YtcphknmkjicpkaaDoor
set_option linter.unusedSimpArgs false
set_option linter.unusedVariables false
open Go.RowKit
theorem mixed : Tryd.prog.follows .mixedOrders = true := by kernel_rfl
end Go.Proofs.YtcphknmkjicpkaaDoor
