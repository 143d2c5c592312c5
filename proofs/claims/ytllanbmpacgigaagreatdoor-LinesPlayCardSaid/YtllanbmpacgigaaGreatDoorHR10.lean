/- Texts of the proof, joined. -/
import Derived.Test.YtllanbmpacgigaaGreatDoorHP10
import Derived.Test.YtllanbmpacgigaaGreatDoorHQ06
import Derived.Test.YtllanbmpacgigaaGreatDoorHW06
namespace Go.Proofs.YtllanbmpacgigaaGreatDoor
open Nat renaming reduceAdd→zq1,reduceLeDiff→zq2,reduceEqDiff→zq3,reduceLT→zq4
open Int renaming reduceToNat→zq5
set_option linter.unusedSimpArgs false
set_option linter.unusedVariables false
end Go.Proofs.YtllanbmpacgigaaGreatDoor
