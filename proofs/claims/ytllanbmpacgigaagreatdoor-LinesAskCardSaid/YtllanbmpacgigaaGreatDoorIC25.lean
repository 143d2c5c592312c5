/- Texts of the proof, joined. -/
import Derived.Test.YtllanbmpacgigaaGreatDoorIX25
import Derived.Test.YtllanbmpacgigaaGreatDoorIW20
namespace Go.Proofs.YtllanbmpacgigaaGreatDoor
open Nat renaming reduceAdd→zq1,reduceLeDiff→zq2,reduceEqDiff→zq3,reduceLT→zq4
open Int renaming reduceToNat→zq5
set_option linter.unusedSimpArgs false
set_option linter.unusedVariables false
attribute [local irreducible] SemK UnitK StK AlcK BslK CallK CallV Instr.box Builtin.append_ Instr.makeSlice Instr.makeMap Instr.lookup Instr.mapUpdate Instr.sliceAt convert
open Go.RowKit
theorem atsF_step (ps:List Int) (rs:List (List Val)) (k:Nat) (m:Str→Option Int) (h:(k:Int) < rs.length):atsF ps (rs.drop k) k m=atsF ps (rs.drop (k+1)) ((k+1:Nat):Int) (mput m (markM tailW (rs.getD k []) ps) k):=by
 rw [dropD _ _ h,atsF]
 rfl
attribute [local irreducible] accC boxC mapC frzC
end Go.Proofs.YtllanbmpacgigaaGreatDoor
