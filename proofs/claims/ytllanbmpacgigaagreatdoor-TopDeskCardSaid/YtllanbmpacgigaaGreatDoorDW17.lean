/- Texts of the proof, joined. -/
import Derived.Test.YtllanbmpacgigaaGreatDoorDR02
import Derived.Test.YtllanbmpacgigaaGreatDoorDW02
namespace Go.Proofs.YtllanbmpacgigaaGreatDoor
set_option linter.unusedSimpArgs false
set_option linter.unusedVariables false
attribute [local irreducible] SemK UnitK StK AlcK BslK CallK CallV Instr.box Builtin.append_ Instr.makeSlice Instr.makeMap Instr.lookup Instr.mapUpdate Instr.sliceAt convert
open Go.RowKit
theorem hpre0_spec (s:Str) (c:UInt8) (w:World) (hl:s.length≤1000000000):Pu Tryz.prog 157 #[S s,S [c]] w (.bool (decide (s.take 1=[c]))):=by
  have h:=hp_spec s [c] w hl (by simp)
  have e:(s.take [c].length == [c])=decide (s.take 1=[c]):=by rw [Bool.eq_iff_iff];simp
  rw [e] at h;exact h
def i64M (n:Int):Prop:=-9223372036854775808≤n∧n≤9223372036854775807
end Go.Proofs.YtllanbmpacgigaaGreatDoor
