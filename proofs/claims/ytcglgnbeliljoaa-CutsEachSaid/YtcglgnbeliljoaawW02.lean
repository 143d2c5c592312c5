/- Texts of the proof, joined. -/
import Derived.Test.YtcglgnbeliljoaaProg
import Derived.Test.YtcglgnbeliljoaawMc
import Derived.Test.YtcglgnbeliljoaawPa
namespace Go.Proofs.Ytcglgnbeliljoaa
set_option linter.unusedSimpArgs false
set_option linter.unusedVariables false
attribute [local irreducible] SemK UnitK StK AlcK BslK CallK CallV Instr.box Builtin.append_ Instr.makeSlice Instr.makeMap Instr.lookup Instr.mapUpdate Instr.sliceAt convert
open Go.RowKit
end Go.Proofs.Ytcglgnbeliljoaa
