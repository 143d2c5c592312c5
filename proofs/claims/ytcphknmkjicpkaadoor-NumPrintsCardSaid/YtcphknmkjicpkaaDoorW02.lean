/- Chapter 02 (utf): the walks of the program's functions. -/
import Derived.Test.YtcphknmkjicpkaaDoorNj
import Derived.Test.YtcphknmkjicpkaaDoorP02
import Derived.Test.YtcphknmkjicpkaaDoorProg
namespace Go.Proofs.YtcphknmkjicpkaaDoor
set_option linter.unusedSimpArgs false
set_option linter.unusedVariables false
attribute [local irreducible] SemK UnitK StK AlcK BslK CallK Instr.box Builtin.append_ Instr.makeSlice Instr.makeMap Instr.lookup Instr.mapUpdate Instr.sliceAt convert
open Go.RowKit
end Go.Proofs.YtcphknmkjicpkaaDoor
