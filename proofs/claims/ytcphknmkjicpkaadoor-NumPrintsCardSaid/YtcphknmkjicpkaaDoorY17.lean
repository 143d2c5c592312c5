/- Chapter 17: the law Order. -/
import Derived.Test.YtcphknmkjicpkaaDoorX17
namespace Go.Proofs.YtcphknmkjicpkaaDoor
set_option linter.unusedSimpArgs false
set_option linter.unusedVariables false
attribute [local irreducible] SemK UnitK StK AlcK BslK CallK Instr.box Builtin.append_ Instr.makeSlice Instr.makeMap Instr.lookup Instr.mapUpdate Instr.sliceAt convert
open Go.RowKit
def eW : Enc Val := ⟨4, fun v => [I v.kind, S v.s, I v.n, .bool v.b], fun _ => rfl⟩
theorem eW_f (v : Val) : eW.f v = [I v.kind, S v.s, I v.n, .bool v.b] := rfl
instance : EncSz eW 4 := ⟨rfl⟩
theorem pickV3 (a b c : Val) (k : Nat) (hk : k < 3) : ∃ v, ([a, b, c] : List Val).getD k default = v := ⟨_, rfl⟩
end Go.Proofs.YtcphknmkjicpkaaDoor
