/-
  No cell of these rows narrows 'for every input' (looked for: loops, veiled, ifaces, maps, wideKeys, modest, calm, conditions, laid).
  DERIVED. THE GIVEN ROWS OF THIS SEAT. 12 by the template 'for every input the law returns true; each argument reads behind the call as it read before'; 0 by the template 'total and deterministic' (their statements: YthpciddlagodkaaTotals.lean).
  GIVEN WITH THE SEED: the statements are not yours to turn. If you find one false, say at which input.
  Laid BY PROGRAM, IN A SANDBOX (cutbox-rows.mjs): the forced cells as the released guide's own fill.sh prints them over the translation 312368b638c8e507… (all of the seat's roots in one cut). By AI agents, Wed Nov 11 2026. No macro, syntax, notation, axiom, sorry.
-/
import Derived.Test.YthpciddlagodkaaChecked
import GoSem.Claim
import GoSem.ClaimJoined
import GoSem.ClaimMapViews
import Derived.JoinedTies
import Derived.KernelRfl
namespace Go.Proofs.Ythpciddlagodkaa
/- THE CELL 'sum', in the pinned program and in every row, IS THE sha256 OF THE DUMP (.gsa) THAT YthpciddlagodkaaProg.lean LOADS. Nothing in Lean hashes anything: it is a label: what it is worth is what the hold of that sum in a sandbox is worth. -/
noncomputable def Try.pinned : Pinned := { name := "ythpciddlagodkaa", sum := "312368b638c8e5076f5e1a9494339cabd7d3d2e79c8d8cb5ebb709411f8bd3a1", checked := Try.checked }
namespace Rows
def none {H : Type} : Left H := { results := [], args := [] }

/-- 'quillpenlaw02.UtfSteps': WHATEVER THE INPUT: true; the input reads as it did. -/
def utfStepsSpec : ChangeSpec := { name := "utfSteps", fn := fun _ => fun
  | [d1, d2] => { results := [.lit (.bool true)], args := [d1, d2] }
  | _ => none }
def utfStepsRow : OpenClaim := { program := "ythpciddlagodkaa", sum := "312368b638c8e5076f5e1a9494339cabd7d3d2e79c8d8cb5ebb709411f8bd3a1", func := "quillpen/quillpenlaw02.UtfSteps", spec := "utfSteps", apart := false }
def UtfStepsSaid : Prop := utfStepsRow.holds Try.pinned (OpenSpec.ofChange utfStepsSpec)

/-- ITS FALSE NEIGHBOUR: 'it returns false'. Refute it at one input. -/
def utfStepsWrong : ChangeSpec := { name := "utfSteps", fn := fun _ => fun
  | [d1, d2] => { results := [.lit (.bool false)], args := [d1, d2] }
  | _ => none }
def UtfStepsWrongFalsely : Prop := utfStepsRow.holds Try.pinned (OpenSpec.ofChange utfStepsWrong)

/-- 'quillpenlaw02.UtfPieces': WHATEVER THE INPUT: true; the input reads as it did. -/
def utfPiecesSpec : ChangeSpec := { name := "utfPieces", fn := fun _ => fun
  | [d1, d2] => { results := [.lit (.bool true)], args := [d1, d2] }
  | _ => none }
def utfPiecesRow : OpenClaim := { program := "ythpciddlagodkaa", sum := "312368b638c8e5076f5e1a9494339cabd7d3d2e79c8d8cb5ebb709411f8bd3a1", func := "quillpen/quillpenlaw02.UtfPieces", spec := "utfPieces", apart := false }
def UtfPiecesSaid : Prop := utfPiecesRow.holds Try.pinned (OpenSpec.ofChange utfPiecesSpec)

/-- ITS FALSE NEIGHBOUR: 'it returns false'. Refute it at one input. -/
def utfPiecesWrong : ChangeSpec := { name := "utfPieces", fn := fun _ => fun
  | [d1, d2] => { results := [.lit (.bool false)], args := [d1, d2] }
  | _ => none }
def UtfPiecesWrongFalsely : Prop := utfPiecesRow.holds Try.pinned (OpenSpec.ofChange utfPiecesWrong)

/-- 'quillpenlaw02.UtfBad': WHATEVER THE INPUT: true; the input reads as it did. -/
def utfBadSpec : ChangeSpec := { name := "utfBad", fn := fun _ => fun
  | [d] => { results := [.lit (.bool true)], args := [d] }
  | _ => none }
def utfBadRow : OpenClaim := { program := "ythpciddlagodkaa", sum := "312368b638c8e5076f5e1a9494339cabd7d3d2e79c8d8cb5ebb709411f8bd3a1", func := "quillpen/quillpenlaw02.UtfBad", spec := "utfBad", apart := false }
def UtfBadSaid : Prop := utfBadRow.holds Try.pinned (OpenSpec.ofChange utfBadSpec)

/-- ITS FALSE NEIGHBOUR: 'it returns false'. Refute it at one input. -/
def utfBadWrong : ChangeSpec := { name := "utfBad", fn := fun _ => fun
  | [d] => { results := [.lit (.bool false)], args := [d] }
  | _ => none }
def UtfBadWrongFalsely : Prop := utfBadRow.holds Try.pinned (OpenSpec.ofChange utfBadWrong)

/-- 'quillpenlaw02.UtfTexts': WHATEVER THE INPUT: true; the input reads as it did. -/
def utfTextsSpec : ChangeSpec := { name := "utfTexts", fn := fun _ => fun
  | [d1, d2, d3] => { results := [.lit (.bool true)], args := [d1, d2, d3] }
  | _ => none }
def utfTextsRow : OpenClaim := { program := "ythpciddlagodkaa", sum := "312368b638c8e5076f5e1a9494339cabd7d3d2e79c8d8cb5ebb709411f8bd3a1", func := "quillpen/quillpenlaw02.UtfTexts", spec := "utfTexts", apart := false }
def UtfTextsSaid : Prop := utfTextsRow.holds Try.pinned (OpenSpec.ofChange utfTextsSpec)

/-- ITS FALSE NEIGHBOUR: 'it returns false'. Refute it at one input. -/
def utfTextsWrong : ChangeSpec := { name := "utfTexts", fn := fun _ => fun
  | [d1, d2, d3] => { results := [.lit (.bool false)], args := [d1, d2, d3] }
  | _ => none }
def UtfTextsWrongFalsely : Prop := utfTextsRow.holds Try.pinned (OpenSpec.ofChange utfTextsWrong)

/-- 'quillpenlaw15.HeadFinds': WHATEVER THE INPUT: true; the input reads as it did. -/
def headFindsSpec : ChangeSpec := { name := "headFinds", fn := fun _ => fun
  | [d1, d2, d3] => { results := [.lit (.bool true)], args := [d1, d2, d3] }
  | _ => none }
def headFindsRow : OpenClaim := { program := "ythpciddlagodkaa", sum := "312368b638c8e5076f5e1a9494339cabd7d3d2e79c8d8cb5ebb709411f8bd3a1", func := "quillpen/quillpenlaw15.HeadFinds", spec := "headFinds", apart := false }
def HeadFindsSaid : Prop := headFindsRow.holds Try.pinned (OpenSpec.ofChange headFindsSpec)

/-- ITS FALSE NEIGHBOUR: 'it returns false'. Refute it at one input. -/
def headFindsWrong : ChangeSpec := { name := "headFinds", fn := fun _ => fun
  | [d1, d2, d3] => { results := [.lit (.bool false)], args := [d1, d2, d3] }
  | _ => none }
def HeadFindsWrongFalsely : Prop := headFindsRow.holds Try.pinned (OpenSpec.ofChange headFindsWrong)

/-- 'quillpenlaw15.HeadNew': WHATEVER THE INPUT: true; the input reads as it did. -/
def headNewSpec : ChangeSpec := { name := "headNew", fn := fun _ => fun
  | [d] => { results := [.lit (.bool true)], args := [d] }
  | _ => none }
def headNewRow : OpenClaim := { program := "ythpciddlagodkaa", sum := "312368b638c8e5076f5e1a9494339cabd7d3d2e79c8d8cb5ebb709411f8bd3a1", func := "quillpen/quillpenlaw15.HeadNew", spec := "headNew", apart := false }
def HeadNewSaid : Prop := headNewRow.holds Try.pinned (OpenSpec.ofChange headNewSpec)

/-- ITS FALSE NEIGHBOUR: 'it returns false'. Refute it at one input. -/
def headNewWrong : ChangeSpec := { name := "headNew", fn := fun _ => fun
  | [d] => { results := [.lit (.bool false)], args := [d] }
  | _ => none }
def HeadNewWrongFalsely : Prop := headNewRow.holds Try.pinned (OpenSpec.ofChange headNewWrong)

/-- 'quillpenlaw15.HeadGets': WHATEVER THE INPUT: true; the input reads as it did. -/
def headGetsSpec : ChangeSpec := { name := "headGets", fn := fun _ => fun
  | [d1, d2, d3] => { results := [.lit (.bool true)], args := [d1, d2, d3] }
  | _ => none }
def headGetsRow : OpenClaim := { program := "ythpciddlagodkaa", sum := "312368b638c8e5076f5e1a9494339cabd7d3d2e79c8d8cb5ebb709411f8bd3a1", func := "quillpen/quillpenlaw15.HeadGets", spec := "headGets", apart := false }
def HeadGetsSaid : Prop := headGetsRow.holds Try.pinned (OpenSpec.ofChange headGetsSpec)

/-- ITS FALSE NEIGHBOUR: 'it returns false'. Refute it at one input. -/
def headGetsWrong : ChangeSpec := { name := "headGets", fn := fun _ => fun
  | [d1, d2, d3] => { results := [.lit (.bool false)], args := [d1, d2, d3] }
  | _ => none }
def HeadGetsWrongFalsely : Prop := headGetsRow.holds Try.pinned (OpenSpec.ofChange headGetsWrong)

/-- 'quillpenlaw15.HeadWithout': WHATEVER THE INPUT: true; the input reads as it did. -/
def headWithoutSpec : ChangeSpec := { name := "headWithout", fn := fun _ => fun
  | [d1, d2] => { results := [.lit (.bool true)], args := [d1, d2] }
  | _ => none }
def headWithoutRow : OpenClaim := { program := "ythpciddlagodkaa", sum := "312368b638c8e5076f5e1a9494339cabd7d3d2e79c8d8cb5ebb709411f8bd3a1", func := "quillpen/quillpenlaw15.HeadWithout", spec := "headWithout", apart := false }
def HeadWithoutSaid : Prop := headWithoutRow.holds Try.pinned (OpenSpec.ofChange headWithoutSpec)

/-- ITS FALSE NEIGHBOUR: 'it returns false'. Refute it at one input. -/
def headWithoutWrong : ChangeSpec := { name := "headWithout", fn := fun _ => fun
  | [d1, d2] => { results := [.lit (.bool false)], args := [d1, d2] }
  | _ => none }
def HeadWithoutWrongFalsely : Prop := headWithoutRow.holds Try.pinned (OpenSpec.ofChange headWithoutWrong)

/-- 'quillpenlaw19.BindBinds': WHATEVER THE INPUT: true; the input reads as it did. -/
def bindBindsSpec : ChangeSpec := { name := "bindBinds", fn := fun _ => fun
  | [d1, d2, d3] => { results := [.lit (.bool true)], args := [d1, d2, d3] }
  | _ => none }
def bindBindsRow : OpenClaim := { program := "ythpciddlagodkaa", sum := "312368b638c8e5076f5e1a9494339cabd7d3d2e79c8d8cb5ebb709411f8bd3a1", func := "quillpen/quillpenlaw19.BindBinds", spec := "bindBinds", apart := false }
def BindBindsSaid : Prop := bindBindsRow.holds Try.pinned (OpenSpec.ofChange bindBindsSpec)

/-- ITS FALSE NEIGHBOUR: 'it returns false'. Refute it at one input. -/
def bindBindsWrong : ChangeSpec := { name := "bindBinds", fn := fun _ => fun
  | [d1, d2, d3] => { results := [.lit (.bool false)], args := [d1, d2, d3] }
  | _ => none }
def BindBindsWrongFalsely : Prop := bindBindsRow.holds Try.pinned (OpenSpec.ofChange bindBindsWrong)

/-- 'quillpenlaw19.BindModes': WHATEVER THE INPUT: true; the input reads as it did. -/
def bindModesSpec : ChangeSpec := { name := "bindModes", fn := fun _ => fun
  | [d1, d2] => { results := [.lit (.bool true)], args := [d1, d2] }
  | _ => none }
def bindModesRow : OpenClaim := { program := "ythpciddlagodkaa", sum := "312368b638c8e5076f5e1a9494339cabd7d3d2e79c8d8cb5ebb709411f8bd3a1", func := "quillpen/quillpenlaw19.BindModes", spec := "bindModes", apart := false }
def BindModesSaid : Prop := bindModesRow.holds Try.pinned (OpenSpec.ofChange bindModesSpec)

/-- ITS FALSE NEIGHBOUR: 'it returns false'. Refute it at one input. -/
def bindModesWrong : ChangeSpec := { name := "bindModes", fn := fun _ => fun
  | [d1, d2] => { results := [.lit (.bool false)], args := [d1, d2] }
  | _ => none }
def BindModesWrongFalsely : Prop := bindModesRow.holds Try.pinned (OpenSpec.ofChange bindModesWrong)

/-- 'quillpenlaw19.BindPicks': WHATEVER THE INPUT: true; the input reads as it did. -/
def bindPicksSpec : ChangeSpec := { name := "bindPicks", fn := fun _ => fun
  | [d1, d2] => { results := [.lit (.bool true)], args := [d1, d2] }
  | _ => none }
def bindPicksRow : OpenClaim := { program := "ythpciddlagodkaa", sum := "312368b638c8e5076f5e1a9494339cabd7d3d2e79c8d8cb5ebb709411f8bd3a1", func := "quillpen/quillpenlaw19.BindPicks", spec := "bindPicks", apart := false }
def BindPicksSaid : Prop := bindPicksRow.holds Try.pinned (OpenSpec.ofChange bindPicksSpec)

/-- ITS FALSE NEIGHBOUR: 'it returns false'. Refute it at one input. -/
def bindPicksWrong : ChangeSpec := { name := "bindPicks", fn := fun _ => fun
  | [d1, d2] => { results := [.lit (.bool false)], args := [d1, d2] }
  | _ => none }
def BindPicksWrongFalsely : Prop := bindPicksRow.holds Try.pinned (OpenSpec.ofChange bindPicksWrong)

/-- 'quillpenlaw19.BindSpreads': WHATEVER THE INPUT: true; the input reads as it did. -/
def bindSpreadsSpec : ChangeSpec := { name := "bindSpreads", fn := fun _ => fun
  | [d1, d2, d3] => { results := [.lit (.bool true)], args := [d1, d2, d3] }
  | _ => none }
def bindSpreadsRow : OpenClaim := { program := "ythpciddlagodkaa", sum := "312368b638c8e5076f5e1a9494339cabd7d3d2e79c8d8cb5ebb709411f8bd3a1", func := "quillpen/quillpenlaw19.BindSpreads", spec := "bindSpreads", apart := false }
def BindSpreadsSaid : Prop := bindSpreadsRow.holds Try.pinned (OpenSpec.ofChange bindSpreadsSpec)

/-- ITS FALSE NEIGHBOUR: 'it returns false'. Refute it at one input. -/
def bindSpreadsWrong : ChangeSpec := { name := "bindSpreads", fn := fun _ => fun
  | [d1, d2, d3] => { results := [.lit (.bool false)], args := [d1, d2, d3] }
  | _ => none }
def BindSpreadsWrongFalsely : Prop := bindSpreadsRow.holds Try.pinned (OpenSpec.ofChange bindSpreadsWrong)

/- THE SECOND FORM. 'bulk': how many values and letters a reading holds, each counted each time it is reached (what is shared counts as often as it is met; a slice's spare places count too). A statement '..UptoSaid' is the law's where the arguments, and the package variables that the reading takes, are together of bulk at most 1048576: NARROWER than '..Said'. Prove '..Said' where nothing that the law and all that it calls make is longer than what came in: it says more and counts as full. Else prove '..UptoSaid'. A law counts once. -/
mutual
def uptoBulk {H : Type} : DataW H → Nat
  | .lit (.string bytes) => bytes.length + 1
  | .lit _ => 1
  | .nil => 1
  | .ptr d => uptoBulk d + 1
  | .slice elems spare => uptoBulkAll elems + uptoBulkAll spare + 1
  | .agg parts => uptoBulkAll parts + 1
  | .iface _ d => uptoBulk d + 1
  | .map entries => uptoBulkEntries entries + 1
  | .held _ => 1
def uptoBulkAll {H : Type} : List (DataW H) → Nat
  | [] => 0
  | d :: r => uptoBulk d + uptoBulkAll r
def uptoBulkEntries {H : Type} : List (Lit × DataW H) → Nat
  | [] => 0
  | x :: r => uptoBulkEntry x + uptoBulkEntries r
def uptoBulkEntry {H : Type} : Lit × DataW H → Nat
  | (.string bytes, d) => bytes.length + uptoBulk d + 1
  | (_, d) => uptoBulk d + 1
 end
def uptoSmall : (H : Type) → List (DataW H) → Bool := fun _ ds => decide (uptoBulkAll ds ≤ 1048576)
def OpenSpec.upto (s : _root_.Go.ChangeSpec) : _root_.Go.OpenSpec := { _root_.Go.OpenSpec.ofChange s with cond := some uptoSmall }

/-- 'quillpenlaw02.UtfSteps', WHERE WHAT IT READS IS OF BULK AT MOST 1048576: true; the input reads as it did. -/
def utfStepsUptoRow : OpenClaim := { program := "ythpciddlagodkaa", sum := "312368b638c8e5076f5e1a9494339cabd7d3d2e79c8d8cb5ebb709411f8bd3a1", func := "quillpen/quillpenlaw02.UtfSteps", spec := "utfSteps", apart := false, narrowed := true }
def UtfStepsUptoSaid : Prop := utfStepsUptoRow.holds Try.pinned (OpenSpec.upto utfStepsSpec)

/-- 'quillpenlaw02.UtfPieces', WHERE WHAT IT READS IS OF BULK AT MOST 1048576: true; the input reads as it did. -/
def utfPiecesUptoRow : OpenClaim := { program := "ythpciddlagodkaa", sum := "312368b638c8e5076f5e1a9494339cabd7d3d2e79c8d8cb5ebb709411f8bd3a1", func := "quillpen/quillpenlaw02.UtfPieces", spec := "utfPieces", apart := false, narrowed := true }
def UtfPiecesUptoSaid : Prop := utfPiecesUptoRow.holds Try.pinned (OpenSpec.upto utfPiecesSpec)

/-- 'quillpenlaw02.UtfBad', WHERE WHAT IT READS IS OF BULK AT MOST 1048576: true; the input reads as it did. -/
def utfBadUptoRow : OpenClaim := { program := "ythpciddlagodkaa", sum := "312368b638c8e5076f5e1a9494339cabd7d3d2e79c8d8cb5ebb709411f8bd3a1", func := "quillpen/quillpenlaw02.UtfBad", spec := "utfBad", apart := false, narrowed := true }
def UtfBadUptoSaid : Prop := utfBadUptoRow.holds Try.pinned (OpenSpec.upto utfBadSpec)

/-- 'quillpenlaw02.UtfTexts', WHERE WHAT IT READS IS OF BULK AT MOST 1048576: true; the input reads as it did. -/
def utfTextsUptoRow : OpenClaim := { program := "ythpciddlagodkaa", sum := "312368b638c8e5076f5e1a9494339cabd7d3d2e79c8d8cb5ebb709411f8bd3a1", func := "quillpen/quillpenlaw02.UtfTexts", spec := "utfTexts", apart := false, narrowed := true }
def UtfTextsUptoSaid : Prop := utfTextsUptoRow.holds Try.pinned (OpenSpec.upto utfTextsSpec)

/-- 'quillpenlaw15.HeadFinds', WHERE WHAT IT READS IS OF BULK AT MOST 1048576: true; the input reads as it did. -/
def headFindsUptoRow : OpenClaim := { program := "ythpciddlagodkaa", sum := "312368b638c8e5076f5e1a9494339cabd7d3d2e79c8d8cb5ebb709411f8bd3a1", func := "quillpen/quillpenlaw15.HeadFinds", spec := "headFinds", apart := false, narrowed := true }
def HeadFindsUptoSaid : Prop := headFindsUptoRow.holds Try.pinned (OpenSpec.upto headFindsSpec)

/-- 'quillpenlaw15.HeadNew', WHERE WHAT IT READS IS OF BULK AT MOST 1048576: true; the input reads as it did. -/
def headNewUptoRow : OpenClaim := { program := "ythpciddlagodkaa", sum := "312368b638c8e5076f5e1a9494339cabd7d3d2e79c8d8cb5ebb709411f8bd3a1", func := "quillpen/quillpenlaw15.HeadNew", spec := "headNew", apart := false, narrowed := true }
def HeadNewUptoSaid : Prop := headNewUptoRow.holds Try.pinned (OpenSpec.upto headNewSpec)

/-- 'quillpenlaw15.HeadGets', WHERE WHAT IT READS IS OF BULK AT MOST 1048576: true; the input reads as it did. -/
def headGetsUptoRow : OpenClaim := { program := "ythpciddlagodkaa", sum := "312368b638c8e5076f5e1a9494339cabd7d3d2e79c8d8cb5ebb709411f8bd3a1", func := "quillpen/quillpenlaw15.HeadGets", spec := "headGets", apart := false, narrowed := true }
def HeadGetsUptoSaid : Prop := headGetsUptoRow.holds Try.pinned (OpenSpec.upto headGetsSpec)

/-- 'quillpenlaw15.HeadWithout', WHERE WHAT IT READS IS OF BULK AT MOST 1048576: true; the input reads as it did. -/
def headWithoutUptoRow : OpenClaim := { program := "ythpciddlagodkaa", sum := "312368b638c8e5076f5e1a9494339cabd7d3d2e79c8d8cb5ebb709411f8bd3a1", func := "quillpen/quillpenlaw15.HeadWithout", spec := "headWithout", apart := false, narrowed := true }
def HeadWithoutUptoSaid : Prop := headWithoutUptoRow.holds Try.pinned (OpenSpec.upto headWithoutSpec)

/-- 'quillpenlaw19.BindBinds', WHERE WHAT IT READS IS OF BULK AT MOST 1048576: true; the input reads as it did. -/
def bindBindsUptoRow : OpenClaim := { program := "ythpciddlagodkaa", sum := "312368b638c8e5076f5e1a9494339cabd7d3d2e79c8d8cb5ebb709411f8bd3a1", func := "quillpen/quillpenlaw19.BindBinds", spec := "bindBinds", apart := false, narrowed := true }
def BindBindsUptoSaid : Prop := bindBindsUptoRow.holds Try.pinned (OpenSpec.upto bindBindsSpec)

/-- 'quillpenlaw19.BindModes', WHERE WHAT IT READS IS OF BULK AT MOST 1048576: true; the input reads as it did. -/
def bindModesUptoRow : OpenClaim := { program := "ythpciddlagodkaa", sum := "312368b638c8e5076f5e1a9494339cabd7d3d2e79c8d8cb5ebb709411f8bd3a1", func := "quillpen/quillpenlaw19.BindModes", spec := "bindModes", apart := false, narrowed := true }
def BindModesUptoSaid : Prop := bindModesUptoRow.holds Try.pinned (OpenSpec.upto bindModesSpec)

/-- 'quillpenlaw19.BindPicks', WHERE WHAT IT READS IS OF BULK AT MOST 1048576: true; the input reads as it did. -/
def bindPicksUptoRow : OpenClaim := { program := "ythpciddlagodkaa", sum := "312368b638c8e5076f5e1a9494339cabd7d3d2e79c8d8cb5ebb709411f8bd3a1", func := "quillpen/quillpenlaw19.BindPicks", spec := "bindPicks", apart := false, narrowed := true }
def BindPicksUptoSaid : Prop := bindPicksUptoRow.holds Try.pinned (OpenSpec.upto bindPicksSpec)

/-- 'quillpenlaw19.BindSpreads', WHERE WHAT IT READS IS OF BULK AT MOST 1048576: true; the input reads as it did. -/
def bindSpreadsUptoRow : OpenClaim := { program := "ythpciddlagodkaa", sum := "312368b638c8e5076f5e1a9494339cabd7d3d2e79c8d8cb5ebb709411f8bd3a1", func := "quillpen/quillpenlaw19.BindSpreads", spec := "bindSpreads", apart := false, narrowed := true }
def BindSpreadsUptoSaid : Prop := bindSpreadsUptoRow.holds Try.pinned (OpenSpec.upto bindSpreadsSpec)

end Rows
end Go.Proofs.Ythpciddlagodkaa
