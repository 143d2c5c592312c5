/-
  No cell of these rows narrows 'for every input' (looked for: loops, veiled, ifaces, maps, wideKeys, modest, calm, conditions, laid).
  DERIVED. THE GIVEN ROWS OF THIS SEAT. 13 by the template 'for every input the law returns true; each argument reads behind the call as it read before'; 0 by the template 'total and deterministic' (their statements: YtdhieolfdlkeaaaTotals.lean).
  GIVEN WITH THE SEED: the statements are not yours to turn. If you find one false, say at which input.
  Laid BY PROGRAM, IN A SANDBOX (cutbox-rows.mjs): the forced cells as the released guide's own fill.sh prints them over the translation 541e1b14819dddb2… (all of the seat's roots in one cut). By AI agents, Wed Nov 11 2026. No macro, syntax, notation, axiom, sorry.
-/
import Derived.Test.YtdhieolfdlkeaaaChecked
import GoSem.Claim
import GoSem.ClaimJoined
import GoSem.ClaimMapViews
import Derived.JoinedTies
import Derived.KernelRfl
namespace Go.Proofs.Ytdhieolfdlkeaaa
/- THE CELL 'sum', in the pinned program and in every row, IS THE sha256 OF THE DUMP (.gsa) THAT YtdhieolfdlkeaaaProg.lean LOADS. Nothing in Lean hashes anything: it is a label: what it is worth is what the hold of that sum in a sandbox is worth. -/
noncomputable def Try.pinned : Pinned := { name := "ytdhieolfdlkeaaa", sum := "541e1b14819dddb2772cb3d5d16d59118cef1d0a5f22a8344478f276c221eeb0", checked := Try.checked }
namespace Rows
def none {H : Type} : Left H := { results := [], args := [] }

/-- 'quillpenlaw06.WholeParses': WHATEVER THE INPUT: true; the input reads as it did. -/
def wholeParsesSpec : ChangeSpec := { name := "wholeParses", fn := fun _ => fun
  | [d1, d2, d3] => { results := [.lit (.bool true)], args := [d1, d2, d3] }
  | _ => none }
def wholeParsesRow : OpenClaim := { program := "ytdhieolfdlkeaaa", sum := "541e1b14819dddb2772cb3d5d16d59118cef1d0a5f22a8344478f276c221eeb0", func := "quillpen/quillpenlaw06.WholeParses", spec := "wholeParses", unfollowed := true, recurses := true, apart := false }
def WholeParsesSaid : Prop := wholeParsesRow.holds Try.pinned (OpenSpec.ofChange wholeParsesSpec)

/-- ITS FALSE NEIGHBOUR: 'it returns false'. Refute it at one input. -/
def wholeParsesWrong : ChangeSpec := { name := "wholeParses", fn := fun _ => fun
  | [d1, d2, d3] => { results := [.lit (.bool false)], args := [d1, d2, d3] }
  | _ => none }
def WholeParsesWrongFalsely : Prop := wholeParsesRow.holds Try.pinned (OpenSpec.ofChange wholeParsesWrong)

/-- 'quillpenlaw06.WholeFront': WHATEVER THE INPUT: true; the input reads as it did. -/
def wholeFrontSpec : ChangeSpec := { name := "wholeFront", fn := fun _ => fun
  | [d1, d2, d3] => { results := [.lit (.bool true)], args := [d1, d2, d3] }
  | _ => none }
def wholeFrontRow : OpenClaim := { program := "ytdhieolfdlkeaaa", sum := "541e1b14819dddb2772cb3d5d16d59118cef1d0a5f22a8344478f276c221eeb0", func := "quillpen/quillpenlaw06.WholeFront", spec := "wholeFront", unfollowed := true, recurses := true, apart := false }
def WholeFrontSaid : Prop := wholeFrontRow.holds Try.pinned (OpenSpec.ofChange wholeFrontSpec)

/-- ITS FALSE NEIGHBOUR: 'it returns false'. Refute it at one input. -/
def wholeFrontWrong : ChangeSpec := { name := "wholeFront", fn := fun _ => fun
  | [d1, d2, d3] => { results := [.lit (.bool false)], args := [d1, d2, d3] }
  | _ => none }
def WholeFrontWrongFalsely : Prop := wholeFrontRow.holds Try.pinned (OpenSpec.ofChange wholeFrontWrong)

/-- 'quillpenlaw06.WholeLimits': WHATEVER THE INPUT: true; the input reads as it did. -/
def wholeLimitsSpec : ChangeSpec := { name := "wholeLimits", fn := fun _ => fun
  | [d1, d2, d3] => { results := [.lit (.bool true)], args := [d1, d2, d3] }
  | _ => none }
def wholeLimitsRow : OpenClaim := { program := "ytdhieolfdlkeaaa", sum := "541e1b14819dddb2772cb3d5d16d59118cef1d0a5f22a8344478f276c221eeb0", func := "quillpen/quillpenlaw06.WholeLimits", spec := "wholeLimits", unfollowed := true, recurses := true, apart := false }
def WholeLimitsSaid : Prop := wholeLimitsRow.holds Try.pinned (OpenSpec.ofChange wholeLimitsSpec)

/-- ITS FALSE NEIGHBOUR: 'it returns false'. Refute it at one input. -/
def wholeLimitsWrong : ChangeSpec := { name := "wholeLimits", fn := fun _ => fun
  | [d1, d2, d3] => { results := [.lit (.bool false)], args := [d1, d2, d3] }
  | _ => none }
def WholeLimitsWrongFalsely : Prop := wholeLimitsRow.holds Try.pinned (OpenSpec.ofChange wholeLimitsWrong)

/-- 'quillpenlaw06.WholeTells': WHATEVER THE INPUT: true; the input reads as it did. -/
def wholeTellsSpec : ChangeSpec := { name := "wholeTells", fn := fun _ => fun
  | [d1, d2, d3] => { results := [.lit (.bool true)], args := [d1, d2, d3] }
  | _ => none }
def wholeTellsRow : OpenClaim := { program := "ytdhieolfdlkeaaa", sum := "541e1b14819dddb2772cb3d5d16d59118cef1d0a5f22a8344478f276c221eeb0", func := "quillpen/quillpenlaw06.WholeTells", spec := "wholeTells", unfollowed := true, recurses := true, apart := false }
def WholeTellsSaid : Prop := wholeTellsRow.holds Try.pinned (OpenSpec.ofChange wholeTellsSpec)

/-- ITS FALSE NEIGHBOUR: 'it returns false'. Refute it at one input. -/
def wholeTellsWrong : ChangeSpec := { name := "wholeTells", fn := fun _ => fun
  | [d1, d2, d3] => { results := [.lit (.bool false)], args := [d1, d2, d3] }
  | _ => none }
def WholeTellsWrongFalsely : Prop := wholeTellsRow.holds Try.pinned (OpenSpec.ofChange wholeTellsWrong)

/-- 'quillpenlaw27.IndexNew': WHATEVER THE INPUT: true; the input reads as it did. -/
def indexNewSpec : ChangeSpec := { name := "indexNew", fn := fun _ => fun
  | [d1, d2] => { results := [.lit (.bool true)], args := [d1, d2] }
  | _ => none }
def indexNewRow : OpenClaim := { program := "ytdhieolfdlkeaaa", sum := "541e1b14819dddb2772cb3d5d16d59118cef1d0a5f22a8344478f276c221eeb0", func := "quillpen/quillpenlaw27.IndexNew", spec := "indexNew", unfollowed := true, recurses := true, apart := false }
def IndexNewSaid : Prop := indexNewRow.holds Try.pinned (OpenSpec.ofChange indexNewSpec)

/-- ITS FALSE NEIGHBOUR: 'it returns false'. Refute it at one input. -/
def indexNewWrong : ChangeSpec := { name := "indexNew", fn := fun _ => fun
  | [d1, d2] => { results := [.lit (.bool false)], args := [d1, d2] }
  | _ => none }
def IndexNewWrongFalsely : Prop := indexNewRow.holds Try.pinned (OpenSpec.ofChange indexNewWrong)

/-- 'quillpenlaw27.IndexSlices': WHATEVER THE INPUT: true; the input reads as it did. -/
def indexSlicesSpec : ChangeSpec := { name := "indexSlices", fn := fun _ => fun
  | [d1, d2, d3] => { results := [.lit (.bool true)], args := [d1, d2, d3] }
  | _ => none }
def indexSlicesRow : OpenClaim := { program := "ytdhieolfdlkeaaa", sum := "541e1b14819dddb2772cb3d5d16d59118cef1d0a5f22a8344478f276c221eeb0", func := "quillpen/quillpenlaw27.IndexSlices", spec := "indexSlices", unfollowed := true, recurses := true, apart := false }
def IndexSlicesSaid : Prop := indexSlicesRow.holds Try.pinned (OpenSpec.ofChange indexSlicesSpec)

/-- ITS FALSE NEIGHBOUR: 'it returns false'. Refute it at one input. -/
def indexSlicesWrong : ChangeSpec := { name := "indexSlices", fn := fun _ => fun
  | [d1, d2, d3] => { results := [.lit (.bool false)], args := [d1, d2, d3] }
  | _ => none }
def IndexSlicesWrongFalsely : Prop := indexSlicesRow.holds Try.pinned (OpenSpec.ofChange indexSlicesWrong)

/-- 'quillpenlaw27.IndexFinds': WHATEVER THE INPUT: true; the input reads as it did. -/
def indexFindsSpec : ChangeSpec := { name := "indexFinds", fn := fun _ => fun
  | [d1, d2, d3] => { results := [.lit (.bool true)], args := [d1, d2, d3] }
  | _ => none }
def indexFindsRow : OpenClaim := { program := "ytdhieolfdlkeaaa", sum := "541e1b14819dddb2772cb3d5d16d59118cef1d0a5f22a8344478f276c221eeb0", func := "quillpen/quillpenlaw27.IndexFinds", spec := "indexFinds", unfollowed := true, recurses := true, apart := false }
def IndexFindsSaid : Prop := indexFindsRow.holds Try.pinned (OpenSpec.ofChange indexFindsSpec)

/-- ITS FALSE NEIGHBOUR: 'it returns false'. Refute it at one input. -/
def indexFindsWrong : ChangeSpec := { name := "indexFinds", fn := fun _ => fun
  | [d1, d2, d3] => { results := [.lit (.bool false)], args := [d1, d2, d3] }
  | _ => none }
def IndexFindsWrongFalsely : Prop := indexFindsRow.holds Try.pinned (OpenSpec.ofChange indexFindsWrong)

/-- 'quillpenlaw07.CutsBy': WHATEVER THE INPUT: true; the input reads as it did. -/
def cutsBySpec : ChangeSpec := { name := "cutsBy", fn := fun _ => fun
  | [d1, d2] => { results := [.lit (.bool true)], args := [d1, d2] }
  | _ => none }
def cutsByRow : OpenClaim := { program := "ytdhieolfdlkeaaa", sum := "541e1b14819dddb2772cb3d5d16d59118cef1d0a5f22a8344478f276c221eeb0", func := "quillpen/quillpenlaw07.CutsBy", spec := "cutsBy", unfollowed := true, recurses := true, apart := false }
def CutsBySaid : Prop := cutsByRow.holds Try.pinned (OpenSpec.ofChange cutsBySpec)

/-- ITS FALSE NEIGHBOUR: 'it returns false'. Refute it at one input. -/
def cutsByWrong : ChangeSpec := { name := "cutsBy", fn := fun _ => fun
  | [d1, d2] => { results := [.lit (.bool false)], args := [d1, d2] }
  | _ => none }
def CutsByWrongFalsely : Prop := cutsByRow.holds Try.pinned (OpenSpec.ofChange cutsByWrong)

/-- 'quillpenlaw07.CutsWays': WHATEVER THE INPUT: true; the input reads as it did. -/
def cutsWaysSpec : ChangeSpec := { name := "cutsWays", fn := fun _ => fun
  | [d1, d2] => { results := [.lit (.bool true)], args := [d1, d2] }
  | _ => none }
def cutsWaysRow : OpenClaim := { program := "ytdhieolfdlkeaaa", sum := "541e1b14819dddb2772cb3d5d16d59118cef1d0a5f22a8344478f276c221eeb0", func := "quillpen/quillpenlaw07.CutsWays", spec := "cutsWays", unfollowed := true, recurses := true, apart := false }
def CutsWaysSaid : Prop := cutsWaysRow.holds Try.pinned (OpenSpec.ofChange cutsWaysSpec)

/-- ITS FALSE NEIGHBOUR: 'it returns false'. Refute it at one input. -/
def cutsWaysWrong : ChangeSpec := { name := "cutsWays", fn := fun _ => fun
  | [d1, d2] => { results := [.lit (.bool false)], args := [d1, d2] }
  | _ => none }
def CutsWaysWrongFalsely : Prop := cutsWaysRow.holds Try.pinned (OpenSpec.ofChange cutsWaysWrong)

/-- 'quillpenlaw07.CutsEach': WHATEVER THE INPUT: true; the input reads as it did. -/
def cutsEachSpec : ChangeSpec := { name := "cutsEach", fn := fun _ => fun
  | [d] => { results := [.lit (.bool true)], args := [d] }
  | _ => none }
def cutsEachRow : OpenClaim := { program := "ytdhieolfdlkeaaa", sum := "541e1b14819dddb2772cb3d5d16d59118cef1d0a5f22a8344478f276c221eeb0", func := "quillpen/quillpenlaw07.CutsEach", spec := "cutsEach", unfollowed := true, recurses := true, apart := false }
def CutsEachSaid : Prop := cutsEachRow.holds Try.pinned (OpenSpec.ofChange cutsEachSpec)

/-- ITS FALSE NEIGHBOUR: 'it returns false'. Refute it at one input. -/
def cutsEachWrong : ChangeSpec := { name := "cutsEach", fn := fun _ => fun
  | [d] => { results := [.lit (.bool false)], args := [d] }
  | _ => none }
def CutsEachWrongFalsely : Prop := cutsEachRow.holds Try.pinned (OpenSpec.ofChange cutsEachWrong)

/-- 'quillpenlaw07.CutsAt': WHATEVER THE INPUT: true; the input reads as it did. -/
def cutsAtSpec : ChangeSpec := { name := "cutsAt", fn := fun _ => fun
  | [d1, d2] => { results := [.lit (.bool true)], args := [d1, d2] }
  | _ => none }
def cutsAtRow : OpenClaim := { program := "ytdhieolfdlkeaaa", sum := "541e1b14819dddb2772cb3d5d16d59118cef1d0a5f22a8344478f276c221eeb0", func := "quillpen/quillpenlaw07.CutsAt", spec := "cutsAt", inPlace := ["internal/abi.NoEscape", "internal/bytealg.MakeNoZero"], unfollowed := true, recurses := true, apart := false }
def CutsAtSaid : Prop := cutsAtRow.holds Try.pinned (OpenSpec.ofChange cutsAtSpec)

/-- ITS FALSE NEIGHBOUR: 'it returns false'. Refute it at one input. -/
def cutsAtWrong : ChangeSpec := { name := "cutsAt", fn := fun _ => fun
  | [d1, d2] => { results := [.lit (.bool false)], args := [d1, d2] }
  | _ => none }
def CutsAtWrongFalsely : Prop := cutsAtRow.holds Try.pinned (OpenSpec.ofChange cutsAtWrong)

/-- 'quillpenlaw07.CutsJoins': WHATEVER THE INPUT: true; the input reads as it did. -/
def cutsJoinsSpec : ChangeSpec := { name := "cutsJoins", fn := fun _ => fun
  | [d] => { results := [.lit (.bool true)], args := [d] }
  | _ => none }
def cutsJoinsRow : OpenClaim := { program := "ytdhieolfdlkeaaa", sum := "541e1b14819dddb2772cb3d5d16d59118cef1d0a5f22a8344478f276c221eeb0", func := "quillpen/quillpenlaw07.CutsJoins", spec := "cutsJoins", inPlace := ["internal/abi.NoEscape", "internal/bytealg.MakeNoZero"], unfollowed := true, recurses := true, apart := false }
def CutsJoinsSaid : Prop := cutsJoinsRow.holds Try.pinned (OpenSpec.ofChange cutsJoinsSpec)

/-- ITS FALSE NEIGHBOUR: 'it returns false'. Refute it at one input. -/
def cutsJoinsWrong : ChangeSpec := { name := "cutsJoins", fn := fun _ => fun
  | [d] => { results := [.lit (.bool false)], args := [d] }
  | _ => none }
def CutsJoinsWrongFalsely : Prop := cutsJoinsRow.holds Try.pinned (OpenSpec.ofChange cutsJoinsWrong)

/-- 'quillpenlaw27.IndexSets': WHATEVER THE INPUT: true; the input reads as it did. -/
def indexSetsSpec : ChangeSpec := { name := "indexSets", fn := fun _ => fun
  | [d1, d2, d3] => { results := [.lit (.bool true)], args := [d1, d2, d3] }
  | _ => none }
def indexSetsRow : OpenClaim := { program := "ytdhieolfdlkeaaa", sum := "541e1b14819dddb2772cb3d5d16d59118cef1d0a5f22a8344478f276c221eeb0", func := "quillpen/quillpenlaw27.IndexSets", spec := "indexSets", inPlace := ["internal/abi.NoEscape", "internal/bytealg.IndexByteString"], unfollowed := true, recurses := true, apart := false }
def IndexSetsSaid : Prop := indexSetsRow.holds Try.pinned (OpenSpec.ofChange indexSetsSpec)

/-- ITS FALSE NEIGHBOUR: 'it returns false'. Refute it at one input. -/
def indexSetsWrong : ChangeSpec := { name := "indexSets", fn := fun _ => fun
  | [d1, d2, d3] => { results := [.lit (.bool false)], args := [d1, d2, d3] }
  | _ => none }
def IndexSetsWrongFalsely : Prop := indexSetsRow.holds Try.pinned (OpenSpec.ofChange indexSetsWrong)

/- THE SECOND FORM. 'bulk': how many values and letters a reading holds, each counted each time it is reached (what is shared counts as often as it is met; a slice's spare places count too). A statement '..UptoSaid' is the law's where the arguments, and the package variables that the reading takes, are together of bulk at most 1048576: NARROWER than '..Said'. Prove '..Said' where nothing that the law and all that it calls make is longer than what came in: it says more and counts as full. Else prove '..UptoSaid'. A law counts once. -/
mutual
def uptoBulk {H : Type} : DataW H → Nat
  | .lit (.string bytes) => bytes.length + 1
  | .lit _ => 1
  | .nil => 1
  | .ptr d => uptoBulk d + 1
  | .slice elems spare => uptoBulkAll elems + uptoBulkAll spare + 1
  | .agg parts => uptoBulkAll parts + 1
  | .iface _ d => uptoBulk d + 1
  | .map entries => uptoBulkEntries entries + 1
  | .held _ => 1
def uptoBulkAll {H : Type} : List (DataW H) → Nat
  | [] => 0
  | d :: r => uptoBulk d + uptoBulkAll r
def uptoBulkEntries {H : Type} : List (Lit × DataW H) → Nat
  | [] => 0
  | x :: r => uptoBulkEntry x + uptoBulkEntries r
def uptoBulkEntry {H : Type} : Lit × DataW H → Nat
  | (.string bytes, d) => bytes.length + uptoBulk d + 1
  | (_, d) => uptoBulk d + 1
 end
def uptoSmall : (H : Type) → List (DataW H) → Bool := fun _ ds => decide (uptoBulkAll ds ≤ 1048576)
def OpenSpec.upto (s : _root_.Go.ChangeSpec) : _root_.Go.OpenSpec := { _root_.Go.OpenSpec.ofChange s with cond := some uptoSmall }

/-- 'quillpenlaw06.WholeParses', WHERE WHAT IT READS IS OF BULK AT MOST 1048576: true; the input reads as it did. -/
def wholeParsesUptoRow : OpenClaim := { program := "ytdhieolfdlkeaaa", sum := "541e1b14819dddb2772cb3d5d16d59118cef1d0a5f22a8344478f276c221eeb0", func := "quillpen/quillpenlaw06.WholeParses", spec := "wholeParses", unfollowed := true, recurses := true, apart := false, narrowed := true }
def WholeParsesUptoSaid : Prop := wholeParsesUptoRow.holds Try.pinned (OpenSpec.upto wholeParsesSpec)

/-- 'quillpenlaw06.WholeFront', WHERE WHAT IT READS IS OF BULK AT MOST 1048576: true; the input reads as it did. -/
def wholeFrontUptoRow : OpenClaim := { program := "ytdhieolfdlkeaaa", sum := "541e1b14819dddb2772cb3d5d16d59118cef1d0a5f22a8344478f276c221eeb0", func := "quillpen/quillpenlaw06.WholeFront", spec := "wholeFront", unfollowed := true, recurses := true, apart := false, narrowed := true }
def WholeFrontUptoSaid : Prop := wholeFrontUptoRow.holds Try.pinned (OpenSpec.upto wholeFrontSpec)

/-- 'quillpenlaw06.WholeLimits', WHERE WHAT IT READS IS OF BULK AT MOST 1048576: true; the input reads as it did. -/
def wholeLimitsUptoRow : OpenClaim := { program := "ytdhieolfdlkeaaa", sum := "541e1b14819dddb2772cb3d5d16d59118cef1d0a5f22a8344478f276c221eeb0", func := "quillpen/quillpenlaw06.WholeLimits", spec := "wholeLimits", unfollowed := true, recurses := true, apart := false, narrowed := true }
def WholeLimitsUptoSaid : Prop := wholeLimitsUptoRow.holds Try.pinned (OpenSpec.upto wholeLimitsSpec)

/-- 'quillpenlaw06.WholeTells', WHERE WHAT IT READS IS OF BULK AT MOST 1048576: true; the input reads as it did. -/
def wholeTellsUptoRow : OpenClaim := { program := "ytdhieolfdlkeaaa", sum := "541e1b14819dddb2772cb3d5d16d59118cef1d0a5f22a8344478f276c221eeb0", func := "quillpen/quillpenlaw06.WholeTells", spec := "wholeTells", unfollowed := true, recurses := true, apart := false, narrowed := true }
def WholeTellsUptoSaid : Prop := wholeTellsUptoRow.holds Try.pinned (OpenSpec.upto wholeTellsSpec)

/-- 'quillpenlaw27.IndexNew', WHERE WHAT IT READS IS OF BULK AT MOST 1048576: true; the input reads as it did. -/
def indexNewUptoRow : OpenClaim := { program := "ytdhieolfdlkeaaa", sum := "541e1b14819dddb2772cb3d5d16d59118cef1d0a5f22a8344478f276c221eeb0", func := "quillpen/quillpenlaw27.IndexNew", spec := "indexNew", unfollowed := true, recurses := true, apart := false, narrowed := true }
def IndexNewUptoSaid : Prop := indexNewUptoRow.holds Try.pinned (OpenSpec.upto indexNewSpec)

/-- 'quillpenlaw27.IndexSlices', WHERE WHAT IT READS IS OF BULK AT MOST 1048576: true; the input reads as it did. -/
def indexSlicesUptoRow : OpenClaim := { program := "ytdhieolfdlkeaaa", sum := "541e1b14819dddb2772cb3d5d16d59118cef1d0a5f22a8344478f276c221eeb0", func := "quillpen/quillpenlaw27.IndexSlices", spec := "indexSlices", unfollowed := true, recurses := true, apart := false, narrowed := true }
def IndexSlicesUptoSaid : Prop := indexSlicesUptoRow.holds Try.pinned (OpenSpec.upto indexSlicesSpec)

/-- 'quillpenlaw27.IndexFinds', WHERE WHAT IT READS IS OF BULK AT MOST 1048576: true; the input reads as it did. -/
def indexFindsUptoRow : OpenClaim := { program := "ytdhieolfdlkeaaa", sum := "541e1b14819dddb2772cb3d5d16d59118cef1d0a5f22a8344478f276c221eeb0", func := "quillpen/quillpenlaw27.IndexFinds", spec := "indexFinds", unfollowed := true, recurses := true, apart := false, narrowed := true }
def IndexFindsUptoSaid : Prop := indexFindsUptoRow.holds Try.pinned (OpenSpec.upto indexFindsSpec)

/-- 'quillpenlaw07.CutsBy', WHERE WHAT IT READS IS OF BULK AT MOST 1048576: true; the input reads as it did. -/
def cutsByUptoRow : OpenClaim := { program := "ytdhieolfdlkeaaa", sum := "541e1b14819dddb2772cb3d5d16d59118cef1d0a5f22a8344478f276c221eeb0", func := "quillpen/quillpenlaw07.CutsBy", spec := "cutsBy", unfollowed := true, recurses := true, apart := false, narrowed := true }
def CutsByUptoSaid : Prop := cutsByUptoRow.holds Try.pinned (OpenSpec.upto cutsBySpec)

/-- 'quillpenlaw07.CutsWays', WHERE WHAT IT READS IS OF BULK AT MOST 1048576: true; the input reads as it did. -/
def cutsWaysUptoRow : OpenClaim := { program := "ytdhieolfdlkeaaa", sum := "541e1b14819dddb2772cb3d5d16d59118cef1d0a5f22a8344478f276c221eeb0", func := "quillpen/quillpenlaw07.CutsWays", spec := "cutsWays", unfollowed := true, recurses := true, apart := false, narrowed := true }
def CutsWaysUptoSaid : Prop := cutsWaysUptoRow.holds Try.pinned (OpenSpec.upto cutsWaysSpec)

/-- 'quillpenlaw07.CutsEach', WHERE WHAT IT READS IS OF BULK AT MOST 1048576: true; the input reads as it did. -/
def cutsEachUptoRow : OpenClaim := { program := "ytdhieolfdlkeaaa", sum := "541e1b14819dddb2772cb3d5d16d59118cef1d0a5f22a8344478f276c221eeb0", func := "quillpen/quillpenlaw07.CutsEach", spec := "cutsEach", unfollowed := true, recurses := true, apart := false, narrowed := true }
def CutsEachUptoSaid : Prop := cutsEachUptoRow.holds Try.pinned (OpenSpec.upto cutsEachSpec)

/-- 'quillpenlaw07.CutsAt', WHERE WHAT IT READS IS OF BULK AT MOST 1048576: true; the input reads as it did. -/
def cutsAtUptoRow : OpenClaim := { program := "ytdhieolfdlkeaaa", sum := "541e1b14819dddb2772cb3d5d16d59118cef1d0a5f22a8344478f276c221eeb0", func := "quillpen/quillpenlaw07.CutsAt", spec := "cutsAt", inPlace := ["internal/abi.NoEscape", "internal/bytealg.MakeNoZero"], unfollowed := true, recurses := true, apart := false, narrowed := true }
def CutsAtUptoSaid : Prop := cutsAtUptoRow.holds Try.pinned (OpenSpec.upto cutsAtSpec)

/-- 'quillpenlaw07.CutsJoins', WHERE WHAT IT READS IS OF BULK AT MOST 1048576: true; the input reads as it did. -/
def cutsJoinsUptoRow : OpenClaim := { program := "ytdhieolfdlkeaaa", sum := "541e1b14819dddb2772cb3d5d16d59118cef1d0a5f22a8344478f276c221eeb0", func := "quillpen/quillpenlaw07.CutsJoins", spec := "cutsJoins", inPlace := ["internal/abi.NoEscape", "internal/bytealg.MakeNoZero"], unfollowed := true, recurses := true, apart := false, narrowed := true }
def CutsJoinsUptoSaid : Prop := cutsJoinsUptoRow.holds Try.pinned (OpenSpec.upto cutsJoinsSpec)

/-- 'quillpenlaw27.IndexSets', WHERE WHAT IT READS IS OF BULK AT MOST 1048576: true; the input reads as it did. -/
def indexSetsUptoRow : OpenClaim := { program := "ytdhieolfdlkeaaa", sum := "541e1b14819dddb2772cb3d5d16d59118cef1d0a5f22a8344478f276c221eeb0", func := "quillpen/quillpenlaw27.IndexSets", spec := "indexSets", inPlace := ["internal/abi.NoEscape", "internal/bytealg.IndexByteString"], unfollowed := true, recurses := true, apart := false, narrowed := true }
def IndexSetsUptoSaid : Prop := indexSetsUptoRow.holds Try.pinned (OpenSpec.upto indexSetsSpec)

end Rows
end Go.Proofs.Ytdhieolfdlkeaaa
