/-
  No cell of these rows narrows 'for every input' (looked for: loops, veiled, ifaces, maps, wideKeys, modest, calm, conditions, laid).
  DERIVED. THE GIVEN ROWS OF THIS SEAT. 5 by the template 'for every input the law returns true; each argument reads behind the call as it read before'; 0 by the template 'total and deterministic' (their statements: YtigifbjdmdcboaaTotals.lean).
  GIVEN WITH THE SEED: the statements are not yours to turn. If you find one false, say at which input.
  Laid BY PROGRAM, IN A SANDBOX (cutbox-rows.mjs): the forced cells as the released guide's own fill.sh prints them over the translation d51dde717248633d… (all of the seat's roots in one cut). By AI agents, Wed Nov 11 2026. No macro, syntax, notation, axiom, sorry.
-/
import Derived.Test.YtigifbjdmdcboaaChecked
import GoSem.Claim
import GoSem.ClaimJoined
import GoSem.ClaimMapViews
import Derived.JoinedTies
import Derived.KernelRfl
namespace Go.Proofs.Ytigifbjdmdcboaa
/- THE CELL 'sum', in the pinned program and in every row, IS THE sha256 OF THE DUMP (.gsa) THAT YtigifbjdmdcboaaProg.lean LOADS. Nothing in Lean hashes anything: it is a label: what it is worth is what the hold of that sum in a sandbox is worth. -/
noncomputable def Try.pinned : Pinned := { name := "ytigifbjdmdcboaa", sum := "d51dde717248633d24a47b1632d109681728044fe7ee99d7781d76654c87004a", checked := Try.checked }
namespace Rows
def none {H : Type} : Left H := { results := [], args := [] }

/-- 'quillpentop.TopEdits': WHATEVER THE INPUT: true; the input reads as it did. -/
def topEditsSpec : ChangeSpec := { name := "topEdits", fn := fun _ => fun
  | [d1, d2, d3] => { results := [.lit (.bool true)], args := [d1, d2, d3] }
  | _ => none }
def topEditsRow : OpenClaim := { program := "ytigifbjdmdcboaa", sum := "d51dde717248633d24a47b1632d109681728044fe7ee99d7781d76654c87004a", func := "quillpen/quillpentop.TopEdits", spec := "topEdits", inPlace := ["internal/abi.NoEscape", "internal/bytealg.IndexByteString"], unfollowed := true, recurses := true, apart := false }
def TopEditsSaid : Prop := topEditsRow.holds Try.pinned (OpenSpec.ofChange topEditsSpec)

/-- ITS FALSE NEIGHBOUR: 'it returns false'. Refute it at one input. -/
def topEditsWrong : ChangeSpec := { name := "topEdits", fn := fun _ => fun
  | [d1, d2, d3] => { results := [.lit (.bool false)], args := [d1, d2, d3] }
  | _ => none }
def TopEditsWrongFalsely : Prop := topEditsRow.holds Try.pinned (OpenSpec.ofChange topEditsWrong)

/-- 'quillpenlaw26.SniffScores': WHATEVER THE INPUT: true; the input reads as it did. -/
def sniffScoresSpec : ChangeSpec := { name := "sniffScores", fn := fun _ => fun
  | [d1, d2] => { results := [.lit (.bool true)], args := [d1, d2] }
  | _ => none }
def sniffScoresRow : OpenClaim := { program := "ytigifbjdmdcboaa", sum := "d51dde717248633d24a47b1632d109681728044fe7ee99d7781d76654c87004a", func := "quillpen/quillpenlaw26.SniffScores", spec := "sniffScores", unfollowed := true, recurses := true, apart := false }
def SniffScoresSaid : Prop := sniffScoresRow.holds Try.pinned (OpenSpec.ofChange sniffScoresSpec)

/-- ITS FALSE NEIGHBOUR: 'it returns false'. Refute it at one input. -/
def sniffScoresWrong : ChangeSpec := { name := "sniffScores", fn := fun _ => fun
  | [d1, d2] => { results := [.lit (.bool false)], args := [d1, d2] }
  | _ => none }
def SniffScoresWrongFalsely : Prop := sniffScoresRow.holds Try.pinned (OpenSpec.ofChange sniffScoresWrong)

/-- 'quillpenlaw26.SniffBest': WHATEVER THE INPUT: true; the input reads as it did. -/
def sniffBestSpec : ChangeSpec := { name := "sniffBest", fn := fun _ => fun
  | [d] => { results := [.lit (.bool true)], args := [d] }
  | _ => none }
def sniffBestRow : OpenClaim := { program := "ytigifbjdmdcboaa", sum := "d51dde717248633d24a47b1632d109681728044fe7ee99d7781d76654c87004a", func := "quillpen/quillpenlaw26.SniffBest", spec := "sniffBest", unfollowed := true, recurses := true, apart := false }
def SniffBestSaid : Prop := sniffBestRow.holds Try.pinned (OpenSpec.ofChange sniffBestSpec)

/-- ITS FALSE NEIGHBOUR: 'it returns false'. Refute it at one input. -/
def sniffBestWrong : ChangeSpec := { name := "sniffBest", fn := fun _ => fun
  | [d] => { results := [.lit (.bool false)], args := [d] }
  | _ => none }
def SniffBestWrongFalsely : Prop := sniffBestRow.holds Try.pinned (OpenSpec.ofChange sniffBestWrong)

/-- 'quillpenlaw26.SniffAll': WHATEVER THE INPUT: true; the input reads as it did. -/
def sniffAllSpec : ChangeSpec := { name := "sniffAll", fn := fun _ => fun
  | [d] => { results := [.lit (.bool true)], args := [d] }
  | _ => none }
def sniffAllRow : OpenClaim := { program := "ytigifbjdmdcboaa", sum := "d51dde717248633d24a47b1632d109681728044fe7ee99d7781d76654c87004a", func := "quillpen/quillpenlaw26.SniffAll", spec := "sniffAll", unfollowed := true, recurses := true, apart := false }
def SniffAllSaid : Prop := sniffAllRow.holds Try.pinned (OpenSpec.ofChange sniffAllSpec)

/-- ITS FALSE NEIGHBOUR: 'it returns false'. Refute it at one input. -/
def sniffAllWrong : ChangeSpec := { name := "sniffAll", fn := fun _ => fun
  | [d] => { results := [.lit (.bool false)], args := [d] }
  | _ => none }
def SniffAllWrongFalsely : Prop := sniffAllRow.holds Try.pinned (OpenSpec.ofChange sniffAllWrong)

/-- 'quillpenlaw26.SniffWritten': WHATEVER THE INPUT: true; the input reads as it did. -/
def sniffWrittenSpec : ChangeSpec := { name := "sniffWritten", fn := fun _ => fun
  | [d1, d2] => { results := [.lit (.bool true)], args := [d1, d2] }
  | _ => none }
def sniffWrittenRow : OpenClaim := { program := "ytigifbjdmdcboaa", sum := "d51dde717248633d24a47b1632d109681728044fe7ee99d7781d76654c87004a", func := "quillpen/quillpenlaw26.SniffWritten", spec := "sniffWritten", unfollowed := true, recurses := true, apart := false }
def SniffWrittenSaid : Prop := sniffWrittenRow.holds Try.pinned (OpenSpec.ofChange sniffWrittenSpec)

/-- ITS FALSE NEIGHBOUR: 'it returns false'. Refute it at one input. -/
def sniffWrittenWrong : ChangeSpec := { name := "sniffWritten", fn := fun _ => fun
  | [d1, d2] => { results := [.lit (.bool false)], args := [d1, d2] }
  | _ => none }
def SniffWrittenWrongFalsely : Prop := sniffWrittenRow.holds Try.pinned (OpenSpec.ofChange sniffWrittenWrong)

/- THE SECOND FORM. 'bulk': how many values and letters a reading holds, each counted each time it is reached (what is shared counts as often as it is met; a slice's spare places count too). A statement '..UptoSaid' is the law's where the arguments, and the package variables that the reading takes, are together of bulk at most 1048576: NARROWER than '..Said'. Prove '..Said' where nothing that the law and all that it calls make is longer than what came in: it says more and counts as full. Else prove '..UptoSaid'. A law counts once. -/
mutual
def uptoBulk {H : Type} : DataW H → Nat
  | .lit (.string bytes) => bytes.length + 1
  | .lit _ => 1
  | .nil => 1
  | .ptr d => uptoBulk d + 1
  | .slice elems spare => uptoBulkAll elems + uptoBulkAll spare + 1
  | .agg parts => uptoBulkAll parts + 1
  | .iface _ d => uptoBulk d + 1
  | .map entries => uptoBulkEntries entries + 1
  | .held _ => 1
def uptoBulkAll {H : Type} : List (DataW H) → Nat
  | [] => 0
  | d :: r => uptoBulk d + uptoBulkAll r
def uptoBulkEntries {H : Type} : List (Lit × DataW H) → Nat
  | [] => 0
  | x :: r => uptoBulkEntry x + uptoBulkEntries r
def uptoBulkEntry {H : Type} : Lit × DataW H → Nat
  | (.string bytes, d) => bytes.length + uptoBulk d + 1
  | (_, d) => uptoBulk d + 1
 end
def uptoSmall : (H : Type) → List (DataW H) → Bool := fun _ ds => decide (uptoBulkAll ds ≤ 1048576)
def OpenSpec.upto (s : _root_.Go.ChangeSpec) : _root_.Go.OpenSpec := { _root_.Go.OpenSpec.ofChange s with cond := some uptoSmall }

/-- 'quillpentop.TopEdits', WHERE WHAT IT READS IS OF BULK AT MOST 1048576: true; the input reads as it did. -/
def topEditsUptoRow : OpenClaim := { program := "ytigifbjdmdcboaa", sum := "d51dde717248633d24a47b1632d109681728044fe7ee99d7781d76654c87004a", func := "quillpen/quillpentop.TopEdits", spec := "topEdits", inPlace := ["internal/abi.NoEscape", "internal/bytealg.IndexByteString"], unfollowed := true, recurses := true, apart := false, narrowed := true }
def TopEditsUptoSaid : Prop := topEditsUptoRow.holds Try.pinned (OpenSpec.upto topEditsSpec)

/-- 'quillpenlaw26.SniffScores', WHERE WHAT IT READS IS OF BULK AT MOST 1048576: true; the input reads as it did. -/
def sniffScoresUptoRow : OpenClaim := { program := "ytigifbjdmdcboaa", sum := "d51dde717248633d24a47b1632d109681728044fe7ee99d7781d76654c87004a", func := "quillpen/quillpenlaw26.SniffScores", spec := "sniffScores", unfollowed := true, recurses := true, apart := false, narrowed := true }
def SniffScoresUptoSaid : Prop := sniffScoresUptoRow.holds Try.pinned (OpenSpec.upto sniffScoresSpec)

/-- 'quillpenlaw26.SniffBest', WHERE WHAT IT READS IS OF BULK AT MOST 1048576: true; the input reads as it did. -/
def sniffBestUptoRow : OpenClaim := { program := "ytigifbjdmdcboaa", sum := "d51dde717248633d24a47b1632d109681728044fe7ee99d7781d76654c87004a", func := "quillpen/quillpenlaw26.SniffBest", spec := "sniffBest", unfollowed := true, recurses := true, apart := false, narrowed := true }
def SniffBestUptoSaid : Prop := sniffBestUptoRow.holds Try.pinned (OpenSpec.upto sniffBestSpec)

/-- 'quillpenlaw26.SniffAll', WHERE WHAT IT READS IS OF BULK AT MOST 1048576: true; the input reads as it did. -/
def sniffAllUptoRow : OpenClaim := { program := "ytigifbjdmdcboaa", sum := "d51dde717248633d24a47b1632d109681728044fe7ee99d7781d76654c87004a", func := "quillpen/quillpenlaw26.SniffAll", spec := "sniffAll", unfollowed := true, recurses := true, apart := false, narrowed := true }
def SniffAllUptoSaid : Prop := sniffAllUptoRow.holds Try.pinned (OpenSpec.upto sniffAllSpec)

/-- 'quillpenlaw26.SniffWritten', WHERE WHAT IT READS IS OF BULK AT MOST 1048576: true; the input reads as it did. -/
def sniffWrittenUptoRow : OpenClaim := { program := "ytigifbjdmdcboaa", sum := "d51dde717248633d24a47b1632d109681728044fe7ee99d7781d76654c87004a", func := "quillpen/quillpenlaw26.SniffWritten", spec := "sniffWritten", unfollowed := true, recurses := true, apart := false, narrowed := true }
def SniffWrittenUptoSaid : Prop := sniffWrittenUptoRow.holds Try.pinned (OpenSpec.upto sniffWrittenSpec)

end Rows
end Go.Proofs.Ytigifbjdmdcboaa
