/- Where a byte stands in a text: the library's entry, and cuts. -/
import Derived.Test.YtilfcgnepgacpaaNj
import Derived.Test.YtilfcgnepgacpaaQ18
import Derived.Lib.Bytealg
import Derived.Laws.Externs
namespace Go.Proofs.Ytilfcgnepgacpaa
set_option linter.unusedSimpArgs false
set_option linter.unusedVariables false
open Go.RowKit
theorem idx_cut (c : UInt8) (s : Str) : (Lib.indexByte s c = -1 ∧ cutM c s = none) ∨ ∃ k : Nat, k < s.length ∧ Lib.indexByte s c = k ∧ cutM c s = some (s.take k, s.drop (k + 1)) := by
  induction s with
  | nil => exact .inl ⟨rfl, rfl⟩
  | cons b r ih =>
    by_cases hb : b = c
    · exact .inr ⟨0, by simp, by simp [Lib.indexByte, hb], by simp [cutM, hb]⟩
    · rcases ih with ⟨h1, h2⟩ | ⟨k, h0, h1, h2⟩
      · exact .inl ⟨by simp [Lib.indexByte, hb, h1], by simp [cutM, hb, h2]⟩
      · refine .inr ⟨k + 1, by simp; omega, ?_, by simp [cutM, hb, h2]⟩
        have : ¬ (k : Int) = -1 := by omega
        simp [Lib.indexByte, hb, h1, this]
theorem idx_self (c : UInt8) : Lib.indexByte [c] c = 0 := by simp [Lib.indexByte]
/-- A text cut at a byte, as three. -/
def cutT (c : UInt8) (s : Str) : Str × Str × Bool := match cutM c s with
  | none => (s, [], false)
  | some p => (p.1, p.2, true)
theorem cutT_eq (c : UInt8) (s : Str) : (Lib.indexByte s c = -1 ∧ cutT c s = (s, [], false)) ∨ ∃ k : Nat, k < s.length ∧ Lib.indexByte s c = k ∧ cutT c s = (s.take k, s.drop (k + 1), true) := by
  rcases idx_cut c s with ⟨h1, h2⟩ | ⟨k, h0, h1, h2⟩
  · exact .inl ⟨h1, by simp [cutT, h2]⟩
  · exact .inr ⟨k, h0, h1, by simp [cutT, h2]⟩
theorem cutT_cut (c : UInt8) (s : Str) : cutM c s = if (cutT c s).2.2 = true then some ((cutT c s).1, (cutT c s).2.1) else none := by
  unfold cutT
  cases cutM c s <;> simp
theorem cutT_len (c : UInt8) (s : Str) : (cutT c s).1.length ≤ s.length ∧ (cutT c s).2.1.length ≤ s.length ∧ ((cutT c s).2.2 = true → (cutT c s).2.1.length < s.length) := by
  rcases cutT_eq c s with ⟨_, h⟩ | ⟨k, h0, _, h⟩ <;> rw [h] <;> simp <;> omega
theorem suf_at (k : Str) : sufM k = if 1 ≤ k.length ∧ k.drop (k.length - 1) = [63] then (k.take (k.length - 1), true) else (k, false) := by
  unfold sufM
  by_cases h : k = []
  · subst h; simp
  · have e := List.dropLast_concat_getLast h
    obtain ⟨r, x, e2⟩ : ∃ r x, k = r ++ [x] := ⟨_, _, e.symm⟩
    subst e2
    simp
theorem suf_len (k : Str) : (sufM k).1.length ≤ k.length := by
  rw [suf_at]; split <;> simp
section
variable {ρ : Fr} {w : World} {d : Option Nat} {next : Fr → World → Prop}
theorem O_ibs {K : Fr → World → Prop} {rest : List ML} {ty : TypeId} {ts : Array TypeId} (x y : Operand) : O Try.prog K (⟨none, d, .raw (.call ⟨.value (.func 110), #[x, y], ts⟩) ty⟩ :: rest) ρ w = SemK Try.prog (Extern.BytealgIndexByte.indexByte #[ev ρ x, ev ρ y]) w d ρ (O Try.prog K rest) := by
  rw [O_raw]
  have hE : execOp (ev ρ) (opr (.call ⟨.value (.func 110), #[x, y], ts⟩) ty) = callFunc 110 #[ev ρ x, ev ρ y] := by
    simp [execOp, resolve, Deferred.ofValue, invoke, ev]
  have h1 := run_callFunc_extern Try.func110 (by kernel_rfl) (by kernel_rfl) (by kernel_rfl) (e := Extern.BytealgIndexByte.indexByte) (by kernel_rfl) #[ev ρ x, ev ρ y] w
  unfold RawK SemK
  rw [hE, h1]
  apply propext
  cases hr : (Extern.BytealgIndexByte.indexByte #[ev ρ x, ev ρ y]).run Try.prog w <;> simp
theorem ibK {s : Str} {n : Int} (c : UInt8) (h : next (updO ρ d (I (Lib.indexByte s c))) w) (hc : (c.toNat : Int) = n) : SemK Try.prog (Extern.BytealgIndexByte.indexByte #[S s, .int .u8 n]) w d ρ next := by
  subst hc
  refine ⟨_, w, (Lib.run_indexByteString _ _ _).trans ?_, h⟩
  congr 2
  simp
end
end Go.Proofs.Ytilfcgnepgacpaa
