/- Texts of the proof, joined. -/
import Derived.Test.YtigifbjdmdcboaazPa
import Derived.Test.YtigifbjdmdcboaazMb
namespace Go.Proofs.Ytigifbjdmdcboaa
set_option linter.unusedSimpArgs false
set_option linter.unusedVariables false
theorem dropD {α : Type} [Inhabited α] (l : List α) (k : Nat) (h : (k : Int) < l.length) : l.drop k = l.getD k default :: l.drop (k + 1) := by
  have h' : k < l.length := by omega
  rw [List.drop_eq_getElem_cons h']
  simp [h']
theorem takeD {α : Type} [Inhabited α] (l : List α) (k : Nat) (h : (k : Int) < l.length) : l.take (k + 1) = l.take k ++ [l.getD k default] := by
  have h' : k < l.length := by omega
  rw [List.take_succ_eq_append_getElem h']
  simp [h']
def gRow : List Str → Int → Option Int
  | [], b => some b
  | f :: r, b => if b < f.length then none else gRow r (b - f.length)
def gTab : List (List Str) → Int → Int → Bool
  | [], _, _ => false
  | r :: t, f, b => if f < r.length then true else match gRow r b with | none => true | some b' => gTab t (f - r.length) b'
def greatM (t : List (List Str)) (n f b : Int) : Bool := if n < t.length then true else gTab t f b
def totL : List Str → Nat
  | [] => 0
  | f :: r => f.length + totL r
theorem gRow_eq : ∀ (r : List Str) (b : Int), 0 ≤ b → gRow r b = if (totL r : Int) ≤ b then some (b - totL r) else none := by
  intro r
  induction r with
  | nil => intro b h; simp [gRow, totL, h]
  | cons f r ih =>
    intro b h
    have e : totL (f :: r) = f.length + totL r := rfl
    rw [gRow]
    by_cases h1 : b < f.length
    · rw [if_pos h1, if_neg (by omega)]
    · rw [if_neg h1, ih _ (by omega)]
      by_cases h2 : (totL r : Int) ≤ b - f.length
      · rw [if_pos h2, if_pos (by omega)]; congr 1; omega
      · rw [if_neg h2, if_neg (by omega)]
theorem totL_mem {l : List Str} {s : Str} (h : s ∈ l) : s.length ≤ totL l := by
  induction l with
  | nil => cases h
  | cons x l ih =>
    simp only [totL]
    rcases List.mem_cons.1 h with rfl | h
    · omega
    · have := ih h; omega
theorem getD_mem {α : Type} [Inhabited α] (l : List α) (k : Nat) (h : (k : Int) < l.length) : l.getD k default ∈ l := by
  have h' : k < l.length := by omega
  simp [h']
end Go.Proofs.Ytigifbjdmdcboaa
