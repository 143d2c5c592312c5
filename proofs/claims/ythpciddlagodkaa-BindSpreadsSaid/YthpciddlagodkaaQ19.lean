/- Chapter 19, plain: spread. -/
import Derived.Test.YthpciddlagodkaaX19
namespace Go.Proofs.Ythpciddlagodkaa
set_option linter.unusedSimpArgs false
set_option linter.unusedVariables false
/-- A list told by its places. -/
def tab {α : Type} (n : Int) (f : Int → α) : List α := (List.range n.toNat).map fun (i : Nat) => f (i : Int)
theorem tab_len {α : Type} (n : Int) (f : Int → α) : (tab n f).length = n.toNat := by simp [tab]
theorem tab_get {α : Type} [Inhabited α] (n : Int) (f : Int → α) (p : Int) (h : 0 ≤ p ∧ p < n) : (tab n f).getD p.toNat default = f p := by
  have hp : p.toNat < n.toNat := by omega
  simp only [tab, List.getD, List.getElem?_map, List.getElem?_range hp, Option.map_some, Option.getD_some]
  congr 1; omega
theorem tab_rep {α : Type} (n : Int) (z : α) (f : Int → α) (h : ∀ i, f i = z) : List.replicate n.toNat z = tab n f := by
  rw [List.eq_replicate_iff.2 ⟨tab_len n f, fun b hb => ?_⟩]
  obtain ⟨i, _, rfl⟩ := List.mem_map.1 hb
  exact h _
theorem tab_set {α : Type} (n : Int) (f g : Int → α) (p : Int) (v : α) (h : 0 ≤ p ∧ p < n) (hg : ∀ i, g i = if p = i then v else f i) : (tab n f).set p.toNat v = tab n g := by
  apply List.ext_getElem
  · simp [tab]
  · intro i h1 h2
    simp only [tab, List.getElem_set, List.getElem_map, List.getElem_range, hg]
    by_cases hi : p = i
    · rw [if_pos hi, if_pos (by omega)]
    · rw [if_neg hi, if_neg (by omega)]
theorem tab_take {α : Type} (n : Int) (f : Int → α) (k : Nat) (h : (k : Int) < n) : tab (k + 1 : Nat) f = tab k f ++ [f k] := by
  simp [tab, List.range_succ]
/-- Is i one of the first k places? -/
def seenN (l : List Int) (i : Int) : Nat → Bool
  | 0 => false
  | k + 1 => decide (l.getD k default = i) || seenN l i k
def goodN (l : List Int) (n : Int) : Nat → Bool
  | 0 => true
  | k + 1 => goodN l n k && (decide (0 ≤ l.getD k default ∧ l.getD k default < n) && !seenN l (l.getD k default) k)
def lastN (l : List Int) (r : List Str) (i : Int) : Nat → Str
  | 0 => []
  | k + 1 => if l.getD k default = i then r.getD k default else lastN l r i k
theorem seen_le (l : List Int) (i : Int) : ∀ {k m : Nat}, k ≤ m → seenN l i k = true → seenN l i m = true := by
  intro k m h hs
  induction m with
  | zero => cases Nat.le_zero.1 h; exact hs
  | succ m ih =>
    rcases Nat.lt_or_ge k (m + 1) with hk | hk
    · simp [seenN, ih (by omega)]
    · have : k = m + 1 := by omega
      subst this; exact hs
theorem seen_of (l : List Int) (i : Int) {j k : Nat} (h : j < k) (e : l.getD j default = i) : seenN l i k = true := seen_le l i (k := j + 1) h (by simp only [seenN, e, decide_true, Bool.true_or])
theorem good_le (l : List Int) (n : Int) : ∀ {k m : Nat}, k ≤ m → goodN l n k = false → goodN l n m = false := by
  intro k m h hs
  induction m with
  | zero => cases Nat.le_zero.1 h; exact hs
  | succ m ih =>
    rcases Nat.lt_or_ge k (m + 1) with hk | hk
    · simp [goodN, ih (by omega)]
    · have : k = m + 1 := by omega
      subst this; exact hs
theorem good_at (l : List Int) (n : Int) {k m : Nat} (h : k < m) (hg : goodN l n m = true) : (0 ≤ l.getD k default ∧ l.getD k default < n) ∧ seenN l (l.getD k default) k = false := by
  cases hb : goodN l n (k + 1) with
  | false => rw [good_le l n h hb] at hg; simp at hg
  | true => simp only [goodN, Bool.and_eq_true, decide_eq_true_eq, Bool.not_eq_true'] at hb; exact hb.2
theorem good_no {l : List Int} {n : Int} {k : Nat} (h : (k : Int) < l.length) (hb : l.getD k default < 0 ∨ n ≤ l.getD k default ∨ seenN l (l.getD k default) k = true) : goodN l n l.length = false := by
  refine good_le l n (k := k + 1) (by omega) ?_
  rcases hb with h1 | h1 | h1
  · simp only [goodN]; rw [decide_eq_false (by omega)]; simp
  · simp only [goodN]; rw [decide_eq_false (by omega)]; simp
  · simp only [goodN, h1, Bool.not_true, Bool.and_false]
theorem good_yes {l : List Int} {n : Int} {k : Nat} (hg : goodN l n k = true) (h : 0 ≤ l.getD k default ∧ l.getD k default < n) (hs : seenN l (l.getD k default) k = false) : goodN l n (k + 1) = true := by
  simp only [goodN, hg, hs]; rw [decide_eq_true h]; rfl
def spreadM (r : List Str) (l : List Int) (n : Int) : List Str × Int :=
  if n < 0 ∨ 65536 < n then ([], 22) else if goodN l n l.length = false then ([], 22) else if r.length ≠ l.length then ([], 10) else (tab n fun i => lastN l r i l.length, 0)
theorem last_at (l : List Int) (r : List Str) (n : Int) (j : Nat) : ∀ m, j < m → goodN l n m = true → lastN l r (l.getD j default) m = r.getD j default := by
  intro m
  induction m with
  | zero => intro h; omega
  | succ m ih =>
    intro h hg
    by_cases hj : j = m
    · subst hj; simp only [lastN, if_pos]
    · have hs := (good_at l n (Nat.lt_succ_self m) hg).2
      have hne : ¬ l.getD m default = l.getD j default := fun e => by
        rw [seen_of l _ (j := j) (k := m) (by omega) e.symm] at hs; simp at hs
      have hgm : goodN l n m = true := by
        cases hb : goodN l n m with
        | true => rfl
        | false => rw [good_le l n (Nat.le_succ m) hb] at hg; simp at hg
      simp only [lastN, if_neg hne]
      exact ih (by omega) hgm
theorem pickF_tab (l : List Int) (r : List Str) (n : Int) (hl : r.length = l.length) (hg : goodN l n l.length = true) : ∀ m k, k + m = l.length → pickF (tab n fun i => lastN l r i l.length) (l.drop k) (r.take k) = (r, 0) := by
  intro m
  induction m with
  | zero =>
    intro k hk
    rw [List.drop_eq_nil_of_le (by omega), List.take_of_length_le (by omega)]; rfl
  | succ m ih =>
    intro k hk
    have hg2 := (good_at l n (k := k) (by omega) hg).1
    rw [dropD _ _ (by omega), pickF, if_neg (by rw [tab_len]; omega), tab_get _ _ _ hg2, last_at l r n k _ (by omega) hg, ← takeD _ _ (by omega)]
    exact ih (k + 1) (by omega)
theorem pick_spread (r : List Str) (l : List Int) (n : Int) (h : (spreadM r l n).2 = 0) : pickM (spreadM r l n).1 l = (r, 0) := by
  unfold spreadM at h ⊢
  split at h
  · simp at h
  · rename_i h1
    split at h
    · simp at h
    · rename_i h2
      split at h
      · simp at h
      · rename_i h3
        have hg : goodN l n l.length = true := by simpa using h2
        rw [if_neg h1, if_neg h2, if_neg h3]
        have ha : ¬ l.any (fun p => decide (p < 0)) = true := by
          intro ha
          obtain ⟨p, hp, hn⟩ := List.any_eq_true.1 ha
          obtain ⟨k, hk, rfl⟩ := List.mem_iff_getElem.1 hp
          have := (good_at l n hk hg).1
          have e : l.getD k default = l[k] := by simp [List.getD, List.getElem?_eq_getElem hk]
          rw [e] at this
          simp at hn; omega
        rw [pickM, if_neg ha]
        exact pickF_tab l r n (by omega) hg l.length 0 (by omega)
end Go.Proofs.Ythpciddlagodkaa
