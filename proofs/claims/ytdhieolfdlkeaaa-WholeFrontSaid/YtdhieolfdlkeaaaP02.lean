/- Chapter 02 (utf), plain: what the functions of the program and of the reference compute. -/
namespace Go.Proofs.Ytdhieolfdlkeaaa
set_option linter.unusedSimpArgs false
set_option linter.unusedVariables false

def followM (b least most next : Int) : Int × Bool := if b < least ∨ most < b then (0, false) else (next, true)
def beginM (b : Int) : Int × Bool :=
  if b ≤ 0x7F then (0, true) else if b < 0xC2 then (0, false) else if b ≤ 0xDF then (1, true) else if b = 0xE0 then (4, true) else if b = 0xED then (5, true)
  else if b ≤ 0xEF then (2, true) else if b = 0xF0 then (6, true) else if b ≤ 0xF3 then (3, true) else if b = 0xF4 then (7, true) else (0, false)
def stepM (s b : Int) : Int × Bool :=
  if s = 0 then beginM b else if s = 1 then followM b 0x80 0xBF 0 else if s = 2 then followM b 0x80 0xBF 1 else if s = 3 then followM b 0x80 0xBF 2
  else if s = 4 then followM b 0xA0 0xBF 1 else if s = 5 then followM b 0x80 0x9F 1 else if s = 6 then followM b 0x90 0xBF 2 else if s = 7 then followM b 0x80 0x8F 2 else (0, false)
def runM (st : Int) : List UInt8 → Int × Nat
  | [] => (st, 0)
  | b :: l => if (stepM st b.toNat).2 = true then ((runM (stepM st b.toNat).1 l).1, (runM (stepM st b.toNat).1 l).2 + 1) else (st, 0)
def validM (l : List UInt8) : Bool := ((runM 0 l).2 == l.length) && ((runM 0 l).1 == 0)
def badM (l : List UInt8) : Int × Int := if (runM 0 l).2 < l.length then (3, (runM 0 l).2) else if (runM 0 l).1 ≠ 0 then (12, (runM 0 l).2) else (0, 0)
def longM (st : Int) (best i : Nat) : List UInt8 → Nat
  | [] => best
  | b :: l => if (stepM st b.toNat).2 = true then longM (stepM st b.toNat).1 (if (stepM st b.toNat).1 = 0 then i + 1 else best) (i + 1) l else best

abbrev B (n : Int) : UInt8 := UInt8.ofNat n.toNat
/-- The bytes of a code point. -/
def putM (c : Int) : List UInt8 :=
  if c < 128 then [B c] else if c < 2048 then [B (192 + c / 64), B (128 + c % 64)]
  else if c < 65536 then [B (224 + c / 4096), B (128 + c / 64 % 64), B (128 + c % 64)]
  else [B (240 + c / 262144), B (128 + c / 4096 % 64), B (128 + c / 64 % 64), B (128 + c % 64)]
def bat (l : List UInt8) (i : Nat) : Int := ((l.getD i 0).toNat : Int)
theorem bat_le (l : List UInt8) (i : Nat) : 0 ≤ bat l i ∧ bat l i ≤ 255 := by
  unfold bat
  have := (l.getD i 0).toNat_lt
  omega
def candM (n : Nat) (l : List UInt8) : Int :=
  if n = 1 then bat l 0 else if n = 2 then (bat l 0 - 192) * 64 + bat l 1 - 128 else if n = 3 then (bat l 0 - 224) * 4096 + (bat l 1 - 128) * 64 + bat l 2 - 128
  else (bat l 0 - 240) * 262144 + (bat l 1 - 128) * 4096 + (bat l 2 - 128) * 64 + bat l 3 - 128
theorem cand_bd (k : Nat) (l : List UInt8) : -100000000 ≤ candM k l ∧ candM k l ≤ 100000000 := by
  have h0 := bat_le l 0
  have h1 := bat_le l 1
  have h2 := bat_le l 2
  have h3 := bat_le l 3
  unfold candM
  split
  · omega
  · split
    · omega
    · split <;> omega
def rangeM (c : Int) : Bool := decide (0 ≤ c ∧ c ≤ 1114111 ∧ (c < 55296 ∨ 57343 < c))
def okM2 (n : Nat) (l : List UInt8) : Bool := rangeM (candM n l) && (putM (candM n l) == l.take n)
theorem cand1 (k : Nat) (l : List UInt8) (h : (k : Int) = 1) : ((l.getD 0 0).toNat : Int) = candM k l := by
  have h' : k = 1 := by omega
  subst h'
  rfl
theorem cand2 (k : Nat) (l : List UInt8) (h : (k : Int) = 2) : (((l.getD 0 0).toNat : Int) - 192) * 64 + ((l.getD 1 0).toNat : Int) - 128 = candM k l := by
  have h' : k = 2 := by omega
  subst h'
  rfl
theorem cand3 (k : Nat) (l : List UInt8) (h : (k : Int) = 3) : (((l.getD 0 0).toNat : Int) - 224) * 4096 + (((l.getD 1 0).toNat : Int) - 128) * 64 + ((l.getD 2 0).toNat : Int) - 128 = candM k l := by
  have h' : k = 3 := by omega
  subst h'
  rfl
theorem cand4 (k : Nat) (l : List UInt8) (h : (k : Int) = 4) : (((l.getD 0 0).toNat : Int) - 240) * 262144 + (((l.getD 1 0).toNat : Int) - 128) * 4096 + (((l.getD 2 0).toNat : Int) - 128) * 64 + ((l.getD 3 0).toNat : Int) - 128 = candM k l := by
  have h' : k = 4 := by omega
  subst h'
  rfl
/-- From n on: the first number of bytes that are a sequence. -/
def sizeF : Nat → Nat → List UInt8 → Nat
  | 0, _, _ => 0
  | f + 1, n, l => if n ≤ 4 ∧ n ≤ l.length then (if okM2 n l = true then n else sizeF f (n + 1) l) else 0
def sizeM (l : List UInt8) : Nat := sizeF 5 1 l
theorem sizeF_step (k : Nat) (l : List UInt8) (h4 : k ≤ 4) (hl : k ≤ l.length) (h : okM2 k l = false) : sizeF (6 - k) k l = sizeF (6 - (k + 1)) (k + 1) l := by
  rw [show 6 - k = (6 - (k + 1)) + 1 from by omega, sizeF, if_pos ⟨h4, hl⟩, h]; simp
theorem sizeF_yes (k : Nat) (l : List UInt8) (h4 : k ≤ 4) (hl : k ≤ l.length) (h : okM2 k l = true) : sizeF (6 - k) k l = k := by
  rw [show 6 - k = (6 - (k + 1)) + 1 from by omega, sizeF, if_pos ⟨h4, hl⟩, h]; simp
theorem sizeF_end (k : Nat) (l : List UInt8) (h : ¬ (k ≤ 4 ∧ k ≤ l.length)) : sizeF (6 - k) k l = 0 := by
  cases hk : 6 - k with
  | zero => rfl
  | succ m => rw [sizeF, if_neg h]
theorem okM2_no (k : Nat) (l : List UInt8) (h : ¬ (0 ≤ candM k l ∧ candM k l ≤ 1114111 ∧ (candM k l < 55296 ∨ 57343 < candM k l))) : okM2 k l = false := by
  simp only [okM2, rangeM, h, decide_false, Bool.false_and]
theorem okM2_yes (k : Nat) (l : List UInt8) (h : 0 ≤ candM k l ∧ candM k l ≤ 1114111 ∧ (candM k l < 55296 ∨ 57343 < candM k l)) (he : putM (candM k l) = l.take k) : okM2 k l = true := by
  have : rangeM (candM k l) = true := by simp only [rangeM]; exact decide_eq_true h
  simp only [okM2, this, Bool.true_and, he, beq_self_eq_true]
theorem okM2_ne (k : Nat) (l : List UInt8) (he : ¬ putM (candM k l) = l.take k) : okM2 k l = false := by
  simp only [okM2]
  have : (putM (candM k l) == l.take k) = false := by simpa using he
  rw [this, Bool.and_false]
def tstM (s : List UInt8) (a b : Nat) : Bool := decide (s.length ≤ sizeM (s ++ [B (128 + a), B (128 + b), 128]) ∧ 0 < sizeM (s ++ [B (128 + a), B (128 + b), 128]))
def goesW (s : List UInt8) : Nat := if s.length > 1 then 1 else 64
def goesM (s : List UInt8) : Bool := (List.range 64).any fun a => (List.range (goesW s)).any fun b => tstM s a b
theorem sizeF_le : ∀ (f n : Nat) (l : List UInt8), sizeF f n l ≤ l.length := by
  intro f
  induction f with
  | zero => intro n l; simp [sizeF]
  | succ f ih =>
    intro n l
    simp only [sizeF]
    split
    · rename_i h
      split
      · exact h.2
      · exact ih _ _
    · omega
theorem sizeM_le (l : List UInt8) : sizeM l ≤ l.length := sizeF_le _ _ _
def wholeM (l : List UInt8) : Nat := if h : l ≠ [] ∧ 0 < sizeM l then sizeM l + wholeM (l.drop (sizeM l)) else 0
termination_by l.length
decreasing_by
  have := List.length_pos_iff.2 h.1
  simp only [List.length_drop]
  omega
theorem wholeM_yes (l : List UInt8) (h1 : l ≠ []) (h2 : 0 < sizeM l) : wholeM l = sizeM l + wholeM (l.drop (sizeM l)) := by
  rw [wholeM, dif_pos ⟨h1, h2⟩]
theorem wholeM_no (l : List UInt8) (h : ¬ (l ≠ [] ∧ 0 < sizeM l)) : wholeM l = 0 := by
  rw [wholeM, dif_neg h]
theorem wholeM_le : ∀ (n : Nat) (l : List UInt8), l.length ≤ n → wholeM l ≤ l.length := by
  intro n
  induction n with
  | zero => intro l h; rw [wholeM_no]; omega; intro hh; exact hh.1 (List.length_eq_zero_iff.1 (by omega))
  | succ n ih =>
    intro l h
    by_cases hh : l ≠ [] ∧ 0 < sizeM l
    · rw [wholeM_yes l hh.1 hh.2]
      have := sizeM_le l
      have := ih (l.drop (sizeM l)) (by simp; omega)
      simp only [List.length_drop] at this
      omega
    · rw [wholeM_no l hh]; omega
theorem goesM_true {s : List UInt8} {a b : Nat} (ha : a < 64) (hb : b < goesW s) (h : tstM s a b = true) : goesM s = true := by
  simp only [goesM, List.any_eq_true, List.mem_range]
  exact ⟨a, ha, b, hb, h⟩
theorem goesM_false {s : List UInt8} (h : ∀ a, a < 64 → ∀ b, b < goesW s → tstM s a b = false) : goesM s = false := by
  simp only [goesM, List.any_eq_false, List.mem_range, Bool.not_eq_true]
  exact fun a ha => h a ha
theorem goesW_1 {s : List UInt8} (h : (1 : Int) < s.length) : goesW s = 1 := by unfold goesW; rw [if_pos (by omega)]
theorem goesW_64 {s : List UInt8} (h : ¬ (1 : Int) < s.length) : goesW s = 64 := by unfold goesW; rw [if_neg (by omega)]
theorem tstM_t {s : List UInt8} {a b : Nat} (h1 : (s.length : Int) ≤ sizeM (s ++ [B (128 + a), B (128 + b), 128])) (h2 : (0 : Int) < sizeM (s ++ [B (128 + a), B (128 + b), 128])) : tstM s a b = true :=
  decide_eq_true ⟨by omega, by omega⟩
theorem tstM_f {s : List UInt8} {a b : Nat} (h : ¬ ((s.length : Int) ≤ sizeM (s ++ [B (128 + a), B (128 + b), 128]) ∧ (0 : Int) < sizeM (s ++ [B (128 + a), B (128 + b), 128]))) : tstM s a b = false :=
  decide_eq_false (by omega)
theorem tstM_f1 {s : List UInt8} {a b : Nat} (h : (sizeM (s ++ [B (128 + a), B (128 + b), 128]) : Int) < s.length) : tstM s a b = false := decide_eq_false (by omega)
theorem tstM_f2 {s : List UInt8} {a b : Nat} (h : (sizeM (s ++ [B (128 + a), B (128 + b), 128]) : Int) ≤ 0) : tstM s a b = false := decide_eq_false (by omega)
def GoesM (s : List UInt8) : Bool := decide (s.length ≤ 4) && (s == [] || (sizeM s == s.length) || goesM s)
/-- The first n, from n on, for which the beginning can't go on; 0: there is none. -/
def badF : Nat → Nat → List UInt8 → Nat
  | 0, _, _ => 0
  | f + 1, n, r => if n ≤ r.length then (if GoesM (r.take n) = true then badF f (n + 1) r else n) else 0
/-- The place of the first byte that doesn't go on; -1. -/
def rbadM (l : List UInt8) : Int :=
  if badF l.length 1 (l.drop (wholeM l)) = 0 then -1 else wholeM l + badF l.length 1 (l.drop (wholeM l)) - 1
def stateM (s : List UInt8) : Int :=
  if s = [] ∨ sizeM s = s.length then 0
  else if s.length = 1 ∧ bat s 0 = 224 then 4 else if s.length = 1 ∧ bat s 0 = 237 then 5 else if s.length = 1 ∧ bat s 0 = 240 then 6 else if s.length = 1 ∧ bat s 0 = 244 then 7
  else (if 240 ≤ bat s 0 then 3 else if 224 ≤ bat s 0 then 2 else 1) - s.length + 1
def beginS (s : Nat) : List UInt8 := [[], [0xc2], [0xe1], [0xf1], [0xe0], [0xed], [0xf0], [0xf4]].getD s []
end Go.Proofs.Ytdhieolfdlkeaaa
