/- Chapter 02 (utf), plain: that the program and the reference agree. -/
import Derived.Test.YtdhieolfdlkeaaaQ02
namespace Go.Proofs.Ytdhieolfdlkeaaa
set_option linter.unusedSimpArgs false
set_option linter.unusedVariables false

theorem sizeM_nil : sizeM [] = 0 := rfl
theorem sizeM_1 (x : UInt8) (r : List UInt8) (h : (x.toNat : Int) ≤ 127) : sizeM (x :: r) = 1 := by
  unfold sizeM
  rw [sizeF, if_pos ⟨by omega, by simp⟩, if_pos ((okM2_1 x r).2 h)]
theorem step1 (x : UInt8) (r : List UInt8) (h : ¬ (x.toNat : Int) ≤ 127) : sizeM (x :: r) = sizeF 4 2 (x :: r) := by
  unfold sizeM
  rw [sizeF, if_pos ⟨by omega, by simp⟩, if_neg (fun e => h ((okM2_1 x r).1 e))]
theorem step2 (x y : UInt8) (r : List UInt8) (h : ¬ ok2 x.toNat y.toNat) : sizeF 4 2 (x :: y :: r) = sizeF 3 3 (x :: y :: r) := by
  rw [sizeF, if_pos ⟨by omega, by simp⟩, if_neg (fun e => h ((okM2_2 x y r).1 e))]
theorem step3 (x y z : UInt8) (r : List UInt8) (h : ¬ ok3 x.toNat y.toNat z.toNat) : sizeF 3 3 (x :: y :: z :: r) = sizeF 2 4 (x :: y :: z :: r) := by
  rw [sizeF, if_pos ⟨by omega, by simp⟩, if_neg (fun e => h ((okM2_3 x y z r).1 e))]
theorem sizeM_x (x : UInt8) (h : ¬ (x.toNat : Int) ≤ 127) : sizeM [x] = 0 := by rw [step1 x [] h]; rfl
theorem sizeM_xy (x y : UInt8) (h : ¬ (x.toNat : Int) ≤ 127) (h2 : ¬ ok2 x.toNat y.toNat) : sizeM [x, y] = 0 := by rw [step1 x _ h, step2 x y _ h2]; rfl
theorem sizeM_xyz (x y z : UInt8) (h : ¬ (x.toNat : Int) ≤ 127) (h2 : ¬ ok2 x.toNat y.toNat) (h3 : ¬ ok3 x.toNat y.toNat z.toNat) : sizeM [x, y, z] = 0 := by
  rw [step1 x _ h, step2 x y _ h2, step3 x y z _ h3]; rfl
theorem sizeM_2 (x y : UInt8) (r : List UInt8) (h : ¬ (x.toNat : Int) ≤ 127) (h2 : ok2 x.toNat y.toNat) : sizeM (x :: y :: r) = 2 := by
  rw [step1 x _ h, sizeF, if_pos ⟨by omega, by simp⟩, if_pos ((okM2_2 x y r).2 h2)]
theorem sizeM_3 (x y z : UInt8) (r : List UInt8) (h : ¬ (x.toNat : Int) ≤ 127) (h2 : ¬ ok2 x.toNat y.toNat) (h3 : ok3 x.toNat y.toNat z.toNat) : sizeM (x :: y :: z :: r) = 3 := by
  rw [step1 x _ h, step2 x y _ h2, sizeF, if_pos ⟨by omega, by simp⟩, if_pos ((okM2_3 x y z r).2 h3)]
theorem sizeM_4 (x y z t : UInt8) (r : List UInt8) (h : ¬ (x.toNat : Int) ≤ 127) (h2 : ¬ ok2 x.toNat y.toNat) (h3 : ¬ ok3 x.toNat y.toNat z.toNat) (h4 : ok4 x.toNat y.toNat z.toNat t.toNat) : sizeM (x :: y :: z :: t :: r) = 4 := by
  rw [step1 x _ h, step2 x y _ h2, step3 x y z _ h3, sizeF, if_pos ⟨by omega, by simp⟩, if_pos ((okM2_4 x y z t r).2 h4)]
theorem sizeM_no (x y z t : UInt8) (r : List UInt8) (h : ¬ (x.toNat : Int) ≤ 127) (h2 : ¬ ok2 x.toNat y.toNat) (h3 : ¬ ok3 x.toNat y.toNat z.toNat) (h4 : ¬ ok4 x.toNat y.toNat z.toNat t.toNat) : sizeM (x :: y :: z :: t :: r) = 0 := by
  rw [step1 x _ h, step2 x y _ h2, step3 x y z _ h3, sizeF, if_pos ⟨by omega, by simp⟩, if_neg (fun e => h4 ((okM2_4 x y z t r).1 e)), sizeF, if_neg (by omega)]

/-- The kinds of a first byte. -/
structure Lead (x s lo hi k : Int) : Prop where
  st : stepM 0 x = (s, true)
  nz : s ≠ 0
  nx : ∀ y, stepM s y = followM y lo hi k
  kk : k = 0 ∨ k = 1 ∨ k = 2
  rg : 128 ≤ lo ∧ lo ≤ hi ∧ hi ≤ 191
  o2 : ∀ y, ok2 x y ↔ k = 0 ∧ lo ≤ y ∧ y ≤ hi
  o3 : ∀ y z, ok3 x y z ↔ k = 1 ∧ (lo ≤ y ∧ y ≤ hi) ∧ 128 ≤ z ∧ z ≤ 191
  o4 : ∀ y z t, ok4 x y z t ↔ k = 2 ∧ (lo ≤ y ∧ y ≤ hi) ∧ (128 ≤ z ∧ z ≤ 191) ∧ 128 ≤ t ∧ t ≤ 191
  big : 194 ≤ x ∧ x ≤ 244
theorem lead_of (x : Int) (h : 194 ≤ x ∧ x ≤ 244) : ∃ s lo hi k, Lead x s lo hi k := by
  have f : ∀ (s lo hi k : Int), beginM x = (s, true) → s ≠ 0 → (∀ y, stepM s y = followM y lo hi k) → (k = 0 ∨ k = 1 ∨ k = 2) → (128 ≤ lo ∧ lo ≤ hi ∧ hi ≤ 191) →
      (∀ y, ok2 x y ↔ k = 0 ∧ lo ≤ y ∧ y ≤ hi) → (∀ y z, ok3 x y z ↔ k = 1 ∧ (lo ≤ y ∧ y ≤ hi) ∧ 128 ≤ z ∧ z ≤ 191) → (∀ y z t, ok4 x y z t ↔ k = 2 ∧ (lo ≤ y ∧ y ≤ hi) ∧ (128 ≤ z ∧ z ≤ 191) ∧ 128 ≤ t ∧ t ≤ 191) → ∃ s lo hi k, Lead x s lo hi k :=
    fun s lo hi k h1 h2 h3 h4 h5 h6 h7 h8 => ⟨s, lo, hi, k, ⟨by simpa [stepM] using h1, h2, h3, h4, h5, h6, h7, h8, h⟩⟩
  by_cases h1 : x ≤ 223
  · refine f 1 128 191 0 (by unfold beginM; simp (disch := omega) only [if_pos, if_neg]) (by omega) (fun y => rfl) (by omega) (by omega) ?_ ?_ ?_ <;> intros <;> simp only [ok2, ok3, ok4, true_and, false_and, iff_false] <;> omega
  by_cases h2 : x = 224
  · refine f 4 160 191 1 (by unfold beginM; simp (disch := omega) only [if_pos, if_neg]) (by omega) (fun y => rfl) (by omega) (by omega) ?_ ?_ ?_ <;> intros <;> simp only [ok2, ok3, ok4, true_and, false_and, iff_false] <;> omega
  by_cases h3 : x = 237
  · refine f 5 128 159 1 (by unfold beginM; simp (disch := omega) only [if_pos, if_neg]) (by omega) (fun y => rfl) (by omega) (by omega) ?_ ?_ ?_ <;> intros <;> simp only [ok2, ok3, ok4, true_and, false_and, iff_false] <;> omega
  by_cases h4 : x ≤ 239
  · refine f 2 128 191 1 (by unfold beginM; simp (disch := omega) only [if_pos, if_neg]) (by omega) (fun y => rfl) (by omega) (by omega) ?_ ?_ ?_ <;> intros <;> simp only [ok2, ok3, ok4, true_and, false_and, iff_false] <;> omega
  by_cases h5 : x = 240
  · refine f 6 144 191 2 (by unfold beginM; simp (disch := omega) only [if_pos, if_neg]) (by omega) (fun y => rfl) (by omega) (by omega) ?_ ?_ ?_ <;> intros <;> simp only [ok2, ok3, ok4, true_and, false_and, iff_false] <;> omega
  by_cases h6 : x ≤ 243
  · refine f 3 128 191 2 (by unfold beginM; simp (disch := omega) only [if_pos, if_neg]) (by omega) (fun y => rfl) (by omega) (by omega) ?_ ?_ ?_ <;> intros <;> simp only [ok2, ok3, ok4, true_and, false_and, iff_false] <;> omega
  · refine f 7 128 143 2 (by unfold beginM; simp (disch := omega) only [if_pos, if_neg]) (by omega) (fun y => rfl) (by omega) (by omega) ?_ ?_ ?_ <;> intros <;> simp only [ok2, ok3, ok4, true_and, false_and, iff_false] <;> omega
theorem nolead (x : Int) (h0 : 127 < x) (h1 : ¬ (194 ≤ x ∧ x ≤ 244)) : stepM 0 x = (0, false) := by
  have : beginM x = (0, false) := by
    unfold beginM
    by_cases h : x < 194
    · simp (disch := omega) only [if_pos, if_neg]
    · simp (disch := omega) only [if_pos, if_neg]
  simpa [stepM] using this
theorem ascii (x : Int) (h : x ≤ 127) : stepM 0 x = (0, true) := by
  have : beginM x = (0, true) := by unfold beginM; rw [if_pos h]
  simpa [stepM] using this
theorem fol_y {y lo hi k : Int} (h : lo ≤ y ∧ y ≤ hi) : followM y lo hi k = (k, true) := by unfold followM; rw [if_neg (by omega)]
theorem fol_n {y lo hi k : Int} (h : ¬ (lo ≤ y ∧ y ≤ hi)) : followM y lo hi k = (0, false) := by unfold followM; rw [if_pos (by omega)]
theorem st1 (y : Int) : stepM 1 y = followM y 128 191 0 := rfl
theorem st2 (y : Int) : stepM 2 y = followM y 128 191 1 := rfl

theorem run_y {st : Int} {b : UInt8} {l : List UInt8} {s : Int} (h : stepM st b.toNat = (s, true)) : runM st (b :: l) = ((runM s l).1, (runM s l).2 + 1) := by simp [runM, h]
theorem run_n {st : Int} {b : UInt8} {l : List UInt8} {s : Int} (h : stepM st b.toNat = (s, false)) : runM st (b :: l) = (st, 0) := by simp [runM, h]
theorem run_nil (st : Int) : runM st [] = (st, 0) := rfl
theorem long_y {st : Int} {b : UInt8} {l : List UInt8} {s : Int} {best i : Nat} (h : stepM st b.toNat = (s, true)) : longM st best i (b :: l) = longM s (if s = 0 then i + 1 else best) (i + 1) l := by simp [longM, h]
theorem long_n {st : Int} {b : UInt8} {l : List UInt8} {s : Int} {best i : Nat} (h : stepM st b.toNat = (s, false)) : longM st best i (b :: l) = best := by simp [longM, h]
end Go.Proofs.Ytdhieolfdlkeaaa
