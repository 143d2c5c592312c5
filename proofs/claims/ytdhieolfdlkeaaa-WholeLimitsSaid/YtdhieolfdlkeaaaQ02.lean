/- Chapter 02 (utf), plain: the reference's answers as the document's table. -/
import Derived.Test.YtdhieolfdlkeaaaP02
namespace Go.Proofs.Ytdhieolfdlkeaaa
set_option linter.unusedSimpArgs false
set_option linter.unusedVariables false

theorem B_eq (e : Int) (x : UInt8) (h : 0 ≤ e ∧ e ≤ 255) : (B e = x) ↔ e = (x.toNat : Int) := by
  have hx := x.toNat_lt
  have hb : (B e).toNat = e.toNat := by
    unfold B
    rw [UInt8.toNat_ofNat']
    omega
  constructor
  · intro he
    rw [← he, hb]
    omega
  · intro he
    apply UInt8.toNat_inj.1
    rw [hb]
    omega
def cont (b : Int) : Prop := 128 ≤ b ∧ b ≤ 191
def ok2 (a b : Int) : Prop := 194 ≤ a ∧ a ≤ 223 ∧ 128 ≤ b ∧ b ≤ 191
def ok3 (a b c : Int) : Prop := 128 ≤ c ∧ c ≤ 191 ∧ 128 ≤ b ∧ b ≤ 191 ∧ 224 ≤ a ∧ a ≤ 239 ∧ (a = 224 → 160 ≤ b) ∧ (a = 237 → b ≤ 159)
def ok4 (a b c d : Int) : Prop := 128 ≤ d ∧ d ≤ 191 ∧ 128 ≤ c ∧ c ≤ 191 ∧ 128 ≤ b ∧ b ≤ 191 ∧ 240 ≤ a ∧ a ≤ 244 ∧ (a = 240 → 144 ≤ b) ∧ (a = 244 → b ≤ 143)

theorem okM2_1 (x : UInt8) (r : List UInt8) : okM2 1 (x :: r) = true ↔ (x.toNat : Int) ≤ 127 := by
  have hx := x.toNat_lt
  have hc : candM 1 (x :: r) = (x.toNat : Int) := rfl
  simp only [okM2, hc, rangeM, Bool.and_eq_true, decide_eq_true_eq, beq_iff_eq, List.take_succ_cons, List.take_zero]
  unfold putM
  by_cases h : (x.toNat : Int) < 128
  · rw [if_pos h]
    have := B_eq x.toNat x ⟨by omega, by omega⟩
    simp only [List.cons.injEq, and_true, this]
    omega
  · rw [if_neg h, if_pos (by omega)]
    simp
    omega
theorem okM2_2 (x y : UInt8) (r : List UInt8) : okM2 2 (x :: y :: r) = true ↔ ok2 x.toNat y.toNat := by
  have hx := x.toNat_lt
  have hy := y.toNat_lt
  obtain ⟨c, hc⟩ : ∃ c, c = ((x.toNat : Int) - 192) * 64 + y.toNat - 128 := ⟨_, rfl⟩
  have hcc : candM 2 (x :: y :: r) = c := by rw [hc]; rfl
  simp only [okM2, hcc, rangeM, Bool.and_eq_true, decide_eq_true_eq, beq_iff_eq, List.take_succ_cons, List.take_zero]
  unfold putM ok2
  by_cases h0 : 0 ≤ c
  · by_cases h : c < 128
    · rw [if_pos h]; simp; omega
    · rw [if_neg h]
      by_cases h2 : c < 2048
      · rw [if_pos h2]
        have e1 := B_eq (192 + c / 64) x ⟨by omega, by omega⟩
        have e2 := B_eq (128 + c % 64) y ⟨by omega, by omega⟩
        simp only [List.cons.injEq, and_true, e1, e2]
        omega
      · rw [if_neg h2]
        by_cases h3 : c < 65536
        · rw [if_pos h3]; simp; omega
        · rw [if_neg h3]; simp; omega
  · constructor
    · intro hh; omega
    · intro hh; omega
theorem okM2_3 (x y z : UInt8) (r : List UInt8) : okM2 3 (x :: y :: z :: r) = true ↔ ok3 x.toNat y.toNat z.toNat := by
  have hx := x.toNat_lt
  have hy := y.toNat_lt
  have hz := z.toNat_lt
  obtain ⟨c, hc⟩ : ∃ c, c = ((x.toNat : Int) - 224) * 4096 + ((y.toNat : Int) - 128) * 64 + z.toNat - 128 := ⟨_, rfl⟩
  have hcc : candM 3 (x :: y :: z :: r) = c := by rw [hc]; rfl
  simp only [okM2, hcc, rangeM, Bool.and_eq_true, decide_eq_true_eq, beq_iff_eq, List.take_succ_cons, List.take_zero]
  unfold putM ok3
  by_cases h0 : 0 ≤ c
  · by_cases h : c < 128
    · rw [if_pos h]; simp; omega
    · rw [if_neg h]
      by_cases h2 : c < 2048
      · rw [if_pos h2]; simp; omega
      · rw [if_neg h2]
        by_cases h3 : c < 65536
        · rw [if_pos h3]
          have e1 := B_eq (224 + c / 4096) x ⟨by omega, by omega⟩
          have e2 := B_eq (128 + c / 64 % 64) y ⟨by omega, by omega⟩
          have e3 := B_eq (128 + c % 64) z ⟨by omega, by omega⟩
          simp only [List.cons.injEq, and_true, e1, e2, e3]
          omega
        · rw [if_neg h3]; simp; omega
  · constructor
    · intro hh; omega
    · intro hh; omega
theorem okM2_4 (x y z t : UInt8) (r : List UInt8) : okM2 4 (x :: y :: z :: t :: r) = true ↔ ok4 x.toNat y.toNat z.toNat t.toNat := by
  have hx := x.toNat_lt
  have hy := y.toNat_lt
  have hz := z.toNat_lt
  have ht := t.toNat_lt
  obtain ⟨c, hc⟩ : ∃ c, c = ((x.toNat : Int) - 240) * 262144 + ((y.toNat : Int) - 128) * 4096 + ((z.toNat : Int) - 128) * 64 + t.toNat - 128 := ⟨_, rfl⟩
  have hcc : candM 4 (x :: y :: z :: t :: r) = c := by rw [hc]; rfl
  simp only [okM2, hcc, rangeM, Bool.and_eq_true, decide_eq_true_eq, beq_iff_eq, List.take_succ_cons, List.take_zero]
  unfold putM ok4
  by_cases h0 : 0 ≤ c ∧ c ≤ 1114111
  · by_cases h : c < 128
    · rw [if_pos h]; simp; omega
    · rw [if_neg h]
      by_cases h2 : c < 2048
      · rw [if_pos h2]; simp; omega
      · rw [if_neg h2]
        by_cases h3 : c < 65536
        · rw [if_pos h3]; simp; omega
        · rw [if_neg h3]
          have e1 := B_eq (240 + c / 262144) x ⟨by omega, by omega⟩
          have e2 := B_eq (128 + c / 4096 % 64) y ⟨by omega, by omega⟩
          have e3 := B_eq (128 + c / 64 % 64) z ⟨by omega, by omega⟩
          have e4 := B_eq (128 + c % 64) t ⟨by omega, by omega⟩
          simp only [List.cons.injEq, and_true, e1, e2, e3, e4]
          omega
  · constructor
    · intro hh; omega
    · intro hh; omega
end Go.Proofs.Ytdhieolfdlkeaaa
