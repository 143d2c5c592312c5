/- Chapter 16, plain: numbers and their texts. -/
import Derived.Test.YtcphknmkjicpkaaDoorP17
import Derived.Lib.ParseIntB
namespace Go.Proofs.YtcphknmkjicpkaaDoor
set_option linter.unusedSimpArgs false
set_option linter.unusedVariables false
def dgB (b : UInt8) : Bool := decide (48 ≤ b.toNat ∧ b.toNat ≤ 57)
def bodM (t : List UInt8) : Bool := decide (t ≠ [] ∧ t.take 1 ≠ [48]) && t.all dgB
def canM (t : List UInt8) : Bool := decide (t = [48]) || bodM t
def negM (s : List UInt8) : Bool := decide (s.take 1 = [45])
def trM (s : List UInt8) : List UInt8 := if negM s = true then s.drop 1 else s
def formM (s : List UInt8) : Bool := decide (s = [48]) || bodM (trM s)
def numM (s : List UInt8) : Int := if negM s = true then -(decV (trM s) : Int) else decV (trM s)
theorem decV_acc (t : List UInt8) : ∀ a : Nat, t.foldl (fun a b => a * 10 + (b.toNat - 48)) a = a * 10 ^ t.length + decV t := by
  induction t with
  | nil => intro a; simp [decV]
  | cons b t ih =>
    intro a
    have h1 := ih (a * 10 + (b.toNat - 48))
    have h2 := ih (0 * 10 + (b.toNat - 48))
    simp only [List.foldl_cons, decV] at h1 h2 ⊢
    rw [h1, h2, List.length_cons, Nat.pow_succ, Nat.add_mul, Nat.zero_mul, Nat.zero_add, Nat.mul_assoc, Nat.mul_comm 10 (10 ^ t.length)]
    omega
theorem decV_cons (b : UInt8) (t : List UInt8) : decV (b :: t) = (b.toNat - 48) * 10 ^ t.length + decV t := by
  have := decV_acc t (b.toNat - 48)
  simpa [decV] using this
theorem decV_lt (t : List UInt8) (h : t.all dgB = true) : decV t < 10 ^ t.length := by
  induction t with
  | nil => simp [decV]
  | cons b t ih =>
    simp only [List.all_cons, Bool.and_eq_true, dgB, decide_eq_true_eq] at h
    have h1 := ih (by simpa [dgB] using h.2)
    rw [decV_cons, List.length_cons, Nat.pow_succ]
    have h2 : (b.toNat - 48) * 10 ^ t.length ≤ 9 * 10 ^ t.length := Nat.mul_le_mul_right _ (by omega)
    omega
theorem bod_cons {t : List UInt8} (h : bodM t = true) : ∃ b r, t = b :: r ∧ 49 ≤ b.toNat ∧ b.toNat ≤ 57 ∧ r.all dgB = true := by
  cases t with
  | nil => simp [bodM] at h
  | cons b r =>
    simp only [bodM, Bool.and_eq_true, decide_eq_true_eq, List.all_cons, dgB] at h
    obtain ⟨⟨_, h2⟩, h3, h4⟩ := h
    refine ⟨b, r, rfl, ?_, by omega, by simpa [dgB] using h4⟩
    have : b.toNat ≠ 48 := fun e => h2 (by simp; exact UInt8.toNat_inj.1 e)
    omega
theorem bod_all {t : List UInt8} (h : bodM t = true) : t.all dgB = true := by
  simp only [bodM, Bool.and_eq_true] at h; exact h.2
theorem decV_ge {t : List UInt8} (h : bodM t = true) : 10 ^ (t.length - 1) ≤ decV t := by
  obtain ⟨b, r, rfl, h1, _, _⟩ := bod_cons h
  rw [decV_cons, List.length_cons, Nat.add_sub_cancel]
  have : 1 * 10 ^ r.length ≤ (b.toNat - 48) * 10 ^ r.length := Nat.mul_le_mul_right _ (by omega)
  omega
theorem can_all {t : List UInt8} (h : canM t = true) : t.all dgB = true := by
  simp only [canM, Bool.or_eq_true, decide_eq_true_eq] at h
  rcases h with rfl | h
  · decide
  · exact bod_all h
theorem can_len {t : List UInt8} (h : canM t = true) : 1 ≤ t.length := by
  simp only [canM, Bool.or_eq_true, decide_eq_true_eq] at h
  rcases h with rfl | h
  · decide
  · obtain ⟨b, r, rfl, _⟩ := bod_cons h; simp
theorem lex_num : ∀ (t u : List UInt8), t.length = u.length → t.all dgB = true → u.all dgB = true → Op.bytesLess t u = decide (decV t < decV u) := by
  intro t
  induction t with
  | nil => intro u hl _ _; cases u with
    | nil => simp [Op.bytesLess, decV]
    | cons _ _ => simp at hl
  | cons a t ih =>
    intro u hl h1 h2
    cases u with
    | nil => simp at hl
    | cons b u =>
      simp only [List.length_cons, Nat.add_right_cancel_iff] at hl
      simp only [List.all_cons, Bool.and_eq_true] at h1 h2
      have hi := ih u hl h1.2 h2.2
      have l1 := decV_lt t h1.2
      have l2 := decV_lt u h2.2
      have d1 : 48 ≤ a.toNat ∧ a.toNat ≤ 57 := by simpa [dgB] using h1.1
      have d2 : 48 ≤ b.toNat ∧ b.toNat ≤ 57 := by simpa [dgB] using h2.1
      rw [bl_cons, hi, decV_cons, decV_cons, hl]
      rw [hl] at l1
      have hab : (a < b) ↔ a.toNat < b.toNat := Iff.rfl
      have heq : (a = b) ↔ a.toNat = b.toNat := UInt8.toNat_inj.symm
      rw [Bool.eq_iff_iff]
      simp only [Bool.or_eq_true, Bool.and_eq_true, decide_eq_true_eq, beq_iff_eq]
      rw [hab, heq]
      have m : ∀ x y : Nat, x < y → x * 10 ^ u.length + 10 ^ u.length ≤ y * 10 ^ u.length := fun x y h => by
        have := Nat.mul_le_mul_right (10 ^ u.length) (show x + 1 ≤ y from h)
        rw [Nat.add_mul, Nat.one_mul] at this; exact this
      constructor
      · rintro (h | ⟨h, h'⟩)
        · have := m (a.toNat - 48) (b.toNat - 48) (by omega); omega
        · rw [h]; omega
      · intro h
        by_cases hlt : a.toNat < b.toNat
        · exact .inl hlt
        · by_cases he : a.toNat = b.toNat
          · rw [he] at h; exact .inr ⟨he, by omega⟩
          · have := m (b.toNat - 48) (a.toNat - 48) (by omega); omega
def cmpL (t u : List UInt8) : Bool := if t.length ≠ u.length then decide (t.length < u.length) else Op.bytesLess t u
theorem can_lt {t u : List UInt8} (ht : canM t = true) (hu : canM u = true) (h : t.length < u.length) : decV t < decV u := by
  have h1 := decV_lt t (can_all ht)
  have h2 := can_len ht
  have hb : bodM u = true := by
    simp only [canM, Bool.or_eq_true, decide_eq_true_eq] at hu
    rcases hu with rfl | hu
    · have h' : t.length < 1 := h
      omega
    · exact hu
  have h3 := decV_ge hb
  have h4 : 10 ^ t.length ≤ 10 ^ (u.length - 1) := Nat.pow_le_pow_right (by omega) (by omega)
  omega
theorem cmpL_num {t u : List UInt8} (ht : canM t = true) (hu : canM u = true) : cmpL t u = decide (decV t < decV u) := by
  unfold cmpL
  by_cases h : t.length = u.length
  · rw [if_neg (not_not_intro h), lex_num t u h (can_all ht) (can_all hu)]
  · rw [if_pos h]
    by_cases hl : t.length < u.length
    · have := can_lt ht hu hl; simp [hl, this]
    · have := can_lt hu ht (by omega)
      simp only [hl, decide_false]
      symm; rw [decide_eq_false_iff_not]; omega
theorem can_inj {t u : List UInt8} (ht : canM t = true) (hu : canM u = true) (h : decV t = decV u) : t = u := by
  have h1 := cmpL_num ht hu
  have h2 := cmpL_num hu ht
  have hl : t.length = u.length := by
    rcases Nat.lt_trichotomy t.length u.length with hl | hl | hl
    · have := can_lt ht hu hl; omega
    · exact hl
    · have := can_lt hu ht hl; omega
  unfold cmpL at h1 h2
  rw [if_neg (not_not_intro hl)] at h1
  rw [if_neg (not_not_intro hl.symm)] at h2
  have h3 : cmpS t u = 0 := by
    unfold cmpS
    rw [h1, h2, h]; simp
  exact (ordS.zero t u).1 h3
def lessM (a b : List UInt8) : Bool := if ¬ (formM a = true ∧ formM b = true) then false else if negM a ≠ negM b then negM a else if negM a = true then cmpL (trM b) (trM a) else cmpL (trM a) (trM b)
theorem form_can {s : List UInt8} (h : formM s = true) : canM (trM s) = true ∧ (negM s = true → 1 ≤ decV (trM s)) := by
  simp only [formM, Bool.or_eq_true, decide_eq_true_eq] at h
  rcases h with rfl | h
  · exact ⟨by decide, fun h => by simp [negM] at h⟩
  · refine ⟨by simp [canM, h], fun _ => ?_⟩
    have h1 := decV_ge h
    have h2 : 0 < 10 ^ ((trM s).length - 1) := Nat.pos_of_ne_zero (by simp)
    omega
theorem less_num {a b : List UInt8} (ha : formM a = true) (hb : formM b = true) : lessM a b = decide (numM a < numM b) := by
  obtain ⟨ca, na⟩ := form_can ha
  obtain ⟨cb, nb⟩ := form_can hb
  unfold lessM numM
  rw [if_neg (not_not_intro ⟨ha, hb⟩)]
  cases h1 : negM a <;> cases h2 : negM b
  · rw [if_neg (by simp), if_neg (by simp), if_neg (by simp), if_neg (by simp), cmpL_num ca cb]; simp
  · rw [if_pos (by simp), if_neg (by simp), if_pos rfl]
    have := nb h2
    symm; rw [decide_eq_false_iff_not]; omega
  · rw [if_pos (by simp), if_pos rfl, if_neg (by simp)]
    have := na h1
    symm; rw [decide_eq_true_eq]; omega
  · rw [if_neg (by simp), if_pos rfl, if_pos rfl, if_pos rfl, cmpL_num cb ca]
    rw [Bool.eq_iff_iff]; simp only [decide_eq_true_eq]; omega
theorem tr_neg {s : List UInt8} (h : negM s = true) : s = 45 :: trM s := by
  have h2 : s.take 1 = [45] := by simpa [negM] using h
  cases s with
  | nil => simp at h2
  | cons b r => simp at h2; subst h2; simp [trM, h]
theorem tr_pos {s : List UInt8} (h : negM s = false) : trM s = s := by simp [trM, h]
theorem num_inj {a b : List UInt8} (ha : formM a = true) (hb : formM b = true) (h : numM a = numM b) : a = b := by
  obtain ⟨ca, na⟩ := form_can ha
  obtain ⟨cb, nb⟩ := form_can hb
  unfold numM at h
  cases h1 : negM a <;> cases h2 : negM b <;> simp only [h1, h2, if_pos, Bool.false_eq_true, if_false] at h
  · have := can_inj ca cb (by omega)
    rw [tr_pos h1, tr_pos h2] at this; exact this
  · have := nb h2; omega
  · have := na h1; omega
  · have := can_inj ca cb (by omega)
    rw [tr_neg h1, tr_neg h2, this]
theorem dig_dg {d : Nat} (h : d < 10) : dgB (UInt8.ofNat (48 + d)) = true := by
  simp only [dgB, decide_eq_true_eq, UInt8.toNat_ofNat']; omega
theorem dec_bod : ∀ (n u : Nat), u ≤ n → 1 ≤ u → bodM (Lib.decDigits u) = true := by
  intro n
  induction n with
  | zero => intro u h1 h2; omega
  | succ n ih =>
    intro u h1 h2
    rw [Lib.decDigits]
    by_cases h : u < 10
    · rw [dif_pos h]
      simp only [bodM, Bool.and_eq_true, decide_eq_true_eq, List.all_cons, List.all_nil, Bool.and_true]
      refine ⟨⟨by simp, fun e => ?_⟩, dig_dg h⟩
      simp only [List.take_succ_cons, List.take_zero, List.cons.injEq, and_true] at e
      have := congrArg UInt8.toNat e
      rw [UInt8.toNat_ofNat'] at this
      have h3 : (48 : UInt8).toNat = 48 := rfl
      omega
    · rw [dif_neg h]
      have hb := ih (u / 10) (by omega) (by omega)
      obtain ⟨b, r, e, g1, g2, g3⟩ := bod_cons hb
      rw [e]
      simp only [bodM, Bool.and_eq_true, decide_eq_true_eq, List.cons_append, List.all_cons, List.all_append, List.all_nil, Bool.and_true]
      refine ⟨⟨by simp, fun e2 => ?_⟩, by simp only [dgB, decide_eq_true_eq]; omega, g3, dig_dg (by omega)⟩
      simp only [List.take_succ_cons, List.take_zero, List.cons.injEq, and_true] at e2
      subst e2
      have h3 : (48 : UInt8).toNat = 48 := rfl
      omega
theorem itoa_tr (n : Int) : negM (Lib.itoa n) = decide (n < 0) ∧ trM (Lib.itoa n) = Lib.decDigits n.natAbs := by
  unfold Lib.itoa
  by_cases h : n < 0
  · rw [if_pos h]; simp [negM, trM, h]
  · rw [if_neg h]
    obtain ⟨d, r, hd, e⟩ := dec_head n.toNat _ (Nat.le_refl _)
    have hn : negM (Lib.decDigits n.toNat) = false := by
      rw [e]
      unfold negM
      rw [decide_eq_false_iff_not]
      intro h2
      simp only [List.take_succ_cons, List.take_zero, List.cons.injEq, and_true] at h2
      exact dig_ne hd h2
    have ha : n.natAbs = n.toNat := by omega
    rw [ha, tr_pos hn, hn]; simp [h]
theorem itoa_form (n : Int) : formM (Lib.itoa n) = true := by
  obtain ⟨h1, h2⟩ := itoa_tr n
  by_cases h0 : n = 0
  · subst h0
    have : Lib.itoa 0 = [48] := by
      unfold Lib.itoa
      rw [if_neg (by omega), Lib.decDigits, dif_pos (by decide)]; rfl
    rw [this]; rfl
  · simp only [formM, Bool.or_eq_true]
    right
    rw [h2]; exact dec_bod _ _ (Nat.le_refl _) (by omega)
theorem itoa_num (n : Int) : numM (Lib.itoa n) = n := by
  obtain ⟨h1, h2⟩ := itoa_tr n
  unfold numM
  rw [h1, h2, decV_dec _ _ (Nat.le_refl _)]
  by_cases h : n < 0
  · simp [h]; omega
  · simp [h]; omega
theorem num_itoa {s : List UInt8} (h : formM s = true) : Lib.itoa (numM s) = s := num_inj (itoa_form _) h (itoa_num _)
def parM (s : List UInt8) : Int × Int := if formM s = false then (0, 17) else if -9223372036854775808 ≤ numM s ∧ numM s ≤ 9223372036854775807 then (numM s, 0) else (0, 18)
theorem par_itoa {n : Int} (h0 : -9223372036854775808 ≤ n) (h1 : n ≤ 9223372036854775807) : parM (Lib.itoa n) = (n, 0) := by
  unfold parM; rw [itoa_form, itoa_num, if_neg (by simp), if_pos ⟨h0, h1⟩]
theorem itoa_par {s : List UInt8} (h : (parM s).2 = 0) : Lib.itoa (parM s).1 = s := by
  unfold parM at h ⊢
  by_cases hf : formM s = false
  · rw [if_pos hf] at h; simp at h
  · rw [if_neg hf] at h ⊢
    by_cases hr : -9223372036854775808 ≤ numM s ∧ numM s ≤ 9223372036854775807
    · rw [if_pos hr]; exact num_itoa (by simpa using hf)
    · rw [if_neg hr] at h; simp at h
theorem pum (t : List UInt8) (h : t.all dgB = true) : ∀ acc : Nat, acc ≤ 18446744073709551615 → Lib.parseUintM 18446744073709551615 acc t = if acc * 10 ^ t.length + decV t ≤ 18446744073709551615 then .ok (acc * 10 ^ t.length + decV t) else .range := by
  induction t with
  | nil => intro acc ha; simp [Lib.parseUintM, decV, ha]
  | cons b t ih =>
    intro acc ha
    simp only [List.all_cons, Bool.and_eq_true] at h
    have hd : 48 ≤ b.toNat ∧ b.toNat ≤ 57 := by simpa [dgB] using h.1
    have e : acc * 10 ^ (b :: t).length + decV (b :: t) = (acc * 10 + (b.toNat - 48)) * 10 ^ t.length + decV t := by
      rw [decV_cons, List.length_cons, Nat.pow_succ, Nat.add_mul, Nat.mul_assoc, Nat.mul_comm 10 (10 ^ t.length)]; omega
    have hp : 1 ≤ 10 ^ t.length := Nat.pos_of_ne_zero (by simp)
    have hm : acc * 10 + (b.toNat - 48) ≤ (acc * 10 + (b.toNat - 48)) * 10 ^ t.length := by
      have := Nat.mul_le_mul_left (acc * 10 + (b.toNat - 48)) hp
      omega
    rw [e, Lib.parseUintM, if_pos hd]
    by_cases h1 : 1844674407370955162 ≤ acc
    · rw [if_pos h1, if_neg (by omega)]
    · rw [if_neg h1]
      by_cases h2 : 18446744073709551615 < acc * 10 + (b.toNat - 48)
      · rw [if_pos h2, if_neg (by omega)]
      · rw [if_neg h2]; exact ih h.2 _ (by omega)
theorem pint {s : List UInt8} (h : formM s = true) : Lib.parseIntB 64 s = if -9223372036854775808 ≤ numM s ∧ numM s ≤ 9223372036854775807 then .ok (numM s) else .range := by
  obtain ⟨ca, na⟩ := form_can h
  have hl := can_len ca
  have hu : Lib.parseUintB 64 (trM s) = if decV (trM s) ≤ 18446744073709551615 then .ok (decV (trM s)) else .range := by
    unfold Lib.parseUintB
    rw [if_neg (fun e => by rw [e] at hl; simp at hl)]
    have := pum (trM s) (can_all ca) 0 (by omega)
    simpa using this
  cases hn : negM s
  · have ht := tr_pos hn
    rw [ht] at hu ca hl
    have e : numM s = decV s := by unfold numM; rw [hn, ht]; simp
    rw [e]
    cases s with
    | nil => simp at hl
    | cons b r =>
      have hb := can_all ca
      simp only [List.all_cons, Bool.and_eq_true, dgB, decide_eq_true_eq] at hb
      have n45 : ¬ b.toNat = 45 := by omega
      have c1 : ¬ (b.toNat = 43 ∨ b.toNat = 45) := by omega
      simp only [Lib.parseIntB]
      rw [if_neg c1, hu]
      by_cases h1 : decV (b :: r) ≤ 18446744073709551615
      · rw [if_pos h1]
        simp only [n45, not_false_eq_true, true_and, false_and, if_false]
        by_cases h2 : 2 ^ (64 - 1) ≤ decV (b :: r)
        · rw [if_pos h2, if_neg (by omega)]
        · rw [if_neg h2, if_pos (by omega)]
      · rw [if_neg h1, if_neg (by omega)]
  · have ht := tr_neg hn
    have hna := na hn
    have e : numM s = -(decV (trM s) : Int) := by unfold numM; rw [hn]; simp
    rw [e]
    generalize trM s = t at *
    subst ht
    have n45 : (45 : UInt8).toNat = 45 := rfl
    simp only [Lib.parseIntB]
    rw [if_pos (show (45 : UInt8).toNat = 43 ∨ (45 : UInt8).toNat = 45 from Or.inr rfl), hu]
    by_cases h1 : decV t ≤ 18446744073709551615
    · rw [if_pos h1]
      simp only [n45, not_true_eq_false, false_and, if_false, true_and, if_true]
      by_cases h2 : 2 ^ (64 - 1) < decV t
      · rw [if_pos h2, if_neg (by omega)]
      · rw [if_neg h2, if_pos (by omega)]
    · rw [if_neg h1, if_neg (by omega)]
end Go.Proofs.YtcphknmkjicpkaaDoor
