/- Chapter 02 (utf), plain: the four laws. -/
import Derived.Test.YtdhieolfdlkeaaaM02
namespace Go.Proofs.Ytdhieolfdlkeaaa
set_option linter.unusedSimpArgs false
set_option linter.unusedVariables false

theorem run_app (b : List UInt8) : ∀ (a : List UInt8) (st : Int), runM st (a ++ b) = if (runM st a).2 < a.length then runM st a else ((runM (runM st a).1 b).1, a.length + (runM (runM st a).1 b).2) := by
  intro a
  induction a with
  | nil => intro st; simp [runM]
  | cons x a ih =>
    intro st
    rcases hq : stepM st x.toNat with ⟨s, ok⟩
    cases ok with
    | true =>
      rw [List.cons_append, run_y hq, run_y hq, ih]
      by_cases h : (runM s a).2 < a.length
      · rw [if_pos h, if_pos (by simpa using h)]
      · rw [if_neg h, if_neg (by simpa using h)]
        simp only [List.length_cons]
        congr 1
        omega
    | false => rw [List.cons_append, run_n hq, run_n hq]; simp
theorem run_le : ∀ (a : List UInt8) (st : Int), (runM st a).2 ≤ a.length := by
  intro a
  induction a with
  | nil => intro st; simp [runM]
  | cons x a ih =>
    intro st
    rcases hq : stepM st x.toNat with ⟨s, ok⟩
    cases ok with
    | true => rw [run_y hq]; have := ih s; simp only [List.length_cons]; omega
    | false => rw [run_n hq]; simp
theorem pieces (s : List UInt8) (k : Nat) (hk : k ≤ s.length) :
    ((runM 0 (s.take k)).2 < k → (runM 0 s).2 = (runM 0 (s.take k)).2 ∧ (runM 0 s).1 = (runM 0 (s.take k)).1) ∧
    (¬ (runM 0 (s.take k)).2 < k → (runM 0 s).2 = (runM 0 (s.take k)).2 + (runM (runM 0 (s.take k)).1 (s.drop k)).2 ∧ (runM 0 s).1 = (runM (runM 0 (s.take k)).1 (s.drop k)).1) := by
  have h := run_app (s.drop k) (s.take k) 0
  rw [List.take_append_drop] at h
  have hl : (s.take k).length = k := by simp; omega
  have hle := run_le (s.take k) 0
  rw [hl] at h hle
  constructor
  · intro hm; rw [if_pos hm] at h; rw [h]; exact ⟨rfl, rfl⟩
  · intro hm; rw [if_neg hm] at h; rw [h]; exact ⟨by show k + _ = _; omega, rfl⟩

theorem whole_run : ∀ (n : Nat) (l : List UInt8), l.length ≤ n → (runM 0 l).1 = (runM 0 (l.drop (wholeM l))).1 ∧ (runM 0 l).2 = wholeM l + (runM 0 (l.drop (wholeM l))).2 ∧ sizeM (l.drop (wholeM l)) = 0 ∧ ∀ i, longM 0 i i l = i + wholeM l := by
  intro n
  induction n with
  | zero =>
    intro l h
    obtain rfl : l = [] := List.length_eq_zero_iff.1 (by omega)
    rw [wholeM_no [] (by simp)]
    exact ⟨rfl, rfl, rfl, fun i => rfl⟩
  | succ n ih =>
    intro l h
    by_cases hh : l ≠ [] ∧ 0 < sizeM l
    · have A := alive_of l hh.2
      obtain ⟨i1, i2, i3, i4⟩ := ih (l.drop (sizeM l)) (by simp; omega)
      rw [wholeM_yes l hh.1 hh.2, ← List.drop_drop]
      exact ⟨by rw [A.r1, i1], by rw [A.r2, i2]; omega, i3, fun i => by rw [A.lng, i4]; omega⟩
    · rw [wholeM_no l hh]
      by_cases hl : l = []
      · subst hl; exact ⟨rfl, rfl, rfl, fun i => rfl⟩
      · have h0 : sizeM l = 0 := by
          rcases Nat.eq_zero_or_pos (sizeM l) with e | e
          · exact e
          · exact absurd ⟨hl, e⟩ hh
        obtain ⟨m, D⟩ := dead_of l hl h0
        exact ⟨rfl, by simp, h0, fun i => D.lng i i⟩
theorem badF_no (r : List UInt8) (m : Nat) (hy : ∀ n, 1 ≤ n → n ≤ m → GoesM (r.take n) = true) (hn : GoesM (r.take (m + 1)) = false) (hm : m < r.length) : ∀ (f n : Nat), 1 ≤ n → n ≤ m + 1 → m + 2 ≤ f + n → badF f n r = m + 1 := by
  intro f
  induction f with
  | zero => intro n h1 h2 h3; omega
  | succ f ih =>
    intro n h1 h2 h3
    rw [badF, if_pos (by omega)]
    by_cases e : n = m + 1
    · subst e; rw [if_neg (by rw [hn]; simp)]
    · rw [if_pos (hy n h1 (by omega))]
      exact ih (n + 1) (by omega) (by omega) (by omega)
theorem badF_yes (r : List UInt8) (hy : ∀ n, 1 ≤ n → n ≤ r.length → GoesM (r.take n) = true) : ∀ (f n : Nat), 1 ≤ n → badF f n r = 0 := by
  intro f
  induction f with
  | zero => intro n _; rfl
  | succ f ih =>
    intro n h1
    rw [badF]
    split
    · rename_i h
      rw [if_pos (hy n h1 h)]
      exact ih (n + 1) (by omega)
    · rfl
theorem bads (s : List UInt8) : badM s = (if 0 ≤ rbadM s then (3, rbadM s) else if wholeM s < s.length then (12, (s.length : Int)) else (0, 0)) ∧ validM s = (wholeM s == s.length) ∧ longM 0 0 0 s = wholeM s := by
  obtain ⟨h1, h2, h3, h4⟩ := whole_run _ s (Nat.le_refl _)
  have hle := wholeM_le _ s (Nat.le_refl _)
  have hlen : (s.drop (wholeM s)).length = s.length - wholeM s := by simp
  have hlong : longM 0 0 0 s = wholeM s := by rw [h4 0]; omega
  by_cases hr : s.drop (wholeM s) = []
  · have hw : wholeM s = s.length := by rw [hr] at hlen; simp at hlen; omega
    rw [hr] at h1 h2
    have e1 : (runM 0 s).1 = 0 := h1
    have e2 : (runM 0 s).2 = s.length := by rw [h2, hw]; rfl
    have e3 : rbadM s = -1 := by
      unfold rbadM
      rw [hr, badF_yes [] (fun n h1 h2 => by simp at h2; omega) _ 1 (Nat.le_refl _)]; rfl
    refine ⟨?_, ?_, hlong⟩
    · rw [e3, badM, e1, e2, if_neg (by omega), if_neg (by simp), if_neg (by omega), if_neg (by omega)]
    · simp [validM, e1, e2, hw]
  · obtain ⟨m, D⟩ := dead_of _ hr h3
    have hpos : 0 < s.length - wholeM s := by rw [← hlen]; exact List.length_pos_iff.2 hr
    have e2 : (runM 0 s).2 = wholeM s + m := by rw [h2, D.run]
    have hml := D.le
    rw [hlen] at hml
    have hv : validM s = (wholeM s == s.length) := by
      have : (wholeM s == s.length) = false := by simp; omega
      rw [this]
      simp only [validM, e2, Bool.and_eq_false_iff, beq_eq_false_iff_ne, ne_eq]
      by_cases e : m = s.length - wholeM s
      · right; rw [h1]; exact D.st (by rw [hlen]; exact e)
      · left; omega
    refine ⟨?_, hv, hlong⟩
    by_cases e : m = s.length - wholeM s
    · have e3 : rbadM s = -1 := by
        unfold rbadM
        rw [badF_yes _ (fun n a b => D.yes n a (by rw [hlen] at b; omega)) _ 1 (Nat.le_refl _)]; rfl
      have e1 : (runM 0 s).1 ≠ 0 := by rw [h1]; exact D.st (by rw [hlen]; exact e)
      rw [e3, badM, e2, if_neg (by omega), if_pos e1, if_neg (by omega), if_pos (by omega)]
      congr 1
      omega
    · have e3 : rbadM s = wholeM s + m := by
        unfold rbadM
        rw [badF_no _ m D.yes (D.no (by rw [hlen]; omega)) (by rw [hlen]; omega) _ 1 (Nat.le_refl _) (by omega) (by omega), if_neg (by omega)]
        omega
      rw [e3, badM, e2, if_pos (by omega), if_pos (by omega)]
      congr 1

theorem valid_run {a : List UInt8} (h : validM a = true) : (runM 0 a).2 = a.length ∧ (runM 0 a).1 = 0 := by simpa [validM] using h
theorem long_shift (b : List UInt8) (d : Nat) : ∀ (st : Int) (best i : Nat), longM st (d + best) (d + i) b = d + longM st best i b := by
  induction b with
  | nil => intro st best i; rfl
  | cons x b ih =>
    intro st best i
    rcases hq : stepM st x.toNat with ⟨s, ok⟩
    cases ok with
    | true =>
      rw [long_y hq, long_y hq, ← ih]
      by_cases e : s = 0
      · rw [if_pos e, if_pos e]; congr 1
      · rw [if_neg e, if_neg e]; congr 1
    | false => rw [long_n hq, long_n hq]
theorem long_app (b : List UInt8) : ∀ (a : List UInt8) (st : Int) (best i : Nat), (runM st a).2 = a.length → longM st best i (a ++ b) = longM (runM st a).1 (longM st best i a) (i + a.length) b := by
  intro a
  induction a with
  | nil => intro st best i _; rfl
  | cons x a ih =>
    intro st best i h
    rcases hq : stepM st x.toNat with ⟨s, ok⟩
    cases ok with
    | true =>
      rw [run_y hq] at h
      simp only [List.length_cons] at h
      rw [List.cons_append, long_y hq, long_y hq, run_y hq, ih s _ _ (by omega)]
      simp only [List.length_cons]
      congr 1
      omega
    | false => rw [run_n hq] at h; simp at h
theorem valid_app (a b : List UInt8) (h : validM a = true) : validM (a ++ b) = validM b ∧ longM 0 0 0 (a ++ b) = a.length + longM 0 0 0 b := by
  obtain ⟨h1, h2⟩ := valid_run h
  have hr := run_app b a 0
  rw [if_neg (by omega), h2] at hr
  have hla : longM 0 0 0 a = a.length := by
    have := (bads a).2
    rw [this.2]
    have hv := this.1
    rw [h] at hv
    simpa using hv.symm
  constructor
  · simp only [validM, hr, List.length_append]
    congr 1
    rw [Bool.eq_iff_iff]
    simp only [beq_iff_eq]
    omega
  · rw [long_app b a 0 0 0 h1, h2, hla]
    have := long_shift b a.length 0 0 0
    simpa using this
theorem valid_one (a : List UInt8) (c : UInt8) (h : validM a = true) : validM (a ++ [c]) = decide ((c.toNat : Int) < 128) := by
  rw [(valid_app a [c] h).1]
  have hc := c.toNat_lt
  by_cases h1 : (c.toNat : Int) ≤ 127
  · have e := run_y (st := 0) (l := []) (ascii c.toNat h1)
    have : decide ((c.toNat : Int) < 128) = true := decide_eq_true (by omega)
    rw [this]; simp only [validM, e]; rfl
  · have : decide ((c.toNat : Int) < 128) = false := decide_eq_false (by omega)
    rw [this]
    by_cases hl : 194 ≤ (c.toNat : Int) ∧ (c.toNat : Int) ≤ 244
    · obtain ⟨s, lo, hi, k, L⟩ := lead_of _ hl
      have e := run_y (l := []) L.st
      simp only [validM, e, run_nil, Bool.and_eq_false_iff, beq_eq_false_iff_ne]
      right; exact L.nz
    · have e := run_n (st := 0) (l := []) (nolead c.toNat (by omega) hl)
      simp [validM, e]
/-- Of each state, each byte. -/
def goesS (s : Nat) (b : UInt8) : Bool := if 1 ≤ s ∧ s ≤ 3 then decide (128 ≤ (b.toNat : Int) ∧ (b.toNat : Int) ≤ 191) else GoesM (beginS s ++ [b])
def wantS (s : Nat) (b : UInt8) : Int := if 1 ≤ s ∧ s ≤ 3 then s - 1 else stateM (beginS s ++ [b])
theorem steps0 (b : UInt8) : (GoesM [b] = true → stepM 0 b.toNat = (stateM [b], true)) ∧ (GoesM [b] = false → stepM 0 b.toNat = (0, false)) := by
  have hb := b.toNat_lt
  have hbat : bat [b] 0 = b.toNat := rfl
  by_cases h1 : (b.toNat : Int) ≤ 127
  · have hs := sizeM_1 b [] h1
    have hg : GoesM [b] = true := by simp [GoesM, hs]
    refine ⟨fun _ => by rw [ascii _ h1, stateM, if_pos (.inr (by rw [hs]; rfl))], fun h => by rw [hg] at h; cases h⟩
  · have hs := sizeM_x b h1
    by_cases hl : 194 ≤ (b.toNat : Int) ∧ (b.toNat : Int) ≤ 244
    · obtain ⟨s, lo, hi, k, L⟩ := lead_of _ hl
      refine ⟨fun _ => ?_, (fun h => by rw [goes1 L] at h; cases h)⟩
      have hn : ¬ ([b] = [] ∨ sizeM [b] = [b].length) := by rw [hs]; simp
      have e : stepM 0 b.toNat = beginM b.toNat := by simp [stepM]
      rw [e]
      unfold stateM
      rw [if_neg hn, hbat]
      simp only [List.length_cons, List.length_nil, Nat.zero_add, true_and]
      unfold beginM
      by_cases a1 : (b.toNat : Int) ≤ 223
      · simp (disch := omega) only [if_pos, if_neg]; simp
      by_cases a2 : (b.toNat : Int) = 224
      · simp (disch := omega) only [if_pos, if_neg]
      by_cases a3 : (b.toNat : Int) = 237
      · simp (disch := omega) only [if_pos, if_neg]
      by_cases a4 : (b.toNat : Int) ≤ 239
      · simp (disch := omega) only [if_pos, if_neg]; simp
      by_cases a5 : (b.toNat : Int) = 240
      · simp (disch := omega) only [if_pos, if_neg]
      by_cases a6 : (b.toNat : Int) ≤ 243
      · simp (disch := omega) only [if_pos, if_neg]; simp
      · simp (disch := omega) only [if_pos, if_neg]
    · exact ⟨(fun h => by rw [goes0 (by omega) hl] at h; cases h), fun _ => nolead _ (by omega) hl⟩
theorem steps4 (x b : UInt8) (s lo hi k : Int) (L : Lead x.toNat s lo hi k) (hk : k ≠ 0) (hst : stateM [x, b] = k) : (GoesM [x, b] = true → stepM s b.toNat = (stateM [x, b], true)) ∧ (GoesM [x, b] = false → stepM s b.toNat = (0, false)) := by
  by_cases hy : lo ≤ (b.toNat : Int) ∧ (b.toNat : Int) ≤ hi
  · exact ⟨fun _ => by rw [L.nx, fol_y hy, hst], (fun h => by rw [goes2 L hy] at h; cases h)⟩
  · exact ⟨(fun h => by rw [goes2f L hy] at h; cases h), fun _ => by rw [L.nx, fol_n hy]⟩
theorem state2 (x b : UInt8) (k : Int) (hx : (x.toNat : Int) = 224 ∨ (x.toNat : Int) = 237 ∨ (x.toNat : Int) = 240 ∨ (x.toNat : Int) = 244) (hk : k = if 240 ≤ (x.toNat : Int) then 2 else 1) : stateM [x, b] = k := by
  have h2 : ¬ ok2 x.toNat b.toNat := by unfold ok2; omega
  have hs := sizeM_xy x b (by omega) h2
  have hbat : bat [x, b] 0 = x.toNat := rfl
  unfold stateM
  rw [if_neg (by rw [hs]; simp), hbat]
  simp only [List.length_cons, List.length_nil]
  rw [hk]
  rcases hx with h | h | h | h <;> simp [h]
theorem mkLead (x s lo hi k : Int) (h : 194 ≤ x ∧ x ≤ 244) (h1 : beginM x = (s, true)) (h2 : s ≠ 0) (h3 : ∀ y, stepM s y = followM y lo hi k) (h4 : k = 0 ∨ k = 1 ∨ k = 2) (h5 : 128 ≤ lo ∧ lo ≤ hi ∧ hi ≤ 191)
    (h6 : ∀ y, ok2 x y ↔ k = 0 ∧ lo ≤ y ∧ y ≤ hi) (h7 : ∀ y z, ok3 x y z ↔ k = 1 ∧ (lo ≤ y ∧ y ≤ hi) ∧ 128 ≤ z ∧ z ≤ 191) (h8 : ∀ y z t, ok4 x y z t ↔ k = 2 ∧ (lo ≤ y ∧ y ≤ hi) ∧ (128 ≤ z ∧ z ≤ 191) ∧ 128 ≤ t ∧ t ≤ 191) : Lead x s lo hi k :=
  ⟨by simpa [stepM] using h1, h2, h3, h4, h5, h6, h7, h8, h⟩
theorem L4' (x : Int) (h : x = 224) : Lead x 4 160 191 1 := by
  refine mkLead _ _ _ _ _ (by omega) (by unfold beginM; simp (disch := omega) only [if_pos, if_neg]) (by omega) (fun y => rfl) (by omega) (by omega) ?_ ?_ ?_ <;> intros <;> simp only [ok2, ok3, ok4, true_and, false_and, iff_false] <;> omega
theorem L4 : Lead 224 4 160 191 1 := L4' 224 rfl
theorem L5' (x : Int) (h : x = 237) : Lead x 5 128 159 1 := by
  refine mkLead _ _ _ _ _ (by omega) (by unfold beginM; simp (disch := omega) only [if_pos, if_neg]) (by omega) (fun y => rfl) (by omega) (by omega) ?_ ?_ ?_ <;> intros <;> simp only [ok2, ok3, ok4, true_and, false_and, iff_false] <;> omega
theorem L5 : Lead 237 5 128 159 1 := L5' 237 rfl
theorem L6' (x : Int) (h : x = 240) : Lead x 6 144 191 2 := by
  refine mkLead _ _ _ _ _ (by omega) (by unfold beginM; simp (disch := omega) only [if_pos, if_neg]) (by omega) (fun y => rfl) (by omega) (by omega) ?_ ?_ ?_ <;> intros <;> simp only [ok2, ok3, ok4, true_and, false_and, iff_false] <;> omega
theorem L6 : Lead 240 6 144 191 2 := L6' 240 rfl
theorem L7' (x : Int) (h : x = 244) : Lead x 7 128 143 2 := by
  refine mkLead _ _ _ _ _ (by omega) (by unfold beginM; simp (disch := omega) only [if_pos, if_neg]) (by omega) (fun y => rfl) (by omega) (by omega) ?_ ?_ ?_ <;> intros <;> simp only [ok2, ok3, ok4, true_and, false_and, iff_false] <;> omega
theorem L7 : Lead 244 7 128 143 2 := L7' 244 rfl
theorem steps123 (s : Nat) (b : UInt8) (k : Int) (h : 1 ≤ s ∧ s ≤ 3) (hk : k = s - 1) (hs : ∀ y, stepM s y = followM y 128 191 k) : (goesS s b = true → stepM s b.toNat = (wantS s b, true)) ∧ (goesS s b = false → stepM s b.toNat = (0, false)) := by
  refine ⟨fun e => ?_, fun e => ?_⟩
  · rw [goesS, if_pos h] at e
    rw [hs, fol_y (of_decide_eq_true e), wantS, if_pos h, hk]
  · rw [goesS, if_pos h] at e
    rw [hs, fol_n (of_decide_eq_false e)]
theorem steps4567 (s : Nat) (b x : UInt8) (si lo hi k : Int) (h : ¬ (1 ≤ s ∧ s ≤ 3)) (hs : (s : Int) = si) (hbs : beginS s = [x]) (L : Lead x.toNat si lo hi k) (hk : k ≠ 0) (hst : stateM [x, b] = k) :
    (goesS s b = true → stepM s b.toNat = (wantS s b, true)) ∧ (goesS s b = false → stepM s b.toNat = (0, false)) := by
  have := steps4 x b si lo hi k L hk hst
  rw [goesS, if_neg h, wantS, if_neg h, hbs, hs]
  exact this
theorem steps (s : Nat) (b : UInt8) (hs : s < 8) : (goesS s b = true → stepM s b.toNat = (wantS s b, true)) ∧ (goesS s b = false → stepM s b.toNat = (0, false)) := by
  obtain rfl | rfl | rfl | rfl | rfl | rfl | rfl | rfl : s = 0 ∨ s = 1 ∨ s = 2 ∨ s = 3 ∨ s = 4 ∨ s = 5 ∨ s = 6 ∨ s = 7 := by omega
  · rw [goesS, if_neg (by omega), wantS, if_neg (by omega)]
    exact steps0 b
  · exact steps123 1 b 0 (by omega) (by omega) fun y => rfl
  · exact steps123 2 b 1 (by omega) (by omega) fun y => rfl
  · exact steps123 3 b 2 (by omega) (by omega) fun y => rfl
  · exact steps4567 4 b 0xe0 4 160 191 1 (by omega) rfl rfl L4 (by omega) (state2 _ _ _ (.inl rfl) (by decide))
  · exact steps4567 5 b 0xed 5 128 159 1 (by omega) rfl rfl L5 (by omega) (state2 _ _ _ (.inr (.inl rfl)) (by decide))
  · exact steps4567 6 b 0xf0 6 144 191 2 (by omega) rfl rfl L6 (by omega) (state2 _ _ _ (.inr (.inr (.inl rfl))) (by decide))
  · exact steps4567 7 b 0xf4 7 128 143 2 (by omega) rfl rfl L7 (by omega) (state2 _ _ _ (.inr (.inr (.inr rfl))) (by decide))
end Go.Proofs.Ytdhieolfdlkeaaa
