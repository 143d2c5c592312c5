/- Chapter 17: fields back to values, plain; the reference's Encode and Decode, walked; the laws. -/
import Derived.Test.YtilfcgnepgacpaaDoorZ17
import Derived.Test.YtilfcgnepgacpaaDoorY17
namespace Go.Proofs.YtilfcgnepgacpaaDoor
set_option linter.unusedSimpArgs false
set_option linter.unusedVariables false
open Go.RowKit
theorem valid_92 (s : Str) : validM (92 :: s) = validM s := (valid_app [92] s (by decide +kernel)).1
theorem mkd_iff (s : Str) : mkdM s = true ↔ s = [] ∨ ∃ r, s = 92 :: r := by
  simp only [mkdM, decide_eq_true_eq]
  cases s with
  | nil => simp
  | cons b r => simp
theorem dec_enc (v : Val) (k : Int) (nl : Bool) (hn : i64M v.n) (h : (encM v k nl).2 = 0) : deM (encM v k nl).1 k nl = (v, 0) := by
  unfold encM at h ⊢
  by_cases hk : ¬ (1 ≤ k ∧ k ≤ 3)
  · rw [if_pos hk] at h; simp at h
  rw [if_neg hk] at h ⊢
  by_cases hr : ¬ (rightM v = true ∧ (v.kind = 0 ∨ v.kind = k))
  · rw [if_pos hr] at h; simp at h
  rw [if_neg hr] at h ⊢
  simp only [Decidable.not_not] at hk hr
  have hri := (right_iff v).1 hr.1
  unfold deM
  rw [if_neg (not_not_intro hk)]
  by_cases h0 : v.kind = 0
  · rw [if_pos h0] at h ⊢
    have hnl : nl = true := by
      cases nl with
      | true => rfl
      | false => simp at h
    have hz : v = ⟨0, [], 0, false⟩ := by
      rcases hri with ⟨a, b, c, d⟩ | ⟨a, _⟩ | ⟨a, _⟩ | ⟨a, _⟩
      · exact val_ext a b c d
      · omega
      · omega
      · omega
    subst hnl
    simp [hz]
  · rw [if_neg h0] at h ⊢
    have hvk : v.kind = k := hr.2.resolve_left h0
    by_cases h2 : v.kind = 2
    · rw [if_pos h2]
      have e : v = ⟨2, [], v.n, false⟩ := by
        rcases hri with ⟨a, _⟩ | ⟨a, _⟩ | ⟨a, b, c⟩ | ⟨a, _⟩
        · omega
        · omega
        · exact val_ext a b rfl c
        · omega
      have hp := par_itoa hn.1 hn.2
      have hne := itoa_ne v.n
      simp only [hne, and_false, if_false]
      rw [if_pos (by omega), hp]
      simp [← e]
    · rw [if_neg h2] at h ⊢
      by_cases h3 : v.kind = 3
      · rw [if_pos h3]
        have e : v = ⟨3, [], 0, v.b⟩ := by
          rcases hri with ⟨a, _⟩ | ⟨a, _⟩ | ⟨a, _⟩ | ⟨a, b, c⟩
          · omega
          · omega
          · omega
          · exact val_ext a b c rfl
        have k2 : ¬ k = 2 := by omega
        have k3 : k = 3 := by omega
        cases hb : v.b <;> rw [hb] at e <;> simp [k3, e]
      · rw [if_neg h3] at h ⊢
        have k2 : ¬ k = 2 := by omega
        have k3 : ¬ k = 3 := by omega
        obtain ⟨hv1, e⟩ : validM v.s = true ∧ v = ⟨1, v.s, 0, false⟩ := by
          rcases hri with ⟨a, _⟩ | ⟨a, b, c, d⟩ | ⟨a, _⟩ | ⟨a, _⟩
          · omega
          · exact ⟨b, val_ext a rfl c d⟩
          · omega
          · omega
        by_cases hm : nl = true ∧ mkdM v.s = true
        · rw [if_pos hm]
          have h92 : validM (92 :: v.s) = true := by rw [valid_92]; exact hv1
          have hq : ¬ (v.s ≠ [] ∧ ¬ v.s.take 1 = [92]) := by
            intro hq
            have := hm.2
            simp only [mkdM, decide_eq_true_eq] at this
            rcases this with h | h
            · exact hq.1 h
            · exact hq.2 h
          simp only [reduceCtorEq, and_false, if_false, k2, k3, h92, Bool.true_eq_false, hm.1, List.take_succ_cons, List.take_zero, not_true_eq_false, or_self, List.drop_succ_cons, List.drop_zero, hq]
          rw [← e]
        · rw [if_neg hm]
          have hs0 : ¬ (nl = true ∧ v.s = []) := fun hq => hm ⟨hq.1, by simp [mkdM, hq.2]⟩
          have hs1 : nl = false ∨ ¬ v.s.take 1 = [92] := by
            cases nl with
            | false => exact .inl rfl
            | true => exact .inr fun hq => hm ⟨rfl, by simp [mkdM, hq]⟩
          simp only [hs0, if_false, k2, k3, hv1, Bool.true_eq_false, if_pos hs1]
          rw [← e]
theorem enc_dec (s : Str) (k : Int) (nl : Bool) (h : (deM s k nl).2 = 0) : rightM (deM s k nl).1 = true ∧ encM (deM s k nl).1 k nl = (s, 0) := by
  unfold deM at h ⊢
  by_cases hk : ¬ (1 ≤ k ∧ k ≤ 3)
  · rw [if_pos hk] at h; simp at h
  rw [if_neg hk] at h ⊢
  simp only [Decidable.not_not] at hk
  have en : ∀ v : Val, rightM v = true → (v.kind = 0 ∨ v.kind = k) → encM v k nl = if v.kind = 0 then (if nl = true then ([], 0) else ([], 20)) else if v.kind = 2 then (Lib.itoa v.n, 0) else if v.kind = 3 then ((if v.b = true then [116, 114, 117, 101] else [102, 97, 108, 115, 101]), 0) else if nl = true ∧ mkdM v.s = true then (92 :: v.s, 0) else (v.s, 0) := fun v h1 h2 => by
    unfold encM; rw [if_neg (not_not_intro hk), if_neg (not_not_intro ⟨h1, h2⟩)]
  by_cases hz : nl = true ∧ s = []
  · rw [if_pos hz]
    have r0 : rightM ⟨0, [], 0, false⟩ = true := by decide +kernel
    refine ⟨r0, ?_⟩
    rw [en _ r0 (.inl rfl)]
    simp [hz.1, hz.2]
  · rw [if_neg hz] at h ⊢
    by_cases k2 : k = 2
    · rw [if_pos k2] at h ⊢
      by_cases hp : (parM s).2 ≠ 0
      · rw [if_pos hp] at h; exact absurd h hp
      · rw [if_neg hp]
        have r2 : rightM ⟨2, [], (parM s).1, false⟩ = true := (right_iff _).2 (.inr (.inr (.inl ⟨rfl, rfl, rfl⟩)))
        refine ⟨r2, ?_⟩
        rw [en _ r2 (.inr k2.symm)]
        have := itoa_par (s := s) (by omega)
        simp [this]
    · rw [if_neg k2] at h ⊢
      by_cases k3 : k = 3
      · rw [if_pos k3] at h ⊢
        have r3 : ∀ b, rightM ⟨3, [], 0, b⟩ = true := fun b => (right_iff _).2 (.inr (.inr (.inr ⟨rfl, rfl, rfl⟩)))
        by_cases t1 : s = [116, 114, 117, 101]
        · rw [if_pos t1]
          exact ⟨r3 _, by rw [en _ (r3 _) (.inr k3.symm), t1]; rfl⟩
        · rw [if_neg t1] at h ⊢
          by_cases t2 : s = [102, 97, 108, 115, 101]
          · rw [if_pos t2]
            exact ⟨r3 _, by rw [en _ (r3 _) (.inr k3.symm), t2]; rfl⟩
          · rw [if_neg t2] at h; simp at h
      · rw [if_neg k3] at h ⊢
        have k1 : k = 1 := by omega
        have r1 : ∀ x : Str, validM x = true → rightM ⟨1, x, 0, false⟩ = true := fun x hx => (right_iff _).2 (.inr (.inl ⟨rfl, hx, rfl, rfl⟩))
        by_cases hv : validM s = false
        · rw [if_pos hv] at h; simp at h
        · rw [if_neg hv] at h ⊢
          have hv' : validM s = true := by simpa using hv
          by_cases hc : nl = false ∨ ¬ s.take 1 = [92]
          · rw [if_pos hc]
            refine ⟨r1 s hv', ?_⟩
            rw [en _ (r1 s hv') (.inr k1.symm)]
            have hm : ¬ (nl = true ∧ mkdM s = true) := by
              rintro ⟨q1, q2⟩
              simp only [mkdM, decide_eq_true_eq] at q2
              rcases hc with hc | hc
              · rw [hc] at q1; simp at q1
              · rcases q2 with q2 | q2
                · exact hz ⟨q1, q2⟩
                · exact hc q2
            simp only [show ¬ ((1 : Int) = 0) by omega, show ¬ ((1 : Int) = 2) by omega, show ¬ ((1 : Int) = 3) by omega, if_false, if_neg hm]
          · rw [if_neg hc] at h ⊢
            have hc2 : nl = true ∧ s.take 1 = [92] := by
              rw [not_or] at hc
              exact ⟨by simpa using hc.1, by simpa using hc.2⟩
            obtain ⟨r, rfl⟩ : ∃ r, s = 92 :: r := by
              cases s with
              | nil => simp at hc2
              | cons b r => simp at hc2; exact ⟨r, by rw [hc2.2]⟩
            simp only [List.drop_succ_cons, List.drop_zero] at h ⊢
            by_cases hq : r ≠ [] ∧ ¬ r.take 1 = [92]
            · rw [if_pos hq] at h; simp at h
            · rw [if_neg hq]
              have hvr : validM r = true := by rw [← valid_92]; exact hv'
              refine ⟨r1 r hvr, ?_⟩
              rw [en _ (r1 r hvr) (.inr k1.symm)]
              have hm : nl = true ∧ mkdM r = true := by
                refine ⟨hc2.1, ?_⟩
                simp only [mkdM, decide_eq_true_eq]
                by_cases hr : r = []
                · exact .inl hr
                · exact .inr (by
                    by_cases h9 : r.take 1 = [92]
                    · exact h9
                    · exact absurd ⟨hr, h9⟩ hq)
              simp only [show ¬ ((1 : Int) = 0) by omega, show ¬ ((1 : Int) = 2) by omega, show ¬ ((1 : Int) = 3) by omega, if_false, if_pos hm]
theorem de_len (s : Str) (k : Int) (nl : Bool) : (deM s k nl).1.s.length ≤ s.length := by
  unfold deM
  repeat' split
  all_goals simp
theorem par_i64 (s : Str) : i64M (parM s).1 := by
  unfold parM i64M
  repeat' split
  · simp only []; omega
  · simp only []; omega
  · simp only []; omega
theorem de_i64 (s : Str) (k : Int) (nl : Bool) : i64M (deM s k nl).1.n := by
  have hp := par_i64 s
  have hz : i64M 0 := ⟨by omega, by omega⟩
  unfold deM
  repeat' split
  all_goals first | exact hz | exact hp
end Go.Proofs.YtilfcgnepgacpaaDoor
