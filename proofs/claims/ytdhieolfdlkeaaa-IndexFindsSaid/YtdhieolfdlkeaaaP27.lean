/- Chapter 27, plain: where the records of a text stand. -/
import Derived.Test.YtdhieolfdlkeaaaK06
namespace Go.Proofs.Ytdhieolfdlkeaaa
set_option linter.unusedSimpArgs false
set_option linter.unusedVariables false
/-- The places of the records that a run reads on: where each began (fr: the one that is being read), where its line ends (to). -/
def spW (d : Dl) (l : Lm) (q st : Int) (m : Mk) (fr to p : Nat) : Str → List (Nat × Nat)
  | [] => match endW l q st m with
    | .ok (some _) => [(fr, p)]
    | _ => []
  | b :: t => match stepW d l q st m b with
    | .error _ => []
    | .ok x => (if x.2.2.2.isSome = true then [(if (scM d st b).1.b = true then p else fr, if (scM d st b).1.l = true then p else to)] else []) ++
        spW d l x.1 x.2.1 x.2.2.1 (if (scM d st b).1.b = true then p else fr) (if (scM d st b).1.l = true then p else to) (p + 1) t
theorem spW_len (d : Dl) (l : Lm) : ∀ (t : Str) (q st : Int) (m : Mk) (fr to p : Nat), (spW d l q st m fr to p t).length = (wrun d l q st m p t).rs.length := by
  intro t
  induction t with
  | nil =>
    intro q st m fr to p
    rw [spW, wrun_nil]
    cases h : endW l q st m with
    | error k => rfl
    | ok r => cases r <;> rfl
  | cons b t ih =>
    intro q st m fr to p
    rw [spW, wrun_cons]
    cases h : stepW d l q st m b with
    | error k => rfl
    | ok x =>
      simp only [List.length_append, Rs.pre, ih]
      cases hx : x.2.2.2 <;> simp [oneR]
/-- Where records end, and faults stand, of the run with UTF-8. -/
theorem wrun_ends (d : Dl) (l : Lm) : ∀ (t : Str) (q st : Int) (m : Mk) (p : Nat), (∀ x ∈ (wrun d l q st m p t).rs, p ≤ x.2 ∧ x.2 ≤ p + t.length ∧ ((wrun d l q st m p t).k ≠ 0 → x.2 < (wrun d l q st m p t).a)) ∧
    ((wrun d l q st m p t).k ≠ 0 → p ≤ (wrun d l q st m p t).a ∧ (wrun d l q st m p t).a ≤ p + t.length) := by
  intro t
  induction t with
  | nil =>
    intro q st m p
    rw [wrun_nil]
    cases h : endW l q st m with
    | error k => exact ⟨fun x hx => by simp at hx, fun _ => ⟨Nat.le_refl _, by simp⟩⟩
    | ok r =>
      refine ⟨fun x hx => ?_, fun h => absurd rfl h⟩
      have := one_end x hx
      exact ⟨by omega, by simp; omega, fun h => absurd rfl h⟩
  | cons b t ih =>
    intro q st m p
    rw [wrun_cons]
    cases h : stepW d l q st m b with
    | error k => exact ⟨fun x hx => by simp at hx, fun _ => ⟨Nat.le_refl _, by simp⟩⟩
    | ok x =>
      obtain ⟨h1, h2⟩ := ih x.1 x.2.1 x.2.2.1 (p + 1)
      simp only [Rs.pre, List.length_cons]
      refine ⟨fun y hy => ?_, fun hk => ?_⟩
      · rcases List.mem_append.1 hy with hy | hy
        · have := one_end y hy
          refine ⟨by omega, by omega, fun hk => ?_⟩
          have := h2 hk; omega
        · have := h1 y hy
          exact ⟨by omega, by omega, this.2.2⟩
      · have := h2 hk; omega
theorem stepW_sc {d : Dl} {l : Lm} {q st : Int} {m : Mk} {b : UInt8} {x : Int × Int × Mk × Option (List Str)} (h : stepW d l q st m b = .ok x) : (scM d st b).2.2 = 0 ∧ x.2.1 = (scM d st b).2.1 ∧ (x.2.2.2.isSome = (scM d st b).1.r) := by
  unfold stepW at h
  split at h
  · simp at h
  · split at h
    · simp at h
    · rename_i y hy
      injection h with h; subst h
      unfold stepR at hy
      split at hy
      · simp at hy
      · rename_i h0
        split at hy
        · simp at hy
        · rename_i z hz
          injection hy with hy; subst hy
          refine ⟨by omega, rfl, ?_⟩
          unfold takeM at hz
          split at hz
          · simp at hz
          · split at hz
            · rename_i hr; injection hz with hz; subst hz; simp [hr]
            · rename_i hr; injection hz with hz; subst hz; simpa using hr
theorem endW_rec {l : Lm} {q st : Int} {m : Mk} {r : List Str} (h : endW l q st m = .ok (some r)) : aft st := by
  unfold endW at h
  split at h
  · simp at h
  · unfold endR at h
    split at h
    · simp at h
    · split at h
      · simp at h
      · rename_i z hz
        simp only [Except.ok.injEq] at h
        unfold takeM at hz
        split at hz
        · simp at hz
        · split at hz
          · rename_i hr
            unfold closeM at hr
            unfold aft
            by_cases hs : st = 1 ∨ st = 2 ∨ st = 4
            · exact hs
            · rw [if_neg hs] at hr
              split at hr
              · simp at hr
              · split at hr <;> simp at hr
          · injection hz with hz; subst hz; simp at h
/-- What a byte's event is, by the state before and behind it: 1 to 4: within a record; 5: behind its line's carriage return. -/
def inR (st : Int) : Prop := st = 1 ∨ st = 2 ∨ st = 3 ∨ st = 4
def outR (st : Int) : Prop := st = 0 ∨ st = 6
theorem sc_kinds (d : Dl) (st : Int) (b : UInt8) (hs : outR st ∨ inR st ∨ st = 5) (he : (scM d st b).2.2 = 0) :
    (outR st → (scM d st b).1.l = false ∧ (scM d st b).1.r = false ∧ ((scM d st b).1.b = false ∧ outR (scM d st b).2.1 ∨ (scM d st b).1.b = true ∧ inR (scM d st b).2.1)) ∧
    (inR st → (scM d st b).1.b = false ∧ ((scM d st b).1.l = false ∧ (scM d st b).1.r = false ∧ inR (scM d st b).2.1 ∨ (scM d st b).1.l = true ∧ (scM d st b).1.r = false ∧ (scM d st b).2.1 = 5 ∨ (scM d st b).1.l = true ∧ (scM d st b).1.r = true ∧ outR (scM d st b).2.1)) ∧
    (st = 5 → (scM d st b).1.b = false ∧ (scM d st b).1.l = false ∧ (scM d st b).1.r = true ∧ outR (scM d st b).2.1) := by
  unfold outR inR at *
  refine ⟨fun h => ?_, fun h => ?_, fun h => ?_⟩
  · rcases h with rfl | rfl
    · unfold scM startM at he ⊢
      simp only [if_true] at he ⊢
      repeat' split at he
      all_goals simp_all
    · by_cases hb : (b.toNat : Int) = 10
      · simp [scM, hb]
      · simp [scM, hb] at he
  · rcases h with rfl | rfl | rfl | rfl
    · unfold scM inM at he ⊢
      simp only [show ¬ ((1 : Int) = 0) by decide, show ((1 : Int) = 1 ∨ (1 : Int) = 2 ∨ (1 : Int) = 4) by decide, if_true, if_false] at he ⊢
      repeat' split at he
      all_goals simp_all
    · unfold scM inM at he ⊢
      simp only [show ¬ ((2 : Int) = 0) by decide, show ((2 : Int) = 1 ∨ (2 : Int) = 2 ∨ (2 : Int) = 4) by decide, if_true, if_false] at he ⊢
      repeat' split at he
      all_goals simp_all
    · by_cases hb : (b.toNat : Int) = d.q <;> simp [scM, hb]
    · unfold scM inM at he ⊢
      simp only [show ¬ ((4 : Int) = 0) by decide, show ((4 : Int) = 1 ∨ (4 : Int) = 2 ∨ (4 : Int) = 4) by decide, if_true, if_false] at he ⊢
      repeat' split at he
      all_goals simp_all
  · subst h
    by_cases hb : (b.toNat : Int) = 10
    · simp [scM, hb]
    · simp [scM, hb] at he
theorem sc_out (d : Dl) (st : Int) (b : UInt8) (hs : outR st ∨ inR st ∨ st = 5) (he : (scM d st b).2.2 = 0) : outR (scM d st b).2.1 ∨ inR (scM d st b).2.1 ∨ (scM d st b).2.1 = 5 := by
  obtain ⟨h1, h2, h3⟩ := sc_kinds d st b hs he
  rcases hs with hs | hs | hs
  · rcases (h1 hs).2.2 with h | h
    · exact .inl h.2
    · exact .inr (.inl h.2)
  · rcases (h2 hs).2 with h | h | h
    · exact .inr (.inl h.2.2)
    · exact .inr (.inr h.2.2)
    · exact .inl h.2.2
  · exact .inl (h3 hs).2.2.2
/-- The first of the places: of a record that is being read, where it began; of one whose line has ended, where that was. -/
theorem spW_head (d : Dl) (l : Lm) : ∀ (t : Str) (q st : Int) (m : Mk) (fr to p : Nat) (x : Nat × Nat) (r : List (Nat × Nat)), inR st ∨ st = 5 → spW d l q st m fr to p t = x :: r → x.1 = fr ∧ (st = 5 → x.2 = to) := by
  intro t
  induction t with
  | nil =>
    intro q st m fr to p x r hs h
    rw [spW] at h
    split at h
    · rename_i r' he
      simp only [List.cons.injEq] at h
      refine ⟨by rw [← h.1], fun h5 => ?_⟩
      have := endW_rec he
      unfold aft at this
      omega
    · simp at h
  | cons b t ih =>
    intro q st m fr to p x r hs h
    rw [spW] at h
    cases he : stepW d l q st m b with
    | error k => rw [he] at h; simp at h
    | ok y =>
      rw [he] at h
      simp only at h
      obtain ⟨e0, e1, e2⟩ := stepW_sc he
      obtain ⟨_, k2, k3⟩ := sc_kinds d st b (.inr hs) e0
      rcases hs with hs | hs
      · obtain ⟨hb, hk⟩ := k2 hs
        rw [hb] at h
        simp only [Bool.false_eq_true, if_false] at h
        have h5 : ¬ st = 5 := by unfold inR at hs; omega
        rcases hk with ⟨hl, hr, hi⟩ | ⟨hl, hr, hi⟩ | ⟨hl, hr, hi⟩
        · rw [e2, hr, hl] at h
          simp only [Bool.false_eq_true, if_false, List.nil_append] at h
          exact ⟨(ih _ _ _ _ _ _ x r (by rw [e1]; exact .inl hi) h).1, fun h => absurd h h5⟩
        · rw [e2, hr, hl] at h
          simp only [Bool.false_eq_true, if_false, if_true, List.nil_append] at h
          exact ⟨(ih _ _ _ _ _ _ x r (by rw [e1]; exact .inr hi) h).1, fun h => absurd h h5⟩
        · rw [e2, hr] at h
          simp only [if_true, List.singleton_append, List.cons.injEq] at h
          exact ⟨by rw [← h.1], fun h => absurd h h5⟩
      · obtain ⟨hb, hl, hr, hi⟩ := k3 hs
        rw [e2, hb, hl, hr] at h
        simp only [Bool.false_eq_true, if_false, if_true, List.singleton_append, List.cons.injEq] at h
        exact ⟨by rw [← h.1], fun _ => by rw [← h.1]⟩
/-- The places of a text's records. -/
def spM (d : Dl) (s : Str) : List (Nat × Nat) := spW d wideL 0 0 {} 0 0 (s.length - (stripM s).length) (stripM s)
theorem spM_len (d : Dl) (s : Str) : (spM d s).length = (parM d wideL s).rs.length := spW_len _ _ _ _ _ _ _ _ _
end Go.Proofs.Ytdhieolfdlkeaaa
