/- Chapter 27, plain: the places of records come one behind the other. -/
import Derived.Test.YtdhieolfdlkeaaaP27
namespace Go.Proofs.Ytdhieolfdlkeaaa
set_option linter.unusedSimpArgs false
set_option linter.unusedVariables false
/-- From a place on, one span behind the other, up to a place. -/
def chn : Nat → List (Nat × Nat) → Nat → Prop
  | lo, [], hi => lo ≤ hi
  | lo, x :: r, hi => lo ≤ x.1 ∧ x.1 ≤ x.2 ∧ chn x.2 r hi
theorem chn_lo {a b hi : Nat} {l : List (Nat × Nat)} (h : chn b l hi) (hab : a ≤ b) : chn a l hi := by
  cases l with
  | nil => simp only [chn] at *; omega
  | cons x r => simp only [chn] at *; exact ⟨by omega, h.2⟩
/-- Where the records' bytes end. -/
def endR27 (R : Rs) (n : Nat) : Nat := if R.k = 0 then n else R.a
theorem spW_chn (d : Dl) (l : Lm) : ∀ (t : Str) (q st : Int) (m : Mk) (fr to p : Nat),
    (outR st → chn p (spW d l q st m fr to p t) (endR27 (wrun d l q st m p t) (p + t.length))) ∧
    (inR st → fr ≤ p → chn fr (spW d l q st m fr to p t) (endR27 (wrun d l q st m p t) (p + t.length))) ∧
    (st = 5 → fr ≤ to → to ≤ p → chn fr (spW d l q st m fr to p t) (endR27 (wrun d l q st m p t) (p + t.length))) := by
  intro t
  induction t with
  | nil =>
    intro q st m fr to p
    have hw := (wrun_ends d l [] q st m p).2
    have hle : p ≤ endR27 (wrun d l q st m p []) (p + ([] : Str).length) := by
      unfold endR27
      split
      · simp
      · exact (hw (by assumption)).1
    have hge : ∀ r, endW l q st m = .ok r → endR27 (wrun d l q st m p []) (p + ([] : Str).length) = p := by
      intro r h
      unfold endR27
      rw [wrun_nil, h]; simp
    rw [spW]
    split
    · rename_i r he
      have ha := endW_rec he
      rw [hge _ he]
      unfold aft at ha
      refine ⟨fun h => by unfold outR at h; omega, fun h hf => ⟨Nat.le_refl _, hf, Nat.le_refl _⟩, fun h => by omega⟩
    · exact ⟨fun _ => hle, fun _ hf => Nat.le_trans hf hle, fun _ h1 h2 => by simp only [chn]; omega⟩
  | cons b t ih =>
    intro q st m fr to p
    have hw := (wrun_ends d l (b :: t) q st m p).2
    have hle : p ≤ endR27 (wrun d l q st m p (b :: t)) (p + (b :: t).length) := by
      unfold endR27
      split
      · simp
      · exact (hw (by assumption)).1
    rw [spW]
    cases he : stepW d l q st m b with
    | error k => exact ⟨fun _ => hle, fun _ hf => Nat.le_trans hf hle, fun _ h1 h2 => by simp only [chn]; omega⟩
    | ok x =>
      obtain ⟨e0, e1, e2⟩ := stepW_sc he
      have hend : endR27 (wrun d l q st m p (b :: t)) (p + (b :: t).length) = endR27 (wrun d l x.1 x.2.1 x.2.2.1 (p + 1) t) (p + 1 + t.length) := by
        rw [wrun_cons, he]
        simp only [endR27, Rs.pre, List.length_cons]
        rw [show p + (t.length + 1) = p + 1 + t.length by omega]
        rfl
      rw [hend]
      simp only
      generalize hE : endR27 (wrun d l x.1 x.2.1 x.2.2.1 (p + 1) t) (p + 1 + t.length) = H
      have hih := fun fr to => ih x.1 x.2.1 x.2.2.1 fr to (p + 1)
      rw [hE] at hih
      rw [e1, e2] at *
      refine ⟨fun hs => ?_, fun hs hf => ?_, fun hs h1 h2 => ?_⟩
      · obtain ⟨hl, hr, h⟩ := (sc_kinds d st b (.inl hs) e0).1 hs
        rw [hl, hr]
        simp only [Bool.false_eq_true, if_false, List.nil_append]
        rcases h with ⟨hb, ho⟩ | ⟨hb, hi⟩
        · rw [hb]
          simp only [Bool.false_eq_true, if_false]
          exact chn_lo ((hih fr to).1 ho) (by omega)
        · rw [hb]
          simp only [if_true]
          exact (hih p to).2.1 hi (by omega)
      · obtain ⟨hb, h⟩ := (sc_kinds d st b (.inr (.inl hs)) e0).2.1 hs
        rw [hb]
        simp only [Bool.false_eq_true, if_false]
        rcases h with ⟨hl, hr, hi⟩ | ⟨hl, hr, hi⟩ | ⟨hl, hr, hi⟩
        · rw [hl, hr]
          simp only [Bool.false_eq_true, if_false, List.nil_append]
          exact (hih fr to).2.1 hi (by omega)
        · rw [hl, hr]
          simp only [Bool.false_eq_true, if_false, if_true, List.nil_append]
          exact (hih fr p).2.2 hi hf (by omega)
        · rw [hl, hr]
          simp only [if_true, List.singleton_append]
          exact ⟨Nat.le_refl _, hf, chn_lo ((hih fr p).1 hi) (by omega)⟩
      · obtain ⟨hb, hl, hr, hi⟩ := (sc_kinds d st b (.inr (.inr hs)) e0).2.2 hs
        rw [hb, hl, hr]
        simp only [Bool.false_eq_true, if_false, if_true, List.singleton_append]
        exact ⟨Nat.le_refl _, h1, chn_lo ((hih fr to).1 hi) (by omega)⟩
theorem chn_le {hi : Nat} : ∀ {l : List (Nat × Nat)} {lo : Nat}, chn lo l hi → lo ≤ hi
  | [], _, h => h
  | _ :: _, _, h => by have := chn_le h.2.2; have := h.1; have := h.2.1; omega
theorem chn_at {hi : Nat} : ∀ {l : List (Nat × Nat)} {lo : Nat} (i : Nat), chn lo l hi → i < l.length → lo ≤ (l.getD i default).1 ∧ (l.getD i default).1 ≤ (l.getD i default).2 ∧ chn (l.getD i default).2 (l.drop (i + 1)) hi
  | [], _, _, _, h => by simp at h
  | x :: r, lo, 0, h, _ => ⟨h.1, h.2.1, h.2.2⟩
  | x :: r, lo, i + 1, h, hi' => by
    have := chn_at (l := r) i h.2.2 (by simpa using hi')
    have h1 := h.1; have h2 := h.2.1
    simp only [List.getD_cons_succ, List.drop_succ_cons]
    exact ⟨by omega, this.2⟩
/-- The spans of a text. -/
structure Spans (SP : List (Nat × Nat)) (H n : Nat) : Prop where
  ord : ∀ i j : Nat, i < j → j < SP.length → (SP.getD i default).2 ≤ (SP.getD j default).1
  one : ∀ i : Nat, i < SP.length → (SP.getD i default).1 ≤ (SP.getD i default).2 ∧ (SP.getD i default).2 ≤ H
  hn : H ≤ n
theorem spM_spans (d : Dl) (s : Str) : Spans (spM d s) (endR27 (parM d wideL s) s.length) s.length := by
  have hc := (spW_chn d wideL (stripM s) 0 0 {} 0 0 (s.length - (stripM s).length)).1 (.inl rfl)
  obtain ⟨h1, h2⟩ := strip_drop s
  rw [show s.length - (stripM s).length + (stripM s).length = s.length by omega] at hc
  have e1 : spW d wideL 0 0 {} 0 0 (s.length - (stripM s).length) (stripM s) = spM d s := rfl
  have e2 : wrun d wideL 0 0 {} (s.length - (stripM s).length) (stripM s) = parM d wideL s := rfl
  have hend := (wrun_ends d wideL (stripM s) 0 0 {} (s.length - (stripM s).length)).2
  rw [e1, e2] at hc
  rw [e2] at hend
  refine ⟨fun i j hij hj => ?_, fun i hi => ?_, ?_⟩
  · have h := (chn_at i hc (by omega)).2.2
    have h3 := chn_at (j - (i + 1)) h (by simp; omega)
    rw [show ((spM d s).drop (i + 1)).getD (j - (i + 1)) default = (spM d s).getD j default by simp [List.getD_eq_getElem?_getD, show i + 1 + (j - (i + 1)) = j by omega]] at h3
    exact h3.1
  · have h := chn_at i hc hi
    exact ⟨h.2.1, chn_le h.2.2⟩
  · unfold endR27
    split
    · omega
    · have := hend (by assumption); omega
/-- How great what is gathered can be. -/
def MB (m : Mk) (c n : Nat) : Prop := m.rc.length ≤ c ∧ m.fl.length ≤ n ∧ ∀ x ∈ m.rc, x.length ≤ n
theorem MB.up {m : Mk} {c n c' n' : Nat} (h : MB m c n) (hc : c ≤ c') (hn : n ≤ n') : MB m c' n' := ⟨Nat.le_trans h.1 hc, Nat.le_trans h.2.1 hn, fun x hx => Nat.le_trans (h.2.2 x hx) hn⟩
theorem MB.put {m : Mk} {c n : Nat} (h : MB m c n) : MB m.put (c + 1) n := by
  obtain ⟨h1, h2, h3⟩ := h
  refine ⟨by simp [Mk.put, h1], by simp [Mk.put], fun x hx => ?_⟩
  simp only [Mk.put, List.mem_append, List.mem_singleton] at hx
  rcases hx with hx | hx
  · exact h3 x hx
  · rw [hx]; exact h2
theorem gather_mb {l : Lm} {m m' : Mk} {e : Ev} {c n : Nat} (h : gather l m e = .ok m') (hb : MB m c n) : MB m' (c + 2) (n + 1) := by
  unfold gather at h
  split at h
  · simp at h
  · rename_i m1 h1
    have b1 : MB m1 c n := by
      unfold gBegin at h1
      split at h1
      · split at h1
        · simp at h1
        · injection h1 with h1; subst h1; exact hb
      · injection h1 with h1; subst h1; exact hb
    split at h
    · simp at h
    · rename_i m2 h2
      have b2 : MB m2 c (n + 1) := by
        unfold gAdd at h2
        split at h2
        · split at h2
          · simp at h2
          · injection h2 with h2; subst h2
            exact ⟨b1.1, by simp only [List.length_append, List.length_singleton]; have := b1.2.1; omega, fun x hx => Nat.le_succ_of_le (b1.2.2 x hx)⟩
        · injection h2 with h2; subst h2; exact b1.up (Nat.le_refl _) (Nat.le_succ _)
      split at h
      · simp at h
      · rename_i m3 h3
        have b3 : MB m3 (c + 1) (n + 1) := by
          unfold gField at h3
          split at h3
          · split at h3
            · simp at h3
            · split at h3
              · simp at h3
              · injection h3 with h3; subst h3; exact b2.put
          · injection h3 with h3; subst h3; exact b2.up (Nat.le_succ _) (Nat.le_refl _)
        unfold gLine at h
        split at h
        · split at h
          · simp at h
          · injection h with h; subst h; exact b3.put
        · injection h with h; subst h; exact b3.up (Nat.le_succ _) (Nat.le_refl _)
theorem take_mb {l : Lm} {m : Mk} {e : Ev} {c n : Nat} {x : Mk × Option (List Str)} (h : takeM l m e = .ok x) (hb : MB m c n) : MB x.1 (c + 2) (n + 1) ∧ ∀ r, x.2 = some r → r.length ≤ c + 2 ∧ ∀ f ∈ r, f.length ≤ n + 1 := by
  unfold takeM at h
  split at h
  · simp at h
  · rename_i m1 h1
    have b1 := gather_mb h1 hb
    split at h
    · injection h with h; subst h
      refine ⟨⟨by simp [Mk.out], b1.2.1, by simp [Mk.out]⟩, fun r hr => ?_⟩
      simp only [Option.some.injEq] at hr
      subst hr
      exact ⟨b1.1, b1.2.2⟩
    · injection h with h; subst h
      exact ⟨b1, fun r hr => by simp at hr⟩
theorem wrun_mb (d : Dl) (l : Lm) : ∀ (t : Str) (q st : Int) (m : Mk) (p c n : Nat), MB m c n → ∀ x ∈ (wrun d l q st m p t).rs, x.1.length ≤ c + 2 * (t.length + 1) ∧ ∀ f ∈ x.1, f.length ≤ n + (t.length + 1) := by
  intro t
  induction t with
  | nil =>
    intro q st m p c n hb x hx
    rw [wrun_nil] at hx
    cases h : endW l q st m with
    | error k => rw [h] at hx; simp at hx
    | ok r =>
      rw [h] at hx
      cases r with
      | none => simp [oneR] at hx
      | some r =>
        simp only [oneR, List.mem_singleton] at hx
        subst hx
        unfold endW at h
        split at h
        · simp at h
        · unfold endR at h
          split at h
          · simp at h
          · split at h
            · simp at h
            · rename_i z hz
              have := (take_mb hz hb).2 r (by simpa using h)
              exact ⟨by simpa using this.1, by simpa using this.2⟩
  | cons b t ih =>
    intro q st m p c n hb x hx
    rw [wrun_cons] at hx
    cases h : stepW d l q st m b with
    | error k => rw [h] at hx; simp at hx
    | ok y =>
      rw [h] at hx
      simp only [Rs.pre, List.mem_append] at hx
      have hy : MB y.2.2.1 (c + 2) (n + 1) ∧ ∀ r, y.2.2.2 = some r → r.length ≤ c + 2 ∧ ∀ f ∈ r, f.length ≤ n + 1 := by
        unfold stepW at h
        split at h
        · simp at h
        · split at h
          · simp at h
          · rename_i z hz
            injection h with h; subst h
            unfold stepR at hz
            split at hz
            · simp at hz
            · split at hz
              · simp at hz
              · rename_i u hu
                injection hz with hz; subst hz
                exact take_mb hu hb
      rcases hx with hx | hx
      · cases hr : y.2.2.2 with
        | none => rw [hr] at hx; simp [oneR] at hx
        | some r =>
          rw [hr] at hx
          simp only [oneR, List.mem_singleton] at hx
          subst hx
          have := hy.2 r hr
          refine ⟨by simp only [List.length_cons]; omega, fun f hf => ?_⟩
          have := this.2 f hf
          simp only [List.length_cons]; omega
      · have := ih _ _ _ _ _ _ hy.1 x hx
        refine ⟨by simp only [List.length_cons]; omega, fun f hf => ?_⟩
        have := this.2 f hf
        simp only [List.length_cons]; omega
theorem parM_mb (d : Dl) (l : Lm) (s : Str) : ∀ r ∈ (parM d l s).rs.map Prod.fst, r.length ≤ 2 * (s.length + 1) ∧ ∀ f ∈ r, f.length ≤ s.length + 1 := by
  intro r hr
  obtain ⟨x, hx, rfl⟩ := List.mem_map.1 hr
  have := wrun_mb d l (stripM s) 0 0 {} _ 0 0 ⟨by simp, by simp, by simp⟩ x hx
  have hl := (strip_drop s).2
  exact ⟨by omega, fun f hf => by have := this.2 f hf; omega⟩
/-- Where a record begins, or what stands in its place. -/
def begN (SP : List (Nat × Nat)) (R : Rs) (n i : Nat) : Nat := if i < SP.length then (SP.getD i default).1 else endR27 R n
theorem begN_le {SP : List (Nat × Nat)} {R : Rs} {n i k : Nat} (h : Spans SP (endR27 R n) n) (hik : i ≤ k) : begN SP R n i ≤ begN SP R n k ∧ begN SP R n k ≤ n := by
  have hb : ∀ k, begN SP R n k ≤ n := fun k => by
    unfold begN
    split
    · have := h.one k (by assumption); have := h.hn; omega
    · exact h.hn
  refine ⟨?_, hb k⟩
  rcases Nat.lt_or_ge i k with h1 | h1
  · unfold begN
    by_cases hk : k < SP.length
    · rw [if_pos hk, if_pos (by omega)]
      have := h.ord i k h1 hk
      have := h.one i (by omega)
      omega
    · rw [if_neg hk]
      split
      · have := h.one i (by assumption); omega
      · exact Nat.le_refl _
  · rw [show i = k by omega]; exact Nat.le_refl _
theorem hit_one {SP : List (Nat × Nat)} {H n : Nat} (h : Spans SP H n) {i j : Nat} {p : Int} (hi : i < SP.length) (hj : j < SP.length) (h1 : ((SP.getD i default).1 : Int) ≤ p ∧ p < (SP.getD i default).2) (h2 : ((SP.getD j default).1 : Int) ≤ p ∧ p < (SP.getD j default).2) : i = j := by
  rcases Nat.lt_trichotomy i j with q | q | q
  · have := h.ord i j q hj; omega
  · exact q
  · have := h.ord j i q hi; omega
end Go.Proofs.Ytdhieolfdlkeaaa
