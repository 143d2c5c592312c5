/- Chapter 06, plain: wider limits; beginnings of texts. -/
import Derived.Test.YtdhieolfdlkeaaaJ06
namespace Go.Proofs.Ytdhieolfdlkeaaa
set_option linter.unusedSimpArgs false
set_option linter.unusedVariables false
def wideL : Lm := ⟨2147483648, 2147483648, 2147483648, false⟩
section
variable {d : Dl} {l : Lm} {m : Mk} {e : Ev} {q st : Int} {b : UInt8}
theorem gather_wide (hf : fitsL l = true) {x : Mk} (h : gather l m e = .ok x) : gather wideL m e = .ok x := by
  have hb : l.F ≤ 2147483648 ∧ l.N ≤ 2147483648 ∧ l.R ≤ 2147483648 := by
    unfold fitsL mayL at hf
    simp only [Bool.and_eq_true, decide_eq_true_eq] at hf
    omega
  obtain ⟨b1, b2, b3⟩ := hb
  have hs : ∀ m : Mk, m.strict wideL = false := fun m => rfl
  unfold gather at h ⊢
  have e1 : ∀ m', gBegin l e.b m = .ok m' → gBegin wideL e.b m = .ok m' := by
    intro m' h
    unfold gBegin at h ⊢
    split at h
    · split at h
      · simp at h
      · rename_i h1 h2; rw [if_pos h1, if_neg (by simp only [wideL]; omega)]; exact h
    · rename_i h1; rw [if_neg h1]; exact h
  split at h
  · simp at h
  · rename_i m1 h1
    rw [e1 _ h1]
    simp only
    have e2 : ∀ m', gAdd l e.a e.c m1 = .ok m' → gAdd wideL e.a e.c m1 = .ok m' := by
      intro m' h
      unfold gAdd at h ⊢
      split at h
      · split at h
        · simp at h
        · rename_i h1 h2; rw [if_pos h1, if_neg (by simp only [wideL]; omega)]; exact h
      · rename_i h1; rw [if_neg h1]; exact h
    split at h
    · simp at h
    · rename_i m2 h2
      rw [e2 _ h2]
      simp only
      have e3 : ∀ m', gField l e.f m2 = .ok m' → gField wideL e.f m2 = .ok m' := by
        intro m' h
        unfold gField at h ⊢
        split at h
        · split at h
          · simp at h
          · split at h
            · simp at h
            · rename_i h1 h2 h3
              rw [if_pos h1, if_neg (by simp only [wideL]; omega), if_neg (by rw [hs]; simp)]; exact h
        · rename_i h1; rw [if_neg h1]; exact h
      split at h
      · simp at h
      · rename_i m3 h3
        rw [e3 _ h3]
        simp only
        unfold gLine at h ⊢
        split at h
        · split at h
          · simp at h
          · rename_i h1 h2
            rw [if_pos h1, if_neg (by rw [hs]; simp)]; exact h
        · rename_i h1; rw [if_neg h1]; exact h
theorem take_wide (hf : fitsL l = true) {x : Mk × Option (List Str)} (h : takeM l m e = .ok x) : takeM wideL m e = .ok x := by
  unfold takeM at h ⊢
  split at h
  · simp at h
  · rename_i m1 h1
    rw [gather_wide hf h1]; exact h
theorem stepW_wide (hf : fitsL l = true) {x : Int × Int × Mk × Option (List Str)} (h : stepW d l q st m b = .ok x) : stepW d wideL q st m b = .ok x := by
  unfold stepW at h ⊢
  split at h
  · simp at h
  · rename_i h0
    rw [if_neg h0]
    split at h
    · simp at h
    · rename_i y h1
      have : stepR d wideL st m b = .ok y := by
        unfold stepR at h1 ⊢
        split at h1
        · simp at h1
        · rename_i h2
          rw [if_neg h2]
          split at h1
          · simp at h1
          · rename_i z h3
            rw [take_wide hf h3]; exact h1
      rw [this]; exact h
theorem endW_wide (hf : fitsL l = true) {x : Option (List Str)} (h : endW l q st m = .ok x) : endW wideL q st m = .ok x := by
  unfold endW at h ⊢
  split at h
  · simp at h
  · rename_i h0
    rw [if_neg h0]
    unfold endR at h ⊢
    split at h
    · simp at h
    · rename_i h2
      rw [if_neg h2]
      split at h
      · simp at h
      · rename_i z h3
        rw [take_wide hf h3]; exact h
theorem wrun_wide (hf : fitsL l = true) : ∀ (t : Str) (q st : Int) (m : Mk) (p : Nat), (wrun d l q st m p t).k = 0 → wrun d wideL q st m p t = wrun d l q st m p t := by
  intro t
  induction t with
  | nil =>
    intro q st m p h
    rw [wrun_nil] at h ⊢
    cases he : endW l q st m with
    | error k => rw [he] at h; have := endW_err he; simp at h; omega
    | ok r => rw [wrun_nil, endW_wide hf he, he]
  | cons b t ih =>
    intro q st m p h
    rw [wrun_cons] at h ⊢
    cases he : stepW d l q st m b with
    | error k => rw [he] at h; have := stepW_err he; simp at h; omega
    | ok x =>
      rw [he] at h
      rw [wrun_cons, stepW_wide hf he, he]
      simp only
      rw [ih _ _ _ _ h]
/-! What limits say of the records. -/
structure LInv (l : Lm) (st : Int) (m : Mk) : Prop where
  fl : (m.fl.length : Int) ≤ l.F
  rc : ∀ x ∈ m.rc, (x.length : Int) ≤ l.F
  out : st = 0 ∨ st = 6 → m.bg = m.ct ∧ m.rc = [] ∧ m.fl = []
  inn : st = 1 ∨ st = 2 ∨ st = 3 ∨ st = 4 → m.bg = m.ct + 1 ∧ (m.rc.length : Int) < l.N
  cr : st = 5 → m.bg = m.ct + 1 ∧ m.fl = [] ∧ 1 ≤ m.rc.length ∧ (m.rc.length : Int) ≤ l.N ∧ (l.U = true → 0 < m.ct → m.rc.length = m.wd)
  sts : st = 0 ∨ st = 1 ∨ st = 2 ∨ st = 3 ∨ st = 4 ∨ st = 5 ∨ st = 6
  bg : (m.bg : Int) ≤ l.R
def RecOK (l : Lm) (m : Mk) (r : List Str) : Prop := 1 ≤ r.length ∧ (r.length : Int) ≤ l.N ∧ (∀ x ∈ r, (x.length : Int) ≤ l.F) ∧ (l.U = true → 0 < m.ct → r.length = m.wd)
theorem put_rc' (m : Mk) : m.put.rc = m.rc ++ [m.fl] := rfl
def StepOK (l : Lm) (m : Mk) (x : Int × Mk × Option (List Str)) : Prop :=
  LInv l x.1 x.2.1 ∧ (x.2.2 = none → x.2.1.ct = m.ct ∧ x.2.1.wd = m.wd) ∧ (∀ r, x.2.2 = some r → RecOK l m r ∧ x.2.1.ct = m.ct + 1 ∧ x.2.1.wd = if m.ct = 0 then r.length else m.wd)
theorem StepOK.go {m' : Mk} (h : LInv l st m') (h1 : m'.ct = m.ct) (h2 : m'.wd = m.wd) : StepOK l m (st, m', none) := ⟨h, fun _ => ⟨h1, h2⟩, fun r hr => by simp at hr⟩
theorem str_no (h : ¬ (m.strict l = true ∧ m.rc.length + 1 ≠ m.wd)) : l.U = true → 0 < m.ct → m.rc.length + 1 = m.wd := by
  intro hU h0
  apply Decidable.byContradiction
  intro hn
  exact h ⟨by unfold Mk.strict; rw [hU, decide_eq_true h0]; rfl, hn⟩
theorem out_ok {r : List Str} {m1 : Mk} (hr : RecOK l m r) (h1 : m1.ct = m.ct) (h2 : m1.wd = m.wd) (h3 : m1.rc = r) (h4 : m1.fl = []) (h5 : m1.bg = m.ct + 1) (hR : (m1.bg : Int) ≤ l.R) (hF : 0 ≤ l.F) : StepOK l m (0, m1.out, some r) := by
  refine ⟨⟨by show (m1.fl.length : Int) ≤ l.F; rw [h4]; simpa using hF, fun x hx => by simp [Mk.out] at hx, fun _ => ⟨by show m1.bg = m1.ct + 1; omega, rfl, h4⟩, fun h => by omega, fun h => by omega, .inl rfl, hR⟩, fun h => by simp at h, fun r' hr' => ?_⟩
  simp only [Option.some.injEq] at hr'
  subst hr'
  refine ⟨hr, by show m1.ct + 1 = m.ct + 1; omega, ?_⟩
  show (if m1.ct = 0 then m1.rc.length else m1.wd) = _
  rw [h1, h2, h3]
theorem linv_aft (hd : Rt d) (hF : 1 ≤ l.F) (hN : 1 ≤ l.N) (hs : aft st) (hi : LInv l st m) {x : Int × Mk × Option (List Str)} (h : stepR d l st m b = .ok x) : StepOK l m x := by
  have hin := hi.inn (by rcases hs with h | h | h <;> simp [h])
  have hfl := hi.fl
  have hbg := hi.bg
  have hrcp : ∀ x ∈ m.put.rc, (x.length : Int) ≤ l.F := by
    intro x hx
    rw [put_rc'] at hx
    rcases List.mem_append.1 hx with hx | hx
    · exact hi.rc x hx
    · simp at hx; subst hx; exact hfl
  by_cases h1 : (b.toNat : Int) = d.dl
  · rw [a_d hd hs h1] at h
    split at h
    · simp at h
    · split at h
      · simp at h
      · rename_i g1 g2
        injection h with h; subst h
        refine StepOK.go ⟨by show (0 : Int) ≤ l.F; omega, hrcp, fun h => by omega, fun _ => ⟨hin.1, ?_⟩, fun h => by omega, .inr (.inl rfl), hbg⟩ rfl rfl
        rw [put_rc', List.length_append]; simp; simp at g1; omega
  · by_cases h2 : (b.toNat : Int) = 13
    · rw [a_13 hd hs h2] at h
      split at h
      · simp at h
      · split at h
        · simp at h
        · rename_i g1 g2
          injection h with h; subst h
          refine StepOK.go ⟨by show (0 : Int) ≤ l.F; omega, hrcp, fun h => by omega, fun h => by omega, fun _ => ⟨hin.1, rfl, ?_, ?_, ?_⟩, .inr (.inr (.inr (.inr (.inr (.inl rfl))))), hbg⟩ rfl rfl
          · rw [put_rc', List.length_append]; simp
          · rw [put_rc', List.length_append]; simp; omega
          · intro hU h0
            rw [put_rc', List.length_append]
            exact str_no g2 hU h0
    · by_cases h3 : (b.toNat : Int) = 10
      · rw [a_10 hd hs h3] at h
        split at h
        · simp at h
        · split at h
          · simp at h
          · rename_i g1 g2
            injection h with h; subst h
            refine out_ok ⟨by simp, by simp; omega, hrcp, fun hU h0 => by rw [List.length_append]; exact str_no g2 hU h0⟩ rfl rfl rfl rfl hin.1 hbg (by omega)
      · by_cases h4 : (b.toNat : Int) = d.q
        · rcases hs with rfl | rfl | rfl
          · rw [s1q hd h4] at h
            injection h with h; subst h
            exact StepOK.go ⟨hfl, hi.rc, fun h => by omega, fun _ => hin, fun h => by omega, .inr (.inr (.inr (.inl rfl))), hbg⟩ rfl rfl
          · rw [s2q hd h4] at h; simp at h
          · rw [s4q hd h4] at h
            split at h
            · simp at h
            · rename_i g1
              injection h with h; subst h
              exact StepOK.go ⟨by simp; omega, hi.rc, fun h => by omega, fun _ => hin, fun h => by omega, .inr (.inr (.inr (.inl rfl))), hbg⟩ rfl rfl
        · rcases hs with hs | hs | hs
          · rw [s12x (.inl hs) h4 h1 h2 h3] at h
            split at h
            · simp at h
            · rename_i g1
              injection h with h; subst h
              exact StepOK.go ⟨by simp; omega, hi.rc, fun h => by omega, fun _ => hin, fun h => by omega, .inr (.inr (.inl rfl)), hbg⟩ rfl rfl
          · rw [s12x (.inr hs) h4 h1 h2 h3] at h
            split at h
            · simp at h
            · rename_i g1
              injection h with h; subst h
              exact StepOK.go ⟨by simp; omega, hi.rc, fun h => by omega, fun _ => hin, fun h => by omega, .inr (.inr (.inl rfl)), hbg⟩ rfl rfl
          · subst hs
            rw [s4b h4 h1 h2 h3] at h; simp at h
theorem linv_step (hd : Rt d) (hF : 1 ≤ l.F) (hN : 1 ≤ l.N) (hi : LInv l st m) {x : Int × Mk × Option (List Str)} (h : stepR d l st m b = .ok x) : StepOK l m x := by
  have hfl := hi.fl
  have hbg := hi.bg
  rcases hi.sts with rfl | rfl | rfl | rfl | rfl | rfl | rfl
  · have ho := hi.out (.inl rfl)
    by_cases h2 : (b.toNat : Int) = 13
    · rw [s0_13 hd h2] at h
      split at h
      · simp at h
      · injection h with h; subst h
        exact StepOK.go ⟨hfl, hi.rc, fun _ => ho, fun h => by omega, fun h => by omega, .inr (.inr (.inr (.inr (.inr (.inr rfl))))), hbg⟩ rfl rfl
    · by_cases h3 : (b.toNat : Int) = 10
      · rw [s0_10 hd h3] at h
        split at h
        · simp at h
        · injection h with h; subst h
          exact StepOK.go ⟨hfl, hi.rc, fun _ => ho, fun h => by omega, fun h => by omega, .inl rfl, hbg⟩ rfl rfl
      · rw [s0b h2 h3] at h
        split at h
        · simp at h
        · rename_i g1
          exact linv_aft (m := { m with bg := m.bg + 1 }) hd hF hN (.inl rfl) ⟨hfl, hi.rc, fun h => by omega, fun _ => ⟨by simp only; omega, by show (m.rc.length : Int) < l.N; rw [ho.2.1]; simp; omega⟩, fun h => by omega, .inr (.inl rfl), by simp only; omega⟩ h
  · exact linv_aft hd hF hN (.inl rfl) hi h
  · exact linv_aft hd hF hN (.inr (.inl rfl)) hi h
  · have hin := hi.inn (.inr (.inr (.inl rfl)))
    by_cases h4 : (b.toNat : Int) = d.q
    · rw [s3q h4] at h
      injection h with h; subst h
      exact StepOK.go ⟨hfl, hi.rc, fun h => by omega, fun _ => hin, fun h => by omega, .inr (.inr (.inr (.inr (.inl rfl)))), hbg⟩ rfl rfl
    · rw [s3x h4] at h
      split at h
      · simp at h
      · injection h with h; subst h
        exact StepOK.go ⟨by simp; omega, hi.rc, fun h => by omega, fun _ => hin, fun h => by omega, .inr (.inr (.inr (.inl rfl))), hbg⟩ rfl rfl
  · exact linv_aft hd hF hN (.inr (.inr rfl)) hi h
  · have hc := hi.cr rfl
    by_cases h3 : (b.toNat : Int) = 10
    · rw [s5_10 h3] at h
      injection h with h; subst h
      exact out_ok ⟨hc.2.2.1, hc.2.2.2.1, hi.rc, hc.2.2.2.2⟩ rfl rfl rfl hc.2.1 hc.1 hbg (by omega)
    · rw [s56_x (.inl rfl) h3] at h; simp at h
  · have ho := hi.out (.inr rfl)
    by_cases h3 : (b.toNat : Int) = 10
    · rw [s6_10 h3] at h
      injection h with h; subst h
      exact StepOK.go ⟨hfl, hi.rc, fun _ => ho, fun h => by omega, fun h => by omega, .inl rfl, hbg⟩ rfl rfl
    · rw [s56_x (.inr rfl) h3] at h; simp at h
theorem linv_end (hi : LInv l st m) {r : List Str} (h : endR l st m = .ok (some r)) : RecOK l m r ∧ m.ct < m.bg := by
  have ha : aft st → RecOK l m r ∧ m.ct < m.bg := by
    intro hs
    have hin := hi.inn (by rcases hs with h | h | h <;> simp [h])
    rw [a_end hs] at h
    split at h
    · simp at h
    · rename_i g
      simp only [Except.ok.injEq, Option.some.injEq] at h
      subst h
      refine ⟨⟨by simp, by simp; omega, ?_, fun hU h0 => by rw [List.length_append]; exact str_no g hU h0⟩, by omega⟩
      intro x hx
      rcases List.mem_append.1 hx with hx | hx
      · exact hi.rc x hx
      · simp at hx; subst hx; exact hi.fl
  rcases hi.sts with rfl | rfl | rfl | rfl | rfl | rfl | rfl
  · rw [s0_e] at h; simp at h
  · exact ha (.inl rfl)
  · exact ha (.inr (.inl rfl))
  · rw [s3_e] at h; simp at h
  · exact ha (.inr (.inr rfl))
  · rw [s56_e (.inl rfl)] at h; simp at h
  · rw [s56_e (.inr rfl)] at h; simp at h
/-- Each record is within the limits; uniform ones are as wide as the first. -/
def AllOK (l : Lm) (n : Nat) (r : List Str) : Prop := 1 ≤ r.length ∧ (r.length : Int) ≤ l.N ∧ (∀ x ∈ r, (x.length : Int) ≤ l.F) ∧ (l.U = true → r.length = n)
theorem wrun_ok (hd : Rt d) (hF : 1 ≤ l.F) (hN : 1 ≤ l.N) : ∀ (t : Str) (q st : Int) (m : Mk) (p : Nat), LInv l st m → (wrun d l q st m p t).k = 0 →
    ∃ n, (0 < m.ct → n = m.wd) ∧ (m.ct = 0 → ∀ x, (wrun d l q st m p t).rs.head? = some x → n = x.1.length) ∧ (∀ x ∈ (wrun d l q st m p t).rs, AllOK l n x.1) ∧ ((m.ct + (wrun d l q st m p t).rs.length : Nat) : Int) ≤ l.R := by
  intro t
  induction t with
  | nil =>
    intro q st m p hi h
    have hR := hi.bg
    have hct : m.ct ≤ m.bg := by
      rcases hi.sts with h | h | h | h | h | h | h
      · have := hi.out (.inl h); omega
      · have := hi.inn (.inl h); omega
      · have := hi.inn (.inr (.inl h)); omega
      · have := hi.inn (.inr (.inr (.inl h))); omega
      · have := hi.inn (.inr (.inr (.inr h))); omega
      · have := hi.cr h; omega
      · have := hi.out (.inr h); omega
    rw [wrun_nil] at h ⊢
    cases he : endW l q st m with
    | error k => rw [he] at h; have := endW_err he; simp at h; omega
    | ok r =>
      unfold endW at he
      split at he
      · simp at he
      · cases r with
        | none => exact ⟨m.wd, fun _ => rfl, fun _ x hx => by simp [oneR] at hx, fun x hx => by simp [oneR] at hx, by simp [oneR]; omega⟩
        | some r =>
          obtain ⟨h1, h2⟩ := linv_end hi he
          refine ⟨if m.ct = 0 then r.length else m.wd, fun h0 => by rw [if_neg (by omega)], fun h0 x hx => ?_, fun x hx => ?_, by simp [oneR]; omega⟩
          · simp [oneR] at hx; subst hx; rw [if_pos h0]
          · simp [oneR] at hx; subst hx
            refine ⟨h1.1, h1.2.1, h1.2.2.1, fun hU => ?_⟩
            by_cases h0 : m.ct = 0
            · rw [if_pos h0]
            · rw [if_neg h0]; exact h1.2.2.2 hU (by omega)
  | cons b t ih =>
    intro q st m p hi h
    rw [wrun_cons] at h ⊢
    cases he : stepW d l q st m b with
    | error k => rw [he] at h; have := stepW_err he; simp at h; omega
    | ok x =>
      rw [he] at h
      simp only at h ⊢
      have hs : stepR d l st m b = .ok (x.2.1, x.2.2.1, x.2.2.2) := by
        unfold stepW at he
        split at he
        · simp at he
        · split at he
          · simp at he
          · rename_i y hy
            injection he with he
            rw [hy, ← he]
      obtain ⟨g1, g2, g3⟩ := linv_step hd hF hN hi hs
      simp only at g1 g2 g3
      obtain ⟨n, n1, n2, n3, n4⟩ := ih x.1 x.2.1 x.2.2.1 (p + 1) g1 h
      cases ho : x.2.2.2 with
      | none =>
        obtain ⟨c1, c2⟩ := g2 ho
        simp only [Rs.pre, oneR, List.nil_append]
        exact ⟨n, fun h0 => by rw [n1 (by omega), c2], fun h0 => n2 (by omega), n3, by rw [c1] at n4; exact n4⟩
      | some r =>
        obtain ⟨c0, c1, c2⟩ := g3 r ho
        simp only [Rs.pre, oneR, List.singleton_append]
        have hn : n = if m.ct = 0 then r.length else m.wd := by rw [n1 (by omega), c2]
        refine ⟨n, fun h0 => by rw [hn, if_neg (by omega)], fun h0 y hy => ?_, fun y hy => ?_, by rw [c1] at n4; simp only [List.length_cons]; omega⟩
        · simp at hy; subst hy; rw [hn, if_pos h0]
        · rcases List.mem_cons.1 hy with rfl | hy
          · refine ⟨c0.1, c0.2.1, c0.2.2.1, fun hU => ?_⟩
            rw [hn]
            by_cases h0 : m.ct = 0
            · rw [if_pos h0]
            · rw [if_neg h0]; exact c0.2.2.2 hU (by omega)
          · exact n3 y hy
end
/-- A text and its beginning. -/
theorem wrun_app (d : Dl) (l : Lm) (b : Str) : ∀ (a : Str) (q st : Int) (m : Mk) (p : Nat), (wrun d l q st m p (a ++ b) = wrun d l q st m p a ∧ (wrun d l q st m p a).k ≠ 0 ∧ (wrun d l q st m p a).a < p + a.length) ∨
    (∃ (q' st' : Int) (m' : Mk) (acc : List (List Str × Nat)), wrun d l q st m p (a ++ b) = (wrun d l q' st' m' (p + a.length) b).pre acc ∧ wrun d l q st m p a = (wrun d l q' st' m' (p + a.length) []).pre acc) := by
  intro a
  induction a with
  | nil => intro q st m p; exact .inr ⟨q, st, m, [], by simp [pre_nil], by simp [pre_nil]⟩
  | cons c a ih =>
    intro q st m p
    rw [List.cons_append, wrun_cons, wrun_cons]
    cases he : stepW d l q st m c with
    | error k =>
      have := stepW_err he
      exact .inl ⟨rfl, by simp; omega, by simp⟩
    | ok x =>
      simp only
      rcases ih x.1 x.2.1 x.2.2.1 (p + 1) with ⟨h1, h2, h3⟩ | ⟨q', st', m', acc, h1, h2⟩
      · exact .inl ⟨by rw [h1], h2, by simp only [Rs.pre, List.length_cons]; omega⟩
      · refine .inr ⟨q', st', m', oneR x.2.2.2 p ++ acc, ?_, ?_⟩
        · rw [h1, pre_pre, List.length_cons, show p + 1 + a.length = p + (a.length + 1) from by omega]
        · rw [h2, pre_pre, List.length_cons, show p + 1 + a.length = p + (a.length + 1) from by omega]
theorem wrun_len (d : Dl) (l : Lm) : ∀ (t : Str) (q st : Int) (m : Mk) (p : Nat), (wrun d l q st m p t).rs.length ≤ t.length + 1 := by
  intro t
  induction t with
  | nil =>
    intro q st m p
    rw [wrun_nil]
    cases h : endW l q st m with
    | error k => simp
    | ok r => cases r <;> simp [oneR]
  | cons b t ih =>
    intro q st m p
    rw [wrun_cons]
    cases h : stepW d l q st m b with
    | error k => simp
    | ok x =>
      have := ih x.1 x.2.1 x.2.2.1 (p + 1)
      cases hx : x.2.2.2 <;> simp [Rs.pre, oneR, hx] <;> omega
theorem parM_len (d : Dl) (l : Lm) (s : Str) : (parM d l s).rs.length ≤ s.length + 1 := by
  have h1 := wrun_len d l (stripM s) 0 0 {} (s.length - (stripM s).length)
  have h2 := (strip_drop s).2
  unfold parM
  omega
end Go.Proofs.Ytdhieolfdlkeaaa
