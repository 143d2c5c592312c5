/- Texts of the proof, joined. -/
import Derived.Test.YtigifbjdmdcboaazR10
import Derived.Test.YtigifbjdmdcboaazA06
namespace Go.Proofs.Ytigifbjdmdcboaa
set_option linter.unusedSimpArgs false
set_option linter.unusedVariables false
def Full (q : Int) (t : Str) (q' : Int) : Prop := runM q t = (q', t.length)
theorem Full.nil {q : Int} : Full q [] q := rfl
theorem Full.cons {q s q' : Int} {b : UInt8} {t : Str} (h : stepM q b.toNat = (s, true)) (hf : Full s t q') : Full q (b :: t) q' := by
  unfold Full at *
  rw [run_y h, hf]; rfl
theorem Full.un {q q' : Int} {b : UInt8} {t : Str} (h : Full q (b :: t) q') : ∃ s, stepM q b.toNat = (s, true) ∧ Full s t q' := by
  unfold Full at *
  cases hs : stepM q b.toNat with
  | mk s ok =>
    cases ok
    · rw [run_n hs] at h
      simp at h
    · rw [run_y hs] at h
      injection h with h1 h2
      refine ⟨s, rfl, ?_⟩
      rw [← h1]
      simp only [List.length_cons] at h2
      exact Prod.ext rfl (by simp only; omega)
theorem Full.app {q q1 q2 : Int} {b : Str} : ∀ {a : Str}, Full q a q1 → Full q1 b q2 → Full q (a ++ b) q2 := by
  intro a
  induction a generalizing q with
  | nil => intro h1 h2; have : q1 = q := by unfold Full at h1; rw [run_nil] at h1; injection h1 with h _; exact h.symm
           subst this; exact h2
  | cons c a ih =>
    intro h1 h2
    obtain ⟨s, e, h3⟩ := h1.un
    exact Full.cons e (ih h3 h2)
theorem ascii7 {q : Int} {b : UInt8} (hb : (b.toNat : Int) < 128) (h : (stepM q b.toNat).2 = true) : q = 0 ∧ stepM q b.toNat = (0, true) := by
  have h0 : (0 : Int) ≤ b.toNat := by omega
  have hf : ∀ lo hi n : Int, 128 ≤ lo → (followM (b.toNat : Int) lo hi n).2 = false := by
    intro lo hi n hlo
    unfold followM
    split <;> first | rfl | (exfalso; omega)
  unfold stepM at h ⊢
  by_cases hq : q = 0
  · subst hq
    refine ⟨rfl, ?_⟩
    rw [if_pos rfl] at h ⊢
    unfold beginM
    rw [if_pos (by omega)]
  · rw [if_neg hq] at h
    exfalso
    repeat' split at h
    all_goals first
    | (rw [hf _ _ _ (by decide)] at h; simp at h)
    | simp at h
theorem ascii0 {b : UInt8} (hb : (b.toNat : Int) < 128) : stepM 0 b.toNat = (0, true) := by
  unfold stepM
  rw [if_pos rfl]
  unfold beginM
  rw [if_pos (by omega)]
theorem valid_full {f : Str} (h : validM f = true) : Full 0 f 0 := by
  obtain ⟨h1, h2⟩ := valid_run h
  exact Prod.ext h2 h1
theorem quo_full {c : UInt8} (hc : (c.toNat : Int) < 128) : ∀ (f : Str) {q q' : Int}, Full q f q' → Full q (f.flatMap (quoB c)) q'
  | [], _, _, h => h
  | x :: f, q, q', h => by
    obtain ⟨s, e, h2⟩ := h.un
    rw [List.flatMap_cons]
    by_cases hx : x = c
    · subst hx
      obtain ⟨rfl, e2⟩ := ascii7 hc (by rw [e])
      have : s = 0 := by rw [e] at e2; injection e2
      subst this
      simp only [quoB, if_true, List.cons_append, List.nil_append]
      exact Full.cons e2 (Full.cons e2 (quo_full hc f h2))
    · simp only [quoB, if_neg hx, List.cons_append, List.nil_append]
      exact Full.cons e (quo_full hc f h2)
section
variable {d : Dl}
theorem wr_full (hq : ((bQ d).toNat : Int) < 128) {f : Str} {a b : Bool} (h : validM f = true) : Full 0 (wrM d f a b) 0 := by
  have hf := valid_full h
  unfold wrM
  split
  · unfold quoM
    rw [List.cons_append]
    exact Full.cons (ascii0 hq) ((quo_full hq f hf).app (Full.cons (ascii0 hq) Full.nil))
  · exact hf
theorem line_full (hq : ((bQ d).toNat : Int) < 128) (hdl : ((bD d).toNat : Int) < 128) (n : Nat) (first : Bool) : ∀ (r : List Str) (i : Nat), r.all validM = true → Full 0 (lineF d n first i r) 0
  | [], _, _ => Full.nil
  | f :: r, i, h => by
    simp only [List.all_cons, Bool.and_eq_true] at h
    simp only [lineF, pieceM]
    refine Full.app ?_ (line_full hq hdl n first r (i + 1) h.2)
    split
    · exact Full.app (Full.cons (ascii0 hdl) Full.nil) (wr_full hq h.1)
    · exact wr_full hq h.1
theorem go_wrun {l : Lm} {b : Str} : ∀ (a : Str) {q q' st st' : Int} {m m' : Mk} (p : Nat), goR d l st m a = some (st', m') → Full q a q' → wrun d l q st m p (a ++ b) = wrun d l q' st' m' (p + a.length) b
  | [], q, q', st, st', m, m', p, h, hf => by
    simp only [goR, Option.some.injEq, Prod.mk.injEq] at h
    obtain ⟨rfl, rfl⟩ := h
    have : q' = q := by unfold Full at hf; rw [run_nil] at hf; injection hf with h _; exact h.symm
    subst this; rfl
  | c :: a, q, q', st, st', m, m', p, h, hf => by
    obtain ⟨s, e, hf2⟩ := hf.un
    rw [goR] at h
    split at h
    · rename_i s1 m1 hs
      rw [List.cons_append, wrun_cons]
      have hw : stepW d l q st m c = .ok (s, s1, m1, none) := by unfold stepW; rw [e, if_neg (by simp), hs]
      rw [hw]
      simp only [oneR, pre_nil]
      rw [go_wrun a (p + 1) h hf2]
      congr 1
      simp only [List.length_cons]; omega
    · simp at h
def Core (m m' : Mk) : Prop := m.fl = m'.fl ∧ m.rc = m'.rc ∧ m.bg = m'.bg
def CoreE (a b : Except Int Mk) : Prop := match a, b with
  | .error k, .error k' => k = k'
  | .ok x, .ok y => Core x y
  | _, _ => False
theorem gb_core {l : Lm} {m m' : Mk} (h : Core m m') (b : Bool) : CoreE (gBegin l b m) (gBegin l b m') := by
  obtain ⟨h1, h2, h3⟩ := h
  unfold gBegin
  rw [h3]
  split
  · split
    · rfl
    · exact ⟨h1, h2, rfl⟩
  · exact ⟨h1, h2, h3⟩
theorem ga_core {l : Lm} {m m' : Mk} (h : Core m m') (a : Bool) (c : UInt8) : CoreE (gAdd l a c m) (gAdd l a c m') := by
  obtain ⟨h1, h2, h3⟩ := h
  unfold gAdd
  rw [h1]
  split
  · split
    · rfl
    · exact ⟨rfl, h2, h3⟩
  · exact ⟨h1, h2, h3⟩
theorem put_core {m m' : Mk} (h : Core m m') : Core m.put m'.put := ⟨rfl, by simp only [Mk.put]; rw [h.1, h.2.1], h.2.2⟩
theorem gf_core {l : Lm} (hU : l.U = false) {m m' : Mk} (h : Core m m') (b : Bool) : CoreE (gField l b m) (gField l b m') := by
  have hs : m.strict l = false := by simp [Mk.strict, hU]
  have hs' : m'.strict l = false := by simp [Mk.strict, hU]
  have hp := put_core h
  unfold gField
  rw [hs, hs', hp.2.1]
  split
  · split
    · rfl
    · rw [if_neg (by simp), if_neg (by simp)]; exact hp
  · exact h
theorem gl_core {l : Lm} (hU : l.U = false) {m m' : Mk} (h : Core m m') (b : Bool) : CoreE (gLine l b m) (gLine l b m') := by
  have hs : m.strict l = false := by simp [Mk.strict, hU]
  have hs' : m'.strict l = false := by simp [Mk.strict, hU]
  have hp := put_core h
  unfold gLine
  rw [hs, hs']
  split
  · rw [if_neg (by simp), if_neg (by simp)]; exact hp
  · exact h
theorem gather_core {l : Lm} (hU : l.U = false) {m m' : Mk} (h : Core m m') (e : Ev) : (∃ k, gather l m e = .error k ∧ gather l m' e = .error k) ∨ ∃ x x', gather l m e = .ok x ∧ gather l m' e = .ok x' ∧ Core x x' := by
  unfold gather
  have hb := gb_core (l := l) h e.b
  revert hb
  cases gBegin l e.b m <;> cases gBegin l e.b m' <;> intro hb <;> simp only [CoreE] at hb
  · subst hb; exact .inl ⟨_, rfl, rfl⟩
  · simp only
    have ha := ga_core (l := l) hb e.a e.c
    rename_i x y
    revert ha
    cases gAdd l e.a e.c x <;> cases gAdd l e.a e.c y <;> intro ha <;> simp only [CoreE] at ha
    · subst ha; exact .inl ⟨_, rfl, rfl⟩
    · simp only
      have hf := gf_core hU ha e.f
      rename_i x y
      revert hf
      cases gField l e.f x <;> cases gField l e.f y <;> intro hf <;> simp only [CoreE] at hf
      · subst hf; exact .inl ⟨_, rfl, rfl⟩
      · simp only
        have hl := gl_core hU hf e.l
        rename_i x y
        revert hl
        cases gLine l e.l x <;> cases gLine l e.l y <;> intro hl <;> simp only [CoreE] at hl
        · subst hl; exact .inl ⟨_, rfl, rfl⟩
        · exact .inr ⟨_, _, rfl, rfl, hl⟩
theorem take_core {l : Lm} (hU : l.U = false) {m m' : Mk} (h : Core m m') (e : Ev) : (∃ k, takeM l m e = .error k ∧ takeM l m' e = .error k) ∨ ∃ x x' o, takeM l m e = .ok (x, o) ∧ takeM l m' e = .ok (x', o) ∧ Core x x' := by
  unfold takeM
  rcases gather_core hU h e with ⟨k, h1, h2⟩ | ⟨x, x', h1, h2, h3⟩
  · exact .inl ⟨k, by rw [h1], by rw [h2]⟩
  · rw [h1, h2]
    simp only
    split
    · exact .inr ⟨x.out, x'.out, some x.rc, rfl, by rw [h3.2.1], h3.1, rfl, h3.2.2⟩
    · exact .inr ⟨x, x', none, rfl, rfl, h3⟩
theorem step_core {l : Lm} (hU : l.U = false) {q st : Int} {m m' : Mk} (h : Core m m') (b : UInt8) : (∃ k, stepW d l q st m b = .error k ∧ stepW d l q st m' b = .error k) ∨ ∃ q2 s2 x x' o, stepW d l q st m b = .ok (q2, s2, x, o) ∧ stepW d l q st m' b = .ok (q2, s2, x', o) ∧ Core x x' := by
  by_cases hq : (stepM q b.toNat).2 = false
  · exact .inl ⟨3, by unfold stepW; rw [if_pos hq], by unfold stepW; rw [if_pos hq]⟩
  · by_cases h0 : (scM d st b).2.2 ≠ 0
    · exact .inl ⟨_, by unfold stepW stepR; rw [if_neg hq, if_pos h0], by unfold stepW stepR; rw [if_neg hq, if_pos h0]⟩
    · rcases take_core hU h (scM d st b).1 with ⟨k, h1, h2⟩ | ⟨x, x', o, h1, h2, h3⟩
      · exact .inl ⟨k, by unfold stepW stepR; rw [if_neg hq, if_neg h0, h1], by unfold stepW stepR; rw [if_neg hq, if_neg h0, h2]⟩
      · exact .inr ⟨_, _, x, x', o, by unfold stepW stepR; rw [if_neg hq, if_neg h0, h1], by unfold stepW stepR; rw [if_neg hq, if_neg h0, h2], h3⟩
theorem end_core {l : Lm} (hU : l.U = false) {q st : Int} {m m' : Mk} (h : Core m m') : endW l q st m = endW l q st m' := by
  unfold endW endR
  split
  · rfl
  · split
    · rfl
    · rcases take_core hU h (closeM st).1 with ⟨k, h1, h2⟩ | ⟨x, x', o, h1, h2, h3⟩ <;> rw [h1, h2]
def Alike (R R' : Rs) : Prop := R.rs.map Prod.fst = R'.rs.map Prod.fst ∧ R.k = R'.k
theorem wrun_core {l : Lm} (hU : l.U = false) : ∀ (t : Str) {q st : Int} {m m' : Mk} (p p' : Nat), Core m m' → Alike (wrun d l q st m p t) (wrun d l q st m' p' t)
  | [], q, st, m, m', p, p', h => by
    rw [wrun_nil, wrun_nil, end_core hU h]
    cases endW l q st m' with
    | error k => exact ⟨rfl, rfl⟩
    | ok r => cases r <;> exact ⟨rfl, rfl⟩
  | b :: t, q, st, m, m', p, p', h => by
    rw [wrun_cons, wrun_cons]
    rcases step_core (d := d) hU (q := q) (st := st) h b with ⟨k, h1, h2⟩ | ⟨q2, s2, x, x', o, h1, h2, h3⟩
    · rw [h1, h2]; exact ⟨rfl, rfl⟩
    · rw [h1, h2]
      have ih := wrun_core hU t (q := q2) (st := s2) (p + 1) (p' + 1) h3
      simp only [Alike, Rs.pre, List.map_append] at ih ⊢
      refine ⟨?_, ih.2⟩
      rw [ih.1]
      cases o <;> rfl
end
end Go.Proofs.Ytigifbjdmdcboaa
namespace Go.Proofs.Ytigifbjdmdcboaa
set_option linter.unusedSimpArgs false
set_option linter.unusedVariables false
section
variable {d : Dl}
theorem gather_keep {l : Lm} {m m' : Mk} {e : Ev} (h : gather l m e = .ok m') : (e.b = false → m'.bg = m.bg) ∧ (e.l = true → m'.fl = []) := by
  unfold gather at h
  split at h
  · simp at h
  · rename_i m1 h1
    split at h
    · simp at h
    · rename_i m2 h2
      split at h
      · simp at h
      · rename_i m3 h3
        have b1 : e.b = false → m1.bg = m.bg := fun hb => by
          unfold gBegin at h1; rw [hb] at h1; simp at h1; rw [h1]
        have b2 : m2.bg = m1.bg := by
          unfold gAdd at h2
          split at h2
          · split at h2
            · simp at h2
            · injection h2 with h2; subst h2; rfl
          · injection h2 with h2; subst h2; rfl
        have b3 : m3.bg = m2.bg := by
          unfold gField at h3
          split at h3
          · split at h3
            · simp at h3
            · split at h3
              · simp at h3
              · injection h3 with h3; subst h3; rfl
          · injection h3 with h3; subst h3; rfl
        unfold gLine at h
        split at h
        · split at h
          · simp at h
          · injection h with h; subst h
            exact ⟨fun hb => by simp only [Mk.put]; rw [b3, b2, b1 hb], fun _ => rfl⟩
        · rename_i hl
          injection h with h; subst h
          exact ⟨fun hb => by rw [b3, b2, b1 hb], fun hl' => absurd hl' hl⟩
theorem take_keep {l : Lm} {m : Mk} {e : Ev} {x : Mk × Option (List Str)} (h : takeM l m e = .ok x) : (e.b = false → x.1.bg = m.bg) ∧ (e.l = true → x.1.fl = []) ∧ (e.r = true → x.1.rc = []) ∧ (e.r = false → x.2 = none) := by
  unfold takeM at h
  split at h
  · simp at h
  · rename_i m1 h1
    obtain ⟨k1, k2⟩ := gather_keep h1
    split at h
    · rename_i hr
      injection h with h; subst h
      exact ⟨k1, k2, fun _ => rfl, fun h => by rw [hr] at h; simp at h⟩
    · rename_i hr
      injection h with h; subst h
      exact ⟨k1, k2, fun h => absurd h hr, fun _ => rfl⟩
theorem step_parts {l : Lm} {q st : Int} {m : Mk} {b : UInt8} {x : Int × Int × Mk × Option (List Str)} (h : stepW d l q st m b = .ok x) :
    (stepM q b.toNat) = (x.1, true) ∧ stepR d l st m b = .ok x.2 ∧ takeM l m (scM d st b).1 = .ok (x.2.2.1, x.2.2.2) := by
  unfold stepW at h
  split at h
  · simp at h
  · rename_i hq
    split at h
    · simp at h
    · rename_i y hy
      injection h with h; subst h
      refine ⟨Prod.ext rfl (by simpa using hq), hy, ?_⟩
      unfold stepR at hy
      split at hy
      · simp at hy
      · split at hy
        · simp at hy
        · rename_i z hz
          injection hy with hy; subst hy
          exact hz
theorem sc_lend (st : Int) (b : UInt8) (hs : inR st) (h : (scM d st b).1.l = true) : aft st ∧ ((b.toNat : Int) = 13 ∨ (b.toNat : Int) = 10) := by
  unfold inR at hs
  rcases hs with rfl | rfl | rfl | rfl
  · refine ⟨.inl rfl, ?_⟩
    unfold scM inM at h
    simp only [show ¬ ((1 : Int) = 0) by decide, show ((1 : Int) = 1 ∨ (1 : Int) = 2 ∨ (1 : Int) = 4) by decide, if_true, if_false] at h
    repeat' split at h
    all_goals simp_all
  · refine ⟨.inr (.inl rfl), ?_⟩
    unfold scM inM at h
    simp only [show ¬ ((2 : Int) = 0) by decide, show ((2 : Int) = 1 ∨ (2 : Int) = 2 ∨ (2 : Int) = 4) by decide, if_true, if_false] at h
    repeat' split at h
    all_goals simp_all
  · by_cases hb : (b.toNat : Int) = d.q <;> simp [scM, hb] at h
  · refine ⟨.inr (.inr rfl), ?_⟩
    unfold scM inM at h
    simp only [show ¬ ((4 : Int) = 0) by decide, show ((4 : Int) = 1 ∨ (4 : Int) = 2 ∨ (4 : Int) = 4) by decide, if_true, if_false] at h
    repeat' split at h
    all_goals simp_all
theorem sc_quiet (st : Int) (b : UInt8) (hs : outR st) (h0 : (scM d st b).2.2 = 0) (h : (scM d st b).1.b = false) : (scM d st b).1 = {} ∧ ((b.toNat : Int) = 13 ∨ (b.toNat : Int) = 10) ∧ ((scM d st b).2.1 = 0 → (b.toNat : Int) = 10) := by
  unfold outR at hs
  rcases hs with rfl | rfl
  · unfold scM startM at h h0 ⊢
    simp only [if_true] at h h0 ⊢
    repeat' split at h
    all_goals simp_all
  · by_cases hb : (b.toNat : Int) = 10
    · simp [scM, hb]
    · simp [scM, hb] at h0
theorem sc_five (b : UInt8) (h0 : (scM d 5 b).2.2 = 0) : (b.toNat : Int) = 10 ∧ (scM d 5 b).2.1 = 0 := by
  by_cases hb : (b.toNat : Int) = 10
  · simp [scM, hb]
  · simp [scM, hb] at h0
theorem sc_begin (st : Int) (b : UInt8) (hs : outR st) (h : (scM d st b).1.b = true) : st = 0 := by
  unfold outR at hs
  rcases hs with rfl | rfl
  · rfl
  · by_cases hb : (b.toNat : Int) = 10 <;> simp [scM, hb] at h
theorem sc_out10 (st : Int) (b : UInt8) (hs : inR st) (h : (scM d st b).1.r = true) : (scM d st b).2.1 = 0 ∧ (b.toNat : Int) = 10 := by
  unfold inR at hs
  rcases hs with rfl | rfl | rfl | rfl
  · unfold scM inM at h ⊢
    simp only [show ¬ ((1 : Int) = 0) by decide, show ((1 : Int) = 1 ∨ (1 : Int) = 2 ∨ (1 : Int) = 4) by decide, if_true, if_false] at h ⊢
    repeat' split at h
    all_goals simp_all
  · unfold scM inM at h ⊢
    simp only [show ¬ ((2 : Int) = 0) by decide, show ((2 : Int) = 1 ∨ (2 : Int) = 2 ∨ (2 : Int) = 4) by decide, if_true, if_false] at h ⊢
    repeat' split at h
    all_goals simp_all
  · by_cases hb : (b.toNat : Int) = d.q <;> simp [scM, hb] at h
  · unfold scM inM at h ⊢
    simp only [show ¬ ((4 : Int) = 0) by decide, show ((4 : Int) = 1 ∨ (4 : Int) = 2 ∨ (4 : Int) = 4) by decide, if_true, if_false] at h ⊢
    repeat' split at h
    all_goals simp_all
theorem lf_or {b : UInt8} (h : (b.toNat : Int) = 13 ∨ (b.toNat : Int) = 10) : (b.toNat : Int) < 128 := by omega
theorem in_rec : ∀ (t : Str) (q st : Int) (m : Mk) (fr to p : Nat) (x : Nat × Nat) (rest : List (Nat × Nat)), inR st → spW d wideL q st m fr to p t = x :: rest →
    ∃ c e st3 m3, t = c ++ e ∧ x.2 = p + c.length ∧ goR d wideL st m c = some (st3, m3) ∧ Full q c 0 ∧ aft st3 ∧ m3.bg = m.bg ∧ (e = [] ∨ ∃ z e', e = z :: e' ∧ ((z.toNat : Int) = 13 ∨ (z.toNat : Int) = 10)) := by
  intro t
  induction t with
  | nil =>
    intro q st m fr to p x rest hs h
    rw [spW] at h
    split at h
    · rename_i r he
      simp only [List.cons.injEq] at h
      have hq : q = 0 := by
        unfold endW at he
        split at he
        · simp at he
        · rename_i hq; exact Decidable.not_not.1 hq
      subst hq
      exact ⟨[], [], st, m, rfl, by rw [← h.1]; rfl, rfl, Full.nil, endW_rec he, rfl, .inl rfl⟩
    · simp at h
  | cons b t ih =>
    intro q st m fr to p x rest hs h
    rw [spW] at h
    cases he : stepW d wideL q st m b with
    | error k => rw [he] at h; simp at h
    | ok y =>
      rw [he] at h
      simp only at h
      obtain ⟨e0, e1, e2⟩ := stepW_sc he
      obtain ⟨p1, p2, p3⟩ := step_parts he
      obtain ⟨hb, hk⟩ := (sc_kinds d st b (.inr (.inl hs)) e0).2.1 hs
      have htk := take_keep p3
      rw [hb] at h
      simp only [Bool.false_eq_true, if_false] at h
      rcases hk with ⟨hl, hr, hi⟩ | ⟨hl, hr, hi⟩ | ⟨hl, hr, hi⟩
      · rw [e2, hr, hl] at h
        simp only [Bool.false_eq_true, if_false, List.nil_append] at h
        obtain ⟨c, e, st3, m3, g1, g2, g3, g4, g5, g6, g7⟩ := ih _ _ _ _ _ _ x rest (by rw [e1]; exact hi) h
        have hno : y.2.2.2 = none := htk.2.2.2 hr
        refine ⟨b :: c, e, st3, m3, by rw [g1]; rfl, by simp only [List.length_cons]; omega, ?_, Full.cons p1 g4, g5, by rw [g6]; exact htk.1 hb, g7⟩
        rw [goR, p2]
        have : y.2 = (y.2.1, y.2.2.1, none) := Prod.ext rfl (Prod.ext rfl hno)
        rw [this]
        exact g3
      · rw [e2, hr, hl] at h
        simp only [Bool.false_eq_true, if_false, if_true, List.nil_append] at h
        obtain ⟨ha, hz⟩ := sc_lend st b hs hl
        have hx := (spW_head d wideL _ _ _ _ _ _ _ x rest (.inr (by rw [e1]; exact hi)) h).2 (by rw [e1]; exact hi)
        obtain ⟨rfl, _⟩ := ascii7 (lf_or hz) (by rw [p1])
        exact ⟨[], b :: t, st, m, rfl, by rw [hx]; rfl, rfl, Full.nil, ha, rfl, .inr ⟨b, t, rfl, hz⟩⟩
      · rw [e2, hr, hl] at h
        simp only [if_true, List.singleton_append, List.cons.injEq] at h
        obtain ⟨ha, hz⟩ := sc_lend st b hs hl
        obtain ⟨rfl, _⟩ := ascii7 (lf_or hz) (by rw [p1])
        exact ⟨[], b :: t, st, m, rfl, by rw [← h.1]; rfl, rfl, Full.nil, ha, rfl, .inr ⟨b, t, rfl, hz⟩⟩
structure SpanAt (d : Dl) (q st : Int) (m : Mk) (p : Nat) (t : Str) (SP : List (Nat × Nat)) (i : Nat) (a b : Str) (m2 : Mk) (fr2 to2 : Nat) : Prop where
  cut : t = a ++ b
  sp : spW d wideL 0 0 m2 fr2 to2 (p + a.length) b = SP.drop i
  rc : m2.rc = []
  fl : m2.fl = []
  bg : ∃ c b', b = c :: b' ∧ (scM d 0 c).1.b = true
  lf : (a = [] ∧ st = 0) ∨ ∃ a' z, a = a' ++ [z] ∧ (z.toNat : Int) = 10
  run : ∀ b2, wrun d wideL q st m p (a ++ b2) = (wrun d wideL 0 0 m2 (p + a.length) b2).pre ((wrun d wideL q st m p t).rs.take i)
theorem SpanAt.cons {q st : Int} {m : Mk} {p : Nat} {b : UInt8} {t : Str} {x : Int × Int × Mk × Option (List Str)} {SP : List (Nat × Nat)} {i : Nat} {a c : Str} {m2 : Mk} {fr2 to2 : Nat} (he : stepW d wideL q st m b = .ok x)
    (h : SpanAt d x.1 x.2.1 x.2.2.1 (p + 1) t SP i a c m2 fr2 to2) (hz : a = [] → x.2.1 = 0 → (b.toNat : Int) = 10) {SP' : List (Nat × Nat)} {n : Nat} (hn : n = (oneR x.2.2.2 p).length) (hSP : SP'.drop (n + i) = SP.drop i) :
    SpanAt d q st m p (b :: t) SP' (n + i) (b :: a) c m2 fr2 to2 := by
  obtain ⟨h1, h2, h3, h4, h5, h6, h7⟩ := h
  have e1 : p + (b :: a).length = p + 1 + a.length := by simp only [List.length_cons]; omega
  refine ⟨by rw [h1]; rfl, by rw [e1, h2, hSP], h3, h4, h5, ?_, fun b2 => ?_⟩
  · rcases h6 with ⟨ha, hst⟩ | ⟨a', z, ha, hz'⟩
    · subst ha; exact .inr ⟨[], b, rfl, hz rfl hst⟩
    · exact .inr ⟨b :: a', z, by rw [ha]; rfl, hz'⟩
  · rw [e1, List.cons_append, wrun_cons, he, wrun_cons, he]
    simp only
    rw [h7 b2, pre_pre]
    congr 1
    simp only [Rs.pre]
    rw [hn, List.take_length_add_append]
theorem span_at : ∀ (t : Str) (q st : Int) (m : Mk) (fr to p i : Nat), (outR st ∧ q = 0 ∧ m.rc = [] ∧ m.fl = []) ∨ (inR st ∧ 1 ≤ i) ∨ (st = 5 ∧ q = 0 ∧ m.fl = [] ∧ 1 ≤ i) → i < (spW d wideL q st m fr to p t).length →
    ∃ a b m2 fr2 to2, SpanAt d q st m p t (spW d wideL q st m fr to p t) i a b m2 fr2 to2 := by
  intro t
  induction t with
  | nil =>
    intro q st m fr to p i hs h
    exfalso
    rw [spW] at h
    split at h
    · rename_i r he
      have ha := endW_rec he
      unfold aft at ha
      simp only [List.length_cons, List.length_nil] at h
      rcases hs with ⟨hs, _⟩ | ⟨_, hi⟩ | ⟨_, _, _, hi⟩
      · unfold outR at hs; omega
      · omega
      · omega
    · simp at h
  | cons b t ih =>
    intro q st m fr to p i hs h
    have hk : outR st ∨ inR st ∨ st = 5 := by rcases hs with h | h | h; exact .inl h.1; exact .inr (.inl h.1); exact .inr (.inr h.1)
    cases he : stepW d wideL q st m b with
    | error k => rw [spW, he] at h; simp at h
    | ok y =>
      obtain ⟨e0, e1, e2⟩ := stepW_sc he
      obtain ⟨p1, p2, p3⟩ := step_parts he
      have htk := take_keep p3
      obtain ⟨k1, k2, k3⟩ := sc_kinds d st b hk e0
      rcases hs with ⟨hs, hq, hrc, hfl⟩ | ⟨hs, hi1⟩ | ⟨hs, hq, hfl, hi1⟩
      · obtain ⟨hl, hr, h3⟩ := k1 hs
        have hno : y.2.2.2 = none := htk.2.2.2 hr
        rcases h3 with ⟨hb, ho⟩ | ⟨hb, hi⟩
        · obtain ⟨v1, v2, v3⟩ := sc_quiet st b hs e0 hb
          have hsp : spW d wideL q st m fr to p (b :: t) = spW d wideL y.1 y.2.1 y.2.2.1 fr to (p + 1) t := by
            rw [spW, he]; simp only [hno, hb, hl, Option.isSome_none, Bool.false_eq_true, if_false, List.nil_append]
          rw [hsp] at h
          have hm : y.2.2.1 = m := by
            rw [v1, take_none] at p3
            injection p3 with p3; injection p3 with p3 _; exact p3.symm
          obtain ⟨_, hq2⟩ := ascii7 (lf_or v2) (by rw [p1])
          have hq3 : y.1 = 0 := by rw [p1] at hq2; injection hq2
          obtain ⟨a, c, m2, fr2, to2, hA⟩ := ih y.1 y.2.1 y.2.2.1 fr to (p + 1) i (.inl ⟨by rw [e1]; exact ho, hq3, by rw [hm]; exact hrc, by rw [hm]; exact hfl⟩) h
          refine ⟨b :: a, c, m2, fr2, to2, ?_⟩
          have := SpanAt.cons he hA (fun _ hz => v3 (by rw [← e1]; exact hz)) (SP' := spW d wideL q st m fr to p (b :: t)) (n := 0) (by rw [hno]; rfl) (by rw [hsp, Nat.zero_add])
          rwa [Nat.zero_add] at this
        · have hst := sc_begin st b hs hb
          subst hst
          by_cases hi0 : i = 0
          · subst hi0
            subst hq
            exact ⟨[], b :: t, m, fr, to, rfl, rfl, hrc, hfl, ⟨b, t, rfl, hb⟩, .inl ⟨rfl, rfl⟩, fun b2 => by simp [Rs.pre]⟩
          · have hsp : spW d wideL q 0 m fr to p (b :: t) = spW d wideL y.1 y.2.1 y.2.2.1 p to (p + 1) t := by
              rw [spW, he]; simp only [hno, hb, hl, Option.isSome_none, Bool.false_eq_true, if_false, if_true, List.nil_append]
            rw [hsp] at h
            obtain ⟨a, c, m2, fr2, to2, hA⟩ := ih y.1 y.2.1 y.2.2.1 p to (p + 1) i (.inr (.inl ⟨by rw [e1]; exact hi, by omega⟩)) h
            refine ⟨b :: a, c, m2, fr2, to2, ?_⟩
            have := SpanAt.cons he hA (fun _ hz => by rw [e1] at hz; unfold inR at hi; omega) (SP' := spW d wideL q 0 m fr to p (b :: t)) (n := 0) (by rw [hno]; rfl) (by rw [hsp, Nat.zero_add])
            rwa [Nat.zero_add] at this
      · obtain ⟨hb, h3⟩ := k2 hs
        rcases h3 with ⟨hl, hr, hi⟩ | ⟨hl, hr, hi⟩ | ⟨hl, hr, hi⟩
        · have hno : y.2.2.2 = none := htk.2.2.2 hr
          have hsp : spW d wideL q st m fr to p (b :: t) = spW d wideL y.1 y.2.1 y.2.2.1 fr to (p + 1) t := by
            rw [spW, he]; simp only [hno, hb, hl, Option.isSome_none, Bool.false_eq_true, if_false, List.nil_append]
          rw [hsp] at h
          obtain ⟨a, c, m2, fr2, to2, hA⟩ := ih y.1 y.2.1 y.2.2.1 fr to (p + 1) i (.inr (.inl ⟨by rw [e1]; exact hi, hi1⟩)) h
          refine ⟨b :: a, c, m2, fr2, to2, ?_⟩
          have := SpanAt.cons he hA (fun _ hz => by rw [e1] at hz; unfold inR at hi; omega) (SP' := spW d wideL q st m fr to p (b :: t)) (n := 0) (by rw [hno]; rfl) (by rw [hsp, Nat.zero_add])
          rwa [Nat.zero_add] at this
        · have hno : y.2.2.2 = none := htk.2.2.2 hr
          have hsp : spW d wideL q st m fr to p (b :: t) = spW d wideL y.1 y.2.1 y.2.2.1 fr p (p + 1) t := by
            rw [spW, he]; simp only [hno, hb, hl, Option.isSome_none, Bool.false_eq_true, if_false, if_true, List.nil_append]
          rw [hsp] at h
          obtain ⟨_, hz⟩ := sc_lend st b hs hl
          obtain ⟨_, hq2⟩ := ascii7 (lf_or hz) (by rw [p1])
          have hq3 : y.1 = 0 := by rw [p1] at hq2; injection hq2
          obtain ⟨a, c, m2, fr2, to2, hA⟩ := ih y.1 y.2.1 y.2.2.1 fr p (p + 1) i (.inr (.inr ⟨by rw [e1]; exact hi, hq3, htk.2.1 hl, hi1⟩)) h
          refine ⟨b :: a, c, m2, fr2, to2, ?_⟩
          have := SpanAt.cons he hA (fun _ hz => by rw [e1, hi] at hz; exact absurd hz (by decide)) (SP' := spW d wideL q st m fr to p (b :: t)) (n := 0) (by rw [hno]; rfl) (by rw [hsp, Nat.zero_add])
          rwa [Nat.zero_add] at this
        · obtain ⟨o1, o2⟩ := sc_out10 st b hs hr
          have hso : y.2.2.2.isSome = true := by rw [e2]; exact hr
          have hsp : spW d wideL q st m fr to p (b :: t) = (fr, p) :: spW d wideL y.1 y.2.1 y.2.2.1 fr p (p + 1) t := by
            rw [spW, he]; simp only [hso, hb, hl, Bool.false_eq_true, if_false, if_true, List.singleton_append]
          rw [hsp] at h
          obtain ⟨_, hq2⟩ := ascii7 (lf_or (.inr o2)) (by rw [p1])
          have hq3 : y.1 = 0 := by rw [p1] at hq2; injection hq2
          obtain ⟨j, rfl⟩ : ∃ j, i = 1 + j := ⟨i - 1, by omega⟩
          obtain ⟨a, c, m2, fr2, to2, hA⟩ := ih y.1 y.2.1 y.2.2.1 fr p (p + 1) j (.inl ⟨by rw [e1]; exact hi, hq3, htk.2.2.1 hr, htk.2.1 hl⟩) (by simp only [List.length_cons] at h; omega)
          refine ⟨b :: a, c, m2, fr2, to2, ?_⟩
          exact SpanAt.cons he hA (fun _ _ => o2) (SP' := spW d wideL q st m fr to p (b :: t)) (n := 1) (by cases ho : y.2.2.2 with | none => rw [ho] at hso; simp at hso | some r => rfl) (by rw [hsp, Nat.add_comm]; rfl)
      · subst hs
        obtain ⟨hb, hl, hr, hi⟩ := k3 rfl
        obtain ⟨o2, o1⟩ := sc_five b e0
        have hso : y.2.2.2.isSome = true := by rw [e2]; exact hr
        have hsp : spW d wideL q 5 m fr to p (b :: t) = (fr, to) :: spW d wideL y.1 y.2.1 y.2.2.1 fr to (p + 1) t := by
          rw [spW, he]; simp only [hso, hb, hl, Bool.false_eq_true, if_false, if_true, List.singleton_append]
        rw [hsp] at h
        obtain ⟨_, hq2⟩ := ascii7 (lf_or (.inr o2)) (by rw [p1])
        have hq3 : y.1 = 0 := by rw [p1] at hq2; injection hq2
        have hfl2 : y.2.2.1.fl = [] := by
          rw [s5_10 o2] at p2
          injection p2 with p2
          rw [← p2]; exact hfl
        obtain ⟨j, rfl⟩ : ∃ j, i = 1 + j := ⟨i - 1, by omega⟩
        obtain ⟨a, c, m2, fr2, to2, hA⟩ := ih y.1 y.2.1 y.2.2.1 fr to (p + 1) j (.inl ⟨by rw [e1]; exact hi, hq3, htk.2.2.1 hr, hfl2⟩) (by simp only [List.length_cons] at h; omega)
        refine ⟨b :: a, c, m2, fr2, to2, ?_⟩
        exact SpanAt.cons he hA (fun _ _ => o2) (SP' := spW d wideL q 5 m fr to p (b :: t)) (n := 1) (by cases ho : y.2.2.2 with | none => rw [ho] at hso; simp at hso | some r => rfl) (by rw [hsp, Nat.add_comm]; rfl)
end
end Go.Proofs.Ytigifbjdmdcboaa
namespace Go.Proofs.Ytigifbjdmdcboaa
set_option linter.unusedSimpArgs false
set_option linter.unusedVariables false
theorem gather_beg {l : Lm} {m m' : Mk} {e : Ev} (h : gather l m e = .ok m') (hb : e.b = true) : m'.bg = m.bg + 1 ∧ (m.bg : Int) < l.R := by
  unfold gather at h
  split at h
  · simp at h
  · rename_i m1 h1
    have b1 : m1.bg = m.bg + 1 ∧ (m.bg : Int) < l.R := by
      unfold gBegin at h1; rw [hb] at h1; simp only [if_true] at h1
      split at h1
      · simp at h1
      · injection h1 with h1; subst h1; exact ⟨rfl, by omega⟩
    split at h
    · simp at h
    · rename_i m2 h2
      have b2 : m2.bg = m1.bg := by
        unfold gAdd at h2
        split at h2
        · split at h2
          · simp at h2
          · injection h2 with h2; subst h2; rfl
        · injection h2 with h2; subst h2; rfl
      split at h
      · simp at h
      · rename_i m3 h3
        have b3 : m3.bg = m2.bg := by
          unfold gField at h3
          split at h3
          · split at h3
            · simp at h3
            · split at h3
              · simp at h3
              · injection h3 with h3; subst h3; rfl
          · injection h3 with h3; subst h3; rfl
        unfold gLine at h
        split at h
        · split at h
          · simp at h
          · injection h with h; subst h
            exact ⟨by simp only [Mk.put]; rw [b3, b2, b1.1], b1.2⟩
        · injection h with h; subst h
          exact ⟨by rw [b3, b2, b1.1], b1.2⟩
theorem take_beg {l : Lm} {m : Mk} {e : Ev} {x : Mk × Option (List Str)} (h : takeM l m e = .ok x) (hb : e.b = true) : x.1.bg = m.bg + 1 ∧ (m.bg : Int) < l.R := by
  unfold takeM at h
  split at h
  · simp at h
  · rename_i m1 h1
    have := gather_beg h1 hb
    split at h <;> injection h with h <;> subst h <;> exact this
section
variable {d : Dl}
structure RecAt (d : Dl) (p : Nat) (t : Str) (i : Nat) (a B e : Str) (m2 : Mk) (st3 : Int) (m3 : Mk) : Prop where
  cut : t = a ++ (B ++ e)
  fr : ((spW d wideL 0 0 {} 0 0 p t).getD i default).1 = p + a.length
  to : ((spW d wideL 0 0 {} 0 0 p t).getD i default).2 = p + a.length + B.length
  one : 1 ≤ B.length
  rc : m2.rc = []
  fl : m2.fl = []
  bg : (m2.bg : Int) < wideL.R
  bg3 : m3.bg = m2.bg + 1
  lf : a = [] ∨ ∃ a' z, a = a' ++ [z] ∧ (z.toNat : Int) = 10
  run : ∀ b2, wrun d wideL 0 0 {} p (a ++ b2) = (wrun d wideL 0 0 m2 (p + a.length) b2).pre ((wrun d wideL 0 0 {} p t).rs.take i)
  go : goR d wideL 0 m2 B = some (st3, m3)
  full : Full 0 B 0
  af : aft st3
  tl : e = [] ∨ ∃ z e', e = z :: e' ∧ ((z.toNat : Int) = 13 ∨ (z.toNat : Int) = 10)
theorem rec_at (p : Nat) (t : Str) (i : Nat) (hi : i < (spW d wideL 0 0 {} 0 0 p t).length) : ∃ a B e m2 st3 m3, RecAt d p t i a B e m2 st3 m3 := by
  obtain ⟨a, b, m2, fr2, to2, ⟨h1, h2, h3, h4, ⟨c0, b', hb, hbe⟩, h6, h7⟩⟩ := span_at (d := d) t 0 0 {} 0 0 p i (.inl ⟨.inl rfl, rfl, rfl, rfl⟩) hi
  generalize hSP : spW d wideL 0 0 {} 0 0 p t = SP at *
  subst hb
  have hd : SP.drop i = SP.getD i default :: SP.drop (i + 1) := dropD SP i (by omega)
  rw [hd] at h2
  cases he : stepW d wideL 0 0 m2 c0 with
  | error k => rw [spW, he] at h2; simp at h2
  | ok y =>
    obtain ⟨e0, e1, e2⟩ := stepW_sc he
    obtain ⟨p1, p2, p3⟩ := step_parts he
    obtain ⟨hl, hr, h8⟩ := (sc_kinds d 0 c0 (.inl (.inl rfl)) e0).1 (.inl rfl)
    have hno : y.2.2.2 = none := (take_keep p3).2.2.2 hr
    have hin : inR (scM d 0 c0).2.1 := by
      rcases h8 with ⟨hb, _⟩ | ⟨_, hi⟩
      · rw [hbe] at hb; simp at hb
      · exact hi
    rw [spW, he] at h2
    simp only [hno, hbe, hl, Option.isSome_none, Bool.false_eq_true, if_false, if_true, List.nil_append] at h2
    obtain ⟨c, e, st3, m3, g1, g2, g3, g4, g5, g6, g7⟩ := in_rec b' _ _ _ _ _ _ _ _ (by rw [e1]; exact hin) h2
    have hx1 := (spW_head d wideL _ _ _ _ _ _ _ _ _ (.inl (by rw [e1]; exact hin)) h2).1
    obtain ⟨q1, q2⟩ := take_beg p3 hbe
    refine ⟨a, c0 :: c, e, m2, st3, m3, by rw [h1, g1]; rfl, by rw [hSP]; exact hx1, by rw [hSP, g2]; simp only [List.length_cons]; omega, by simp, h3, h4, q2, by rw [g6]; exact q1, ?_, h7, ?_, Full.cons p1 g4, g5, g7⟩
    · rcases h6 with h6 | h6
      · exact .inl h6.1
      · exact .inr h6
    · have : y.2 = (y.2.1, y.2.2.1, none) := Prod.ext rfl (Prod.ext rfl hno)
      rw [this] at p2
      rw [goR_c p2]; exact g3
theorem wide_U : wideL.U = false := rfl
theorem tail_two (hr : Rt d) {st3 st4 : Int} {m3 m4 : Mk} {e : Str} (p p' : Nat) (h3 : aft st3) (h4 : aft st4) (hbg : m3.bg = m4.bg) (he : e = [] ∨ ∃ z e', e = z :: e' ∧ ((z.toNat : Int) = 13 ∨ (z.toNat : Int) = 10)) (hk : (wrun d wideL 0 st3 m3 p e).k = 0) :
    ∃ X, (wrun d wideL 0 st3 m3 p e).rs.map Prod.fst = (m3.rc ++ [m3.fl]) :: X ∧ (wrun d wideL 0 st4 m4 p' e).rs.map Prod.fst = (m4.rc ++ [m4.fl]) :: X ∧ (wrun d wideL 0 st4 m4 p' e).k = 0 := by
  have s3 : m3.strict wideL = false := rfl
  have s4 : m4.strict wideL = false := rfl
  have hout : ∀ m : Mk, m.put.out.fl = [] ∧ m.put.out.rc = [] ∧ m.put.out.bg = m.bg := fun m => ⟨rfl, rfl, rfl⟩
  have hcore : Core m3.put.out m4.put.out := ⟨rfl, rfl, hbg⟩
  rcases he with rfl | ⟨z, e', rfl, hz⟩
  · refine ⟨[], ?_, ?_, ?_⟩
    · rw [wrun_nil]; unfold endW; rw [if_neg (by decide), a_end h3, if_neg (by rw [s3]; simp)]; rfl
    · rw [wrun_nil]; unfold endW; rw [if_neg (by decide), a_end h4, if_neg (by rw [s4]; simp)]; rfl
    · rw [wrun_nil]; unfold endW; rw [if_neg (by decide), a_end h4, if_neg (by rw [s4]; simp)]
  · have hq := ascii0 (lf_or hz)
    have hw : ∀ {st : Int} {m : Mk}, stepW d wideL 0 st m z = match stepR d wideL st m z with | .error k => .error k | .ok x => .ok (0, x) := fun {st m} => by
      unfold stepW; rw [hq, if_neg (by simp)]; rfl
    rcases hz with hz | hz
    · by_cases hd1 : d.e = 1
      · rw [wrun_cons, hw, a_13 hr h3 hz, if_pos hd1] at hk
        simp at hk
      · rw [wrun_cons, hw, a_13 hr h3 hz, if_neg hd1, if_neg (by rw [s3]; simp)] at hk ⊢
        rw [wrun_cons, hw, a_13 hr h4 hz, if_neg hd1, if_neg (by rw [s4]; simp)]
        simp only [oneR, pre_nil] at hk ⊢
        match e' with
        | [] => rw [wrun_nil] at hk; unfold endW at hk; rw [if_neg (by decide), s56_e (.inl rfl)] at hk; simp at hk
        | y :: e' =>
          by_cases hy : (y.toNat : Int) = 10
          · have hqy := ascii0 (lf_or (.inr hy))
            have hwy : ∀ {m : Mk}, stepW d wideL 0 5 m y = .ok (0, 0, m.out, some m.rc) := fun {m} => by
              unfold stepW; rw [hqy, if_neg (by simp), s5_10 hy]
            rw [wrun_cons, hwy] at hk ⊢
            rw [wrun_cons, hwy]
            have hal := wrun_core (d := d) wide_U e' (q := 0) (st := 0) (p + 1 + 1) (p' + 1 + 1) hcore
            refine ⟨_, by simp only [Rs.pre, oneR, List.map_append, List.map_cons, List.map_nil, List.singleton_append]; rfl, by simp only [Rs.pre, oneR, List.map_append, List.map_cons, List.map_nil, List.singleton_append]; rw [← hal.1]; rfl, ?_⟩
            simp only [Rs.pre] at hk ⊢
            rw [← hal.2]; exact hk
          · exfalso
            have hst : ∃ k, stepW d wideL 0 5 m3.put y = .error k ∧ k ≠ 0 := by
              cases hsy : (stepM 0 y.toNat).2
              · exact ⟨3, by unfold stepW; rw [if_pos hsy], by decide⟩
              · exact ⟨6, by unfold stepW; rw [if_neg (by rw [hsy]; simp), s56_x (.inl rfl) hy], by decide⟩
            obtain ⟨k, h9, h10⟩ := hst
            rw [wrun_cons, h9] at hk
            exact h10 hk
    · by_cases hd2 : d.e = 2
      · rw [wrun_cons, hw, a_10 hr h3 hz, if_pos hd2] at hk
        simp at hk
      · rw [wrun_cons, hw, a_10 hr h3 hz, if_neg hd2, if_neg (by rw [s3]; simp)] at hk ⊢
        rw [wrun_cons, hw, a_10 hr h4 hz, if_neg hd2, if_neg (by rw [s4]; simp)]
        have hal := wrun_core (d := d) wide_U e' (q := 0) (st := 0) (p + 1) (p' + 1) hcore
        refine ⟨_, by simp only [Rs.pre, oneR, List.map_append, List.map_cons, List.map_nil, List.singleton_append]; rfl, by simp only [Rs.pre, oneR, List.map_append, List.map_cons, List.map_nil, List.singleton_append]; rw [← hal.1], ?_⟩
        simp only [Rs.pre] at hk ⊢
        rw [← hal.2]; exact hk
end
end Go.Proofs.Ytigifbjdmdcboaa
namespace Go.Proofs.Ytigifbjdmdcboaa
set_option linter.unusedSimpArgs false
set_option linter.unusedVariables false
section
variable {d : Dl}
theorem right_ascii (hd : byD d) (h : rightD d = true) : ((bQ d).toNat : Int) < 128 ∧ ((bD d).toNat : Int) < 128 := by
  have hq : ((bQ d).toNat : Int) = d.q := byte_of ⟨hd.2.2.1, hd.2.2.2⟩
  have hdl : ((bD d).toNat : Int) = d.dl := byte_of ⟨hd.1, hd.2.1⟩
  unfold rightD mayB at h
  simp only [Bool.and_eq_true, decide_eq_true_eq, Bool.not_eq_true', decide_eq_false_iff_not] at h
  omega
theorem may_parts {r : List Str} (h : mayR r = 0) : r ≠ [] ∧ r.all validM = true := by
  unfold mayR at h
  split at h
  · simp at h
  · rename_i hr
    split at h
    · exact ⟨hr, by assumption⟩
    · simp at h
theorem line_nobom (hd : byD d) (hr : rightD d = true) {r : List Str} (hm : mayR r = 0) {e : Str} (he : e = [] ∨ ∃ z e', e = z :: e' ∧ ((z.toNat : Int) = 13 ∨ (z.toNat : Int) = 10)) : ¬ (lineF d r.length true 0 r ++ e).take 3 = [239, 187, 191] := by
  obtain ⟨aq, adl⟩ := right_ascii hd hr
  obtain ⟨hr0, _⟩ := may_parts hm
  match r, hr0 with
  | f :: r, _ =>
    intro h
    have hL : lineF d (f :: r).length true 0 (f :: r) = wrM d f (decide ((f :: r).length = 1)) true ++ lineF d (f :: r).length true 1 r := by
      simp only [lineF, pieceM, Nat.lt_irrefl, if_false, List.nil_append, Nat.zero_add, Bool.true_and, decide_true]
    rw [hL, List.append_assoc] at h
    have hrest : ∀ c g, lineF d (f :: r).length true 1 r ++ e = c :: g → (c.toNat : Int) < 128 := by
      intro c g hcg
      match r with
      | [] =>
        simp only [lineF, List.nil_append] at hcg
        rcases he with rfl | ⟨z, e', rfl, hz⟩
        · simp at hcg
        · have h1 : z = c := (List.cons.inj hcg).1
          have h2 := lf_or hz
          rw [h1] at h2; exact h2
      | x :: r =>
        simp only [lineF, pieceM, Nat.lt_add_one, if_true, List.cons_append, List.nil_append] at hcg
        have h1 : bD d = c := (List.cons.inj hcg).1
        have h2 := adl
        rw [h1] at h2; exact h2
    generalize lineF d (f :: r).length true 1 r ++ e = G at *
    unfold wrM at h
    split at h
    · simp only [quoM, List.cons_append, List.take_succ_cons] at h
      injection h with h1 _
      rw [h1] at aq
      exact absurd aq (by decide)
    · rename_i hw
      have h0 : ¬ (f.take 3 = [239, 187, 191]) := by
        intro hf
        apply hw
        unfold whyM
        repeat' split
        all_goals first | decide | (exfalso; rename_i h5; exact h5 ⟨rfl, hf⟩)
      match f with
      | [] =>
        match G with
        | [] => simp at h
        | c :: g =>
          simp only [List.nil_append, List.take_succ_cons] at h
          injection h with h1 _
          have := hrest c g rfl
          rw [h1] at this; exact absurd this (by decide)
      | [x] =>
        match G with
        | [] => simp at h
        | c :: g =>
          simp only [List.cons_append, List.nil_append, List.take_succ_cons] at h
          injection h with _ h1
          injection h1 with h1 _
          have := hrest c g rfl
          rw [h1] at this; exact absurd this (by decide)
      | [x, y] =>
        match G with
        | [] => simp at h
        | c :: g =>
          simp only [List.cons_append, List.nil_append, List.take_succ_cons] at h
          injection h with _ h1
          injection h1 with _ h1
          injection h1 with h1 _
          have := hrest c g rfl
          rw [h1] at this; exact absurd this (by decide)
      | x :: y :: z :: f =>
        simp only [List.cons_append, List.take_succ_cons, List.take_zero] at h h0
        exact h0 h
theorem set_text (hd : byD d) (hr : rightD d = true) (s : Str) (i : Nat) (hi : i < (spM d s).length) (hk : (parM d wideL s).k = 0) (r : List Str) (hm : mayR r = 0) (hF : ∀ f ∈ r, (f.length : Int) < 2147483648) (hN : (r.length : Int) ≤ 2147483648) :
    (parM d wideL (s.take ((spM d s).getD i default).1 ++ lineF d r.length (decide (i = 0)) 0 r ++ s.drop ((spM d s).getD i default).2)).rs.map Prod.fst = ((parM d wideL s).rs.map Prod.fst).set i r ∧
    (parM d wideL (s.take ((spM d s).getD i default).1 ++ lineF d r.length (decide (i = 0)) 0 r ++ s.drop ((spM d s).getD i default).2)).k = 0 := by
  obtain ⟨aq, adl⟩ := right_ascii hd hr
  obtain ⟨hr0, hv⟩ := may_parts hm
  have hrt := right_rt hr
  obtain ⟨hsd, hsl⟩ := strip_drop s
  have hlen := spM_len d s
  have hsp := spM_spans d s
  have e1 : spM d s = spW d wideL 0 0 {} 0 0 (s.length - (stripM s).length) (stripM s) := rfl
  have e2 : parM d wideL s = wrun d wideL 0 0 {} (s.length - (stripM s).length) (stripM s) := rfl
  rw [hlen] at hi
  have hi' := hi
  rw [← hlen, e1] at hi'
  obtain ⟨a, B, e, m2, st3, m3, hA⟩ := rec_at _ _ i hi'
  have hone := hA.one
  have hfr := hA.fr
  have hto := hA.to
  rw [← e1] at hfr hto
  have hA0 : i ≠ 0 → a ≠ [] := by
    intro hi0 ha
    have h0 : 0 < (spM d s).length := by rw [hlen]; omega
    have h0' := h0
    rw [e1] at h0'
    obtain ⟨a0, B0, e0, m0, st0, m03, hA0⟩ := rec_at _ _ 0 h0'
    have h1 := hA0.to
    have h2 := hA0.one
    rw [← e1] at h1
    have h3 := hsp.ord 0 i (by omega) (by rw [hlen]; exact hi)
    rw [hfr, ha] at h3
    simp only [List.length_nil] at h3
    omega
  rw [hfr, hto]
  generalize hoff : s.length - (stripM s).length = off at *
  have hcut := hA.cut
  rw [hsd] at hcut
  have hs : s = s.take off ++ (a ++ (B ++ e)) := by rw [← hcut]; exact (List.take_append_drop _ _).symm
  have hol : (s.take off).length = off := by rw [List.length_take]; omega
  generalize hP0 : s.take off = P0 at *
  have ht1 : s.take (off + a.length) = P0 ++ a := by
    rw [hs, ← hol, List.take_length_add_append, List.take_left]
  have ht2 : s.drop (off + a.length + B.length) = e := by
    rw [hs, ← hol, Nat.add_assoc, List.drop_length_add_append, List.drop_length_add_append, List.drop_left]
  rw [ht1, ht2]
  obtain ⟨st4, m4, g1, g2, g3, g4, _, _⟩ := line_run hrt hd wide_U (decide (i = 0)) r m2 hr0 hA.fl hA.rc hF hN hA.bg
  have hfull := line_full aq adl r.length (decide (i = 0)) r 0 hv
  generalize hLL : lineF d r.length (decide (i = 0)) 0 r = L at *
  have hs' : P0 ++ a ++ L ++ e = P0 ++ (a ++ (L ++ e)) := by simp [List.append_assoc]
  rw [hs']
  have hst : stripM (P0 ++ (a ++ (L ++ e))) = a ++ (L ++ e) ∧ (P0 ++ (a ++ (L ++ e))).length - (stripM (P0 ++ (a ++ (L ++ e)))).length = off := by
    have hgo : stripM (P0 ++ (a ++ (L ++ e))) = a ++ (L ++ e) → _ := fun h => (⟨h, by rw [h]; simp only [List.length_append]; omega⟩ : stripM (P0 ++ (a ++ (L ++ e))) = a ++ (L ++ e) ∧ (P0 ++ (a ++ (L ++ e))).length - (stripM (P0 ++ (a ++ (L ++ e)))).length = off)
    apply hgo
    by_cases hb : s.take 3 = [239, 187, 191]
    · have h3 : stripM s = s.drop 3 := by unfold stripM; rw [if_pos hb]
      have hl3 : 3 ≤ s.length := by have := congrArg List.length hb; simp at this; omega
      have ho3 : off = 3 := by rw [← hoff, h3]; simp; omega
      have hP3 : P0 = [239, 187, 191] := by rw [← hP0, ho3]; exact hb
      unfold stripM
      rw [hP3]
      rfl
    · have h0 : stripM s = s := by unfold stripM; rw [if_neg hb]
      have ho0 : off = 0 := by rw [← hoff, h0]; omega
      have hPn : P0 = [] := List.eq_nil_of_length_eq_zero (by rw [hol, ho0])
      rw [hPn, List.nil_append] at hs ⊢
      unfold stripM
      rw [if_neg ?_]
      intro hb2
      rcases hA.lf with ha | ⟨a', z, ha, hz⟩
      · have hi0 : i = 0 := Decidable.byContradiction fun h => hA0 h ha
        subst hi0
        rw [ha, List.nil_append, ← hLL] at hb2
        exact line_nobom hd hr hm hA.tl hb2
      · subst ha
        match a' with
        | [] =>
          simp only [List.nil_append, List.cons_append, List.take_succ_cons] at hb2
          injection hb2 with h1 _
          rw [h1] at hz; exact absurd hz (by decide)
        | [x] =>
          simp only [List.nil_append, List.cons_append, List.take_succ_cons] at hb2
          injection hb2 with _ h1
          injection h1 with h1 _
          rw [h1] at hz; exact absurd hz (by decide)
        | x :: y :: w =>
          apply hb
          rw [hs]
          match w with
          | [] => simpa using hb2
          | v :: w => simpa using hb2
  have hnew : parM d wideL (P0 ++ (a ++ (L ++ e))) = wrun d wideL 0 0 {} off (a ++ (L ++ e)) := by
    unfold parM
    rw [hst.2, hst.1]
  rw [hnew, hA.run (L ++ e), go_wrun L _ g2 hfull]
  have hold : parM d wideL s = (wrun d wideL 0 st3 m3 (off + a.length + B.length) e).pre ((parM d wideL s).rs.take i) := by
    have := hA.run (B ++ e)
    rw [go_wrun B _ hA.go hA.full, ← hA.cut, ← e2] at this
    exact this
  rw [← e2]
  generalize parM d wideL s = R at *
  have hk3 : (wrun d wideL 0 st3 m3 (off + a.length + B.length) e).k = 0 := by rw [hold] at hk; exact hk
  obtain ⟨X, x1, x2, x3⟩ := tail_two hrt (off + a.length + B.length) (off + a.length + L.length) hA.af g1 (hA.bg3.trans g4.symm) hA.tl hk3
  have hmap : R.rs.map Prod.fst = (R.rs.take i).map Prod.fst ++ ((m3.rc ++ [m3.fl]) :: X) := by
    conv => lhs; rw [hold]
    simp only [Rs.pre, List.map_append, x1]
  have hil : ((R.rs.take i).map Prod.fst).length = i := by rw [List.length_map, List.length_take]; omega
  refine ⟨?_, x3⟩
  simp only [Rs.pre, List.map_append, x2, g3]
  rw [hmap, List.set_append_right _ _ (by omega), hil, Nat.sub_self, List.set_cons_zero]
end
end Go.Proofs.Ytigifbjdmdcboaa
