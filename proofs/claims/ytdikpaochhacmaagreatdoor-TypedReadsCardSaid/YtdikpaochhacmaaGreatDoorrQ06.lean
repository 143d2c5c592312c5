/- Texts of the proof, joined. -/
import Derived.Test.YtdikpaochhacmaaGreatDoorrPa
namespace Go.Proofs.YtdikpaochhacmaaGreatDoor
set_option linter.unusedSimpArgs false
set_option linter.unusedVariables false
structure Rt (d : Dl) : Prop where
  q13 : ¬ d.q = 13
  q10 : ¬ d.q = 10
  d13 : ¬ d.dl = 13
  d10 : ¬ d.dl = 10
  dq : ¬ d.dl = d.q
section
variable {d : Dl} {l : Lm} {m : Mk} {b : UInt8} {st : Int}
theorem wrongE_f (h13 : ¬ (b.toNat : Int) = 13) (h10 : ¬ (b.toNat : Int) = 10) : wrongE d b.toNat = false := by
  unfold wrongE; simp [h13, h10]
theorem wrongE_13 (h : (b.toNat : Int) = 13) : wrongE d b.toNat = decide (d.e = 1) := by
  unfold wrongE; rw [h]; by_cases e : d.e = 1 <;> simp [e]
theorem wrongE_10 (h : (b.toNat : Int) = 10) : wrongE d b.toNat = decide (d.e = 2) := by
  unfold wrongE; rw [h]; by_cases e : d.e = 2 <;> simp [e]
theorem stepR_of {e : Ev} {s : Int} (h : scM d st b = (e, s, 0)) : stepR d l st m b = match takeM l m e with
    | .error k => .error k
    | .ok x => .ok (s, x.1, x.2) := by
  unfold stepR; rw [h, if_neg (by simp)]; rfl
theorem stepR_er {e : Ev} {s k : Int} (h : scM d st b = (e, s, k)) (hk : k ≠ 0) : stepR d l st m b = .error k := by
  unfold stepR; rw [h, if_pos hk]
theorem take_none : takeM l m {} = .ok (m, none) := rfl
theorem take_b : takeM l m { b := true } = if l.R ≤ m.bg then .error 9 else .ok ({ m with bg := m.bg + 1 }, none) := by
  by_cases h : l.R ≤ m.bg <;> simp [takeM, gather, gBegin, gAdd, gField, gLine, h]
theorem take_a (c : UInt8) : takeM l m { a := true, c := c } = if l.F ≤ m.fl.length then .error 7 else .ok ({ m with fl := m.fl ++ [c] }, none) := by
  by_cases h : l.F ≤ m.fl.length <;> simp [takeM, gather, gBegin, gAdd, gField, gLine, h]
theorem take_f : takeM l m { f := true } = if l.N ≤ (m.rc.length + 1 : Nat) then .error 8 else if m.strict l = true ∧ m.rc.length + 1 = m.wd then .error 10 else .ok (m.put, none) := by
  have e : m.put.rc.length = m.rc.length + 1 := by simp [Mk.put]
  have hg : gather l m { f := true } = gField l true m := by
    simp only [gather, gBegin, gAdd, if_false, Bool.false_eq_true]
    cases gField l true m <;> rfl
  unfold takeM
  rw [hg]
  unfold gField
  rw [if_pos rfl, e]
  by_cases h : l.N ≤ ((m.rc.length + 1 : Nat) : Int)
  · rw [if_pos h, if_pos h]
  · rw [if_neg h, if_neg h]
    by_cases h2 : m.strict l = true ∧ m.rc.length + 1 = m.wd
    · rw [if_pos h2, if_pos h2]
    · rw [if_neg h2, if_neg h2]; rfl
theorem take_l : takeM l m { l := true } = if m.strict l = true ∧ m.rc.length + 1 ≠ m.wd then .error 10 else .ok (m.put, none) := by
  have e : m.put.rc.length = m.rc.length + 1 := by simp [Mk.put]
  have hg : gather l m { l := true } = gLine l true m := rfl
  unfold takeM
  rw [hg]
  unfold gLine
  rw [if_pos rfl, e]
  by_cases h2 : m.strict l = true ∧ m.rc.length + 1 ≠ m.wd
  · rw [if_pos h2, if_pos h2]
  · rw [if_neg h2, if_neg h2]; rfl
theorem take_lr : takeM l m { l := true, r := true } = if m.strict l = true ∧ m.rc.length + 1 ≠ m.wd then .error 10 else .ok (m.put.out, some (m.rc ++ [m.fl])) := by
  have e : m.put.rc.length = m.rc.length + 1 := by simp [Mk.put]
  have hg : gather l m { l := true, r := true } = gLine l true m := rfl
  unfold takeM
  rw [hg]
  unfold gLine
  rw [if_pos rfl, e]
  by_cases h2 : m.strict l = true ∧ m.rc.length + 1 ≠ m.wd
  · rw [if_pos h2, if_pos h2]
  · rw [if_neg h2, if_neg h2]; rfl
theorem take_r : takeM l m { r := true } = .ok (m.out, some m.rc) := rfl
theorem s3q (h : (b.toNat : Int) = d.q) : stepR d l 3 m b = .ok (4, m, none) := by
  rw [stepR_of (e := {}) (s := 4) (by simp [scM, h]), take_none]
theorem s3x (h : ¬ (b.toNat : Int) = d.q) : stepR d l 3 m b = if l.F ≤ m.fl.length then .error 7 else .ok (3, { m with fl := m.fl ++ [b] }, none) := by
  rw [stepR_of (e := { a := true, c := b }) (s := 3) (by simp [scM, h]), take_a]
  by_cases hF : l.F ≤ (m.fl.length : Int) <;> simp only [hF, if_true, if_false]
theorem s4q (hr : Rt d) (h : (b.toNat : Int) = d.q) : stepR d l 4 m b = if l.F ≤ m.fl.length then .error 7 else .ok (3, { m with fl := m.fl ++ [b] }, none) := by
  have hw := wrongE_f (d := d) (b := b) (by rw [h]; exact hr.q13) (by rw [h]; exact hr.q10)
  rw [h] at hw
  rw [stepR_of (e := { a := true, c := b }) (s := 3) (by simp [scM, inM, hw, h]), take_a]
  by_cases hF : l.F ≤ (m.fl.length : Int) <;> simp only [hF, if_true, if_false]
theorem s4b (h : ¬ (b.toNat : Int) = d.q) (h1 : ¬ (b.toNat : Int) = d.dl) (h2 : ¬ (b.toNat : Int) = 13) (h3 : ¬ (b.toNat : Int) = 10) : stepR d l 4 m b = .error 5 := by
  have hw := wrongE_f (d := d) h2 h3
  exact stepR_er (e := {}) (s := 0) (by simp [scM, inM, hw, h, h1, h2, h3]) (by decide)
theorem s2q (hr : Rt d) (h : (b.toNat : Int) = d.q) : stepR d l 2 m b = .error 4 := by
  have hw := wrongE_f (d := d) (b := b) (by rw [h]; exact hr.q13) (by rw [h]; exact hr.q10)
  rw [h] at hw
  exact stepR_er (e := {}) (s := 0) (by simp [scM, inM, hw, h]) (by decide)
theorem s1q (hr : Rt d) (h : (b.toNat : Int) = d.q) : stepR d l 1 m b = .ok (3, m, none) := by
  have hw := wrongE_f (d := d) (b := b) (by rw [h]; exact hr.q13) (by rw [h]; exact hr.q10)
  rw [h] at hw
  rw [stepR_of (e := {}) (s := 3) (by simp [scM, inM, hw, h]), take_none]
theorem s12x (hs : st = 1 ∨ st = 2) (h : ¬ (b.toNat : Int) = d.q) (h1 : ¬ (b.toNat : Int) = d.dl) (h2 : ¬ (b.toNat : Int) = 13) (h3 : ¬ (b.toNat : Int) = 10) :
    stepR d l st m b = if l.F ≤ m.fl.length then .error 7 else .ok (2, { m with fl := m.fl ++ [b] }, none) := by
  have hw := wrongE_f (d := d) h2 h3
  rw [stepR_of (e := { a := true, c := b }) (s := 2) (by rcases hs with rfl | rfl <;> simp [scM, inM, hw, h, h1, h2, h3]), take_a]
  by_cases hF : l.F ≤ (m.fl.length : Int) <;> simp only [hF, if_true, if_false]
theorem s0b (h2 : ¬ (b.toNat : Int) = 13) (h3 : ¬ (b.toNat : Int) = 10) : stepR d l 0 m b = if l.R ≤ m.bg then .error 9 else stepR d l 1 { m with bg := m.bg + 1 } b := by
  have hw := wrongE_f (d := d) h2 h3
  by_cases hR : l.R ≤ m.bg
  · rw [if_pos hR]
    by_cases h : (b.toNat : Int) = d.q
    · rw [h] at hw
      rw [stepR_of (e := { b := true }) (s := 3) (by simp [scM, startM, hw, h]), take_b, if_pos hR]
    · by_cases h1 : (b.toNat : Int) = d.dl
      · rw [h1] at hw h
        rw [stepR_of (e := { b := true, f := true }) (s := 1) (by simp [scM, startM, hw, h, h1])]
        simp [takeM, gather, gBegin, hR]
      · rw [stepR_of (e := { b := true, a := true, c := b }) (s := 2) (by simp [scM, startM, hw, h, h1, h2, h3])]
        simp [takeM, gather, gBegin, hR]
  · rw [if_neg hR]
    by_cases h : (b.toNat : Int) = d.q
    · rw [h] at hw
      rw [stepR_of (e := { b := true }) (s := 3) (by simp [scM, startM, hw, h]), stepR_of (e := {}) (s := 3) (by simp [scM, inM, hw, h]), take_b, if_neg hR]
      rfl
    · by_cases h1 : (b.toNat : Int) = d.dl
      · rw [h1] at hw h
        rw [stepR_of (e := { b := true, f := true }) (s := 1) (by simp [scM, startM, hw, h, h1]), stepR_of (e := { f := true }) (s := 1) (by simp [scM, inM, hw, h, h1])]
        simp [takeM, gather, gBegin, hR]
      · rw [stepR_of (e := { b := true, a := true, c := b }) (s := 2) (by simp [scM, startM, hw, h, h1, h2, h3]), stepR_of (e := { a := true, c := b }) (s := 2) (by simp [scM, inM, hw, h, h1, h2, h3])]
        simp [takeM, gather, gBegin, hR]
def aft (st : Int) : Prop := st = 1 ∨ st = 2 ∨ st = 4
theorem a_d (hr : Rt d) (hs : aft st) (h : (b.toNat : Int) = d.dl) : stepR d l st m b = if l.N ≤ (m.rc.length + 1 : Nat) then .error 8 else if m.strict l = true ∧ m.rc.length + 1 = m.wd then .error 10 else .ok (1, m.put, none) := by
  have hw := wrongE_f (d := d) (b := b) (by rw [h]; exact hr.d13) (by rw [h]; exact hr.d10)
  rw [h] at hw
  have hq : ¬ (b.toNat : Int) = d.q := by rw [h]; exact hr.dq
  rw [stepR_of (e := { f := true }) (s := 1) (by rcases hs with rfl | rfl | rfl <;> simp [scM, inM, hw, h, hr.dq]), take_f]
  by_cases h1 : l.N ≤ ((m.rc.length + 1 : Nat) : Int)
  · rw [if_pos h1, if_pos h1]
  · rw [if_neg h1, if_neg h1]
    by_cases h2 : m.strict l = true ∧ m.rc.length + 1 = m.wd
    · rw [if_pos h2, if_pos h2]
    · rw [if_neg h2, if_neg h2]
theorem a_13 (hr : Rt d) (hs : aft st) (h : (b.toNat : Int) = 13) : stepR d l st m b = if d.e = 1 then .error 6 else if m.strict l = true ∧ m.rc.length + 1 ≠ m.wd then .error 10 else .ok (5, m.put, none) := by
  have hw := wrongE_13 (d := d) h
  have hq : ¬ (b.toNat : Int) = d.q := by rw [h]; exact fun e => hr.q13 e.symm
  have hd : ¬ (b.toNat : Int) = d.dl := by rw [h]; exact fun e => hr.d13 e.symm
  by_cases e1 : d.e = 1
  · rw [if_pos e1]
    exact stepR_er (e := {}) (s := 0) (by rcases hs with rfl | rfl | rfl <;> simp [scM, inM, hw, e1]) (by decide)
  · rw [if_neg e1, stepR_of (e := { l := true }) (s := 5) (by rcases hs with rfl | rfl | rfl <;> simp [scM, inM, hw, e1, hq, hd] <;> simp [h]), take_l]
    by_cases h2 : m.strict l = true ∧ m.rc.length + 1 ≠ m.wd
    · rw [if_pos h2, if_pos h2]
    · rw [if_neg h2, if_neg h2]
theorem a_10 (hr : Rt d) (hs : aft st) (h : (b.toNat : Int) = 10) : stepR d l st m b = if d.e = 2 then .error 6 else if m.strict l = true ∧ m.rc.length + 1 ≠ m.wd then .error 10 else .ok (0, m.put.out, some (m.rc ++ [m.fl])) := by
  have hw := wrongE_10 (d := d) h
  have hq : ¬ (b.toNat : Int) = d.q := by rw [h]; exact fun e => hr.q10 e.symm
  have hd : ¬ (b.toNat : Int) = d.dl := by rw [h]; exact fun e => hr.d10 e.symm
  by_cases e1 : d.e = 2
  · rw [if_pos e1]
    exact stepR_er (e := {}) (s := 0) (by rcases hs with rfl | rfl | rfl <;> simp [scM, inM, hw, e1]) (by decide)
  · rw [if_neg e1, stepR_of (e := { l := true, r := true }) (s := 0) (by rcases hs with rfl | rfl | rfl <;> simp [scM, inM, hw, e1, hq, hd] <;> simp [h]), take_lr]
    by_cases h2 : m.strict l = true ∧ m.rc.length + 1 ≠ m.wd
    · rw [if_pos h2, if_pos h2]
    · rw [if_neg h2, if_neg h2]
theorem a_end (hs : aft st) : endR l st m = if m.strict l = true ∧ m.rc.length + 1 ≠ m.wd then .error 10 else .ok (some (m.rc ++ [m.fl])) := by
  have hc : closeM st = ({ l := true, r := true }, 0) := by rcases hs with rfl | rfl | rfl <;> simp [closeM]
  unfold endR
  rw [hc, if_neg (by simp)]
  simp only [take_lr]
  by_cases h2 : m.strict l = true ∧ m.rc.length + 1 ≠ m.wd
  · rw [if_pos h2, if_pos h2]
  · rw [if_neg h2, if_neg h2]
theorem s5_10 (h : (b.toNat : Int) = 10) : stepR d l 5 m b = .ok (0, m.out, some m.rc) := by
  rw [stepR_of (e := { r := true }) (s := 0) (by simp [scM, h]), take_r]
theorem s6_10 (h : (b.toNat : Int) = 10) : stepR d l 6 m b = .ok (0, m, none) := by
  rw [stepR_of (e := {}) (s := 0) (by simp [scM, h]), take_none]
theorem s56_x (hs : st = 5 ∨ st = 6) (h : ¬ (b.toNat : Int) = 10) : stepR d l st m b = .error 6 :=
  stepR_er (e := {}) (s := 0) (by rcases hs with rfl | rfl <;> simp [scM, h]) (by decide)
theorem s56_e (hs : st = 5 ∨ st = 6) : endR l st m = .error 6 := by rcases hs with rfl | rfl <;> rfl
theorem s3_e : endR l 3 m = .error 11 := rfl
theorem s0_e : endR l 0 m = .ok none := rfl
theorem s0_13 (hr : Rt d) (h : (b.toNat : Int) = 13) : stepR d l 0 m b = if d.e = 1 then .error 6 else .ok (6, m, none) := by
  have hw := wrongE_13 (d := d) h
  have hq : ¬ (b.toNat : Int) = d.q := by rw [h]; exact fun e => hr.q13 e.symm
  have hd : ¬ (b.toNat : Int) = d.dl := by rw [h]; exact fun e => hr.d13 e.symm
  by_cases e1 : d.e = 1
  · rw [if_pos e1]
    exact stepR_er (e := {}) (s := 0) (by simp [scM, startM, hw, e1]) (by decide)
  · rw [if_neg e1, stepR_of (e := {}) (s := 6) (by simp [scM, startM, hw, e1, hq, hd] <;> simp [h]), take_none]
theorem s0_10 (hr : Rt d) (h : (b.toNat : Int) = 10) : stepR d l 0 m b = if d.e = 2 then .error 6 else .ok (0, m, none) := by
  have hw := wrongE_10 (d := d) h
  have hq : ¬ (b.toNat : Int) = d.q := by rw [h]; exact fun e => hr.q10 e.symm
  have hd : ¬ (b.toNat : Int) = d.dl := by rw [h]; exact fun e => hr.d10 e.symm
  by_cases e1 : d.e = 2
  · rw [if_pos e1]
    exact stepR_er (e := {}) (s := 0) (by simp [scM, startM, hw, e1]) (by decide)
  · rw [if_neg e1, stepR_of (e := {}) (s := 0) (by simp [scM, startM, hw, e1, hq, hd] <;> simp [h]), take_none]
end
def rn (d : Dl) (l : Lm) (s : List UInt8) (st : Int) (m : Mk) (p : Nat) : Rs := mrun d l st m p (s.drop p)
section
variable {d : Dl} {l : Lm} {s : List UInt8} {st st' : Int} {m m' : Mk} {p : Nat} {k : Int} {r : List (List UInt8)}
theorem rn_cons (h : p < s.length) : rn d l s st m p = match stepR d l st m (s.getD p 0) with
    | .error k => ⟨[], k, p⟩
    | .ok x => (rn d l s x.1 x.2.1 (p + 1)).pre (oneR x.2.2 p) := by
  unfold rn
  rw [List.drop_eq_getElem_cons h, List.getD_eq_getElem?_getD, List.getElem?_eq_getElem h, mrun]; rfl
theorem rn_er (h : p < s.length) (hs : stepR d l st m (s.getD p 0) = .error k) : rn d l s st m p = ⟨[], k, p⟩ := by rw [rn_cons h, hs]
theorem rn_go (h : p < s.length) (hs : stepR d l st m (s.getD p 0) = .ok (st', m', none)) : rn d l s st m p = rn d l s st' m' (p + 1) := by rw [rn_cons h, hs]; rfl
theorem rn_rc (h : p < s.length) (hs : stepR d l st m (s.getD p 0) = .ok (st', m', some r)) : rn d l s st m p = (rn d l s st' m' (p + 1)).pre [(r, p)] := by rw [rn_cons h, hs]; rfl
theorem rn_nil (h : s.length ≤ p) : rn d l s st m p = match endR l st m with
    | .error k => ⟨[], k, p⟩
    | .ok r => ⟨oneR r p, 0, 0⟩ := by
  unfold rn
  rw [List.drop_eq_nil_of_le h, mrun]; rfl
end
theorem mrun_shift (d : Dl) (l : Lm) (o : Nat) : ∀ (t : List UInt8) (st : Int) (m : Mk) (p : Nat), mrun d l st m (p + o) t = ⟨(mrun d l st m p t).rs.map fun x => (x.1, x.2 + o), (mrun d l st m p t).k, if (mrun d l st m p t).k = 0 then 0 else (mrun d l st m p t).a + o⟩ := by
  intro t
  induction t with
  | nil =>
    intro st m p
    rw [mrun, mrun]
    cases h : endR l st m with
    | error k => have := end_err h; simp; omega
    | ok r => cases r <;> simp [oneR]
  | cons b t ih =>
    intro st m p
    rw [mrun, mrun]
    cases h : stepR d l st m b with
    | error k => have := step_err h; simp; omega
    | ok x =>
      obtain ⟨s', m', r⟩ := x
      simp only
      rw [show p + o + 1 = p + 1 + o from by omega, ih]
      cases r <;> simp [Rs.pre, oneR] <;> rfl
def refKA (s : List UInt8) (g : Rs) (off : Nat) : Int × Int :=
  if 0 ≤ rbadM s then (if g.k = 0 ∨ rbadM s ≤ (if g.k = 0 then (s.length : Int) else g.a + off) then (3, rbadM s) else (g.k, if g.k = 0 then (s.length : Int) else g.a + off))
  else if wholeM s < s.length ∧ (if g.k = 0 then (s.length : Int) else g.a + off) = s.length then (12, s.length) else (g.k, if g.k = 0 then (s.length : Int) else g.a + off)
theorem filter_map_fst (l : List (List (List UInt8) × Nat)) (o : Nat) (f : Nat → Bool) : ((l.map fun x => (x.1, x.2 + o)).filter fun x => f x.2).map (·.1) = (l.filter fun x => f (x.2 + o)).map (·.1) := by
  induction l with
  | nil => rfl
  | cons x l ih => simp only [List.map_cons, List.filter_cons]; split <;> simp [ih]
theorem ref_fin (d : Dl) (l : Lm) (s t : List UInt8) (off : Nat) (hlen : s.length = t.length + off) (hrun : (runM 0 s).1 = (runM 0 t).1 ∧ (runM 0 s).2 = (runM 0 t).2 + off) (R g : Rs) (hR : R = wrun d l 0 0 {} off t) (hg : g = mrun d l 0 {} 0 t) :
    (refKA s g off).1 = R.k ∧ (if (refKA s g off).1 = 0 then 0 else (refKA s g off).2) = R.a ∧ (g.rs.filter fun x => decide ((refKA s g off).1 = 0 ∨ ((x.2 : Int) + off < (refKA s g off).2))).map (·.1) = R.rs.map (·.1) := by
  have hsh := mrun_shift d l off t 0 {} 0
  rw [Nat.zero_add] at hsh
  obtain ⟨h1, h2, h3⟩ := mrun_ends d l t 0 {} 0
  rw [← hg] at hsh h1 h2 h3
  have hb := (bads s).1
  have hle := run_le t 0
  obtain ⟨r1, r2⟩ := hrun
  subst hR
  rw [wrun_mix, hsh]
  unfold mixR refKA
  simp only
  have hmap : (g.rs.map fun x => (x.1, x.2 + off)).map (·.1) = g.rs.map (·.1) := by rw [List.map_map]; rfl
  have hall : ∀ f : (List (List UInt8) × Nat) → Bool, (∀ x ∈ g.rs, f x = true) → (g.rs.filter f).map (·.1) = (g.rs.map fun x => (x.1, x.2 + off)).map (·.1) := by
    intro f hf
    rw [List.filter_eq_self.2 hf, hmap]
  have hfil : ∀ (f : (List (List UInt8) × Nat) → Bool) (n : Nat), (∀ x ∈ g.rs, f x = decide (x.2 + off < n)) → (g.rs.filter f).map (·.1) = ((g.rs.map fun x => (x.1, x.2 + off)).filter fun x => decide (x.2 < n)).map (·.1) := by
    intro f n hf
    rw [filter_map_fst _ off (fun k => decide (k < n)), List.filter_congr hf]
  by_cases hn : (runM 0 t).2 < t.length
  · have hbad : badM s = (3, ((runM 0 s).2 : Int)) := by unfold badM; rw [if_pos (by omega)]
    have hb0 : 0 ≤ rbadM s := by
      apply Decidable.byContradiction
      intro h
      rw [hbad, if_neg h] at hb
      split at hb <;> simp at hb
    rw [hbad, if_pos hb0] at hb
    have hb := (Prod.mk.inj hb).2
    have hbv : rbadM s = ((off + (runM 0 t).2 : Nat) : Int) := by omega
    simp only [hn, hb0, if_true]
    by_cases hk0 : g.k = 0
    · simp only [hk0, if_true, true_or]
      refine ⟨by trivial, ?_, ?_⟩
      · simp only [if_neg (show ¬ (3 : Int) = 0 by decide)]; exact hbv
      · refine hfil _ _ fun x _ => ?_
        rw [hbv, Bool.eq_iff_iff]; simp; omega
    · simp only [hk0, if_false, false_or]
      by_cases hc : rbadM s ≤ (g.a : Int) + off
      · rw [if_pos hc, if_pos (show off + (runM 0 t).2 ≤ g.a + off by omega)]
        refine ⟨by trivial, ?_, ?_⟩
        · simp only [if_neg (show ¬ (3 : Int) = 0 by decide)]; exact hbv
        · refine hfil _ _ fun x _ => ?_
          rw [hbv, Bool.eq_iff_iff]; simp; omega
      · rw [if_neg hc, if_neg (show ¬ off + (runM 0 t).2 ≤ g.a + off by omega)]
        refine ⟨by trivial, ?_, ?_⟩
        · simp only [if_neg hk0]; omega
        · refine hall _ fun x hx => ?_
          have := (h1 x hx).2.2 hk0
          simp only [decide_eq_true_eq]; right; omega
  · have heq : (runM 0 t).2 = t.length := by omega
    simp only [hn, if_false]
    by_cases hq : (runM 0 t).1 = 0
    · have hbad : badM s = (0, 0) := by unfold badM; rw [if_neg (by omega), if_neg (by rw [r1]; simp [hq])]
      rw [hbad] at hb
      have hb0 : ¬ 0 ≤ rbadM s := by
        intro h
        rw [if_pos h] at hb
        have := (Prod.mk.inj hb).1
        omega
      rw [if_neg hb0] at hb
      have hw : ¬ wholeM s < s.length := by
        intro h
        rw [if_pos h] at hb
        have := (Prod.mk.inj hb).1
        omega
      simp only [hb0, hw, hq, if_false, false_and, ne_eq, not_true_eq_false]
      by_cases hk0 : g.k = 0
      · simp only [hk0, if_true, true_or, decide_true]
        exact ⟨by trivial, by trivial, hall _ fun _ _ => rfl⟩
      · simp only [hk0, if_false, false_or]
        refine ⟨by trivial, by omega, hall _ fun x hx => ?_⟩
        have := (h1 x hx).2.2 hk0
        simp only [decide_eq_true_eq]; omega
    · have hbad : badM s = (12, ((runM 0 s).2 : Int)) := by unfold badM; rw [if_neg (by omega), if_pos (by rw [r1]; exact hq)]
      rw [hbad] at hb
      have hb0 : ¬ 0 ≤ rbadM s := by
        intro h
        rw [if_pos h] at hb
        have := (Prod.mk.inj hb).1
        omega
      rw [if_neg hb0] at hb
      have hw : wholeM s < s.length := by
        apply Decidable.byContradiction
        intro h
        rw [if_neg h] at hb
        have := (Prod.mk.inj hb).1
        omega
      simp only [hb0, hw, hq, if_false, true_and, ne_eq, not_false_eq_true]
      by_cases hk0 : g.k = 0
      · simp only [hk0, if_true, true_or]
        refine ⟨by trivial, ?_, ?_⟩
        · simp only [if_neg (show ¬ (12 : Int) = 0 by decide)]; omega
        · refine hfil _ _ fun x _ => ?_
          rw [Bool.eq_iff_iff]; simp; omega
      · simp only [hk0, if_false, false_or]
        by_cases hc : (g.a : Int) + off = s.length
        · rw [if_pos hc, if_pos (show g.a + off = off + t.length by omega)]
          refine ⟨by trivial, ?_, ?_⟩
          · simp only [if_neg (show ¬ (12 : Int) = 0 by decide)]; omega
          · refine hfil _ _ fun x _ => ?_
            rw [Bool.eq_iff_iff]; simp; omega
        · rw [if_neg hc, if_neg (show ¬ g.a + off = off + t.length by omega)]
          refine ⟨by trivial, by simp only [if_neg hk0]; omega, hall _ fun x hx => ?_⟩
          have := (h1 x hx).2.2 hk0
          simp only [decide_eq_true_eq]; right; omega
end Go.Proofs.YtdikpaochhacmaaGreatDoor
