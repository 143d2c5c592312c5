/- Chapter 17, plain: values, their fields, their order. -/
import Derived.Test.YtcphknmkjicpkaaDoorN02
import Derived.Lib.ItoaNum
namespace Go.Proofs.YtcphknmkjicpkaaDoor
set_option linter.unusedSimpArgs false
set_option linter.unusedVariables false
/-- A value: its kind, a text, a number, a truth. -/
structure Val where
  kind : Int
  s : List UInt8
  n : Int
  b : Bool
instance : Inhabited Val := ⟨⟨0, [], 0, false⟩⟩
theorem val_ext {a b : Val} (h1 : a.kind = b.kind) (h2 : a.s = b.s) (h3 : a.n = b.n) (h4 : a.b = b.b) : a = b := by cases a; cases b; simp_all
def rightM (v : Val) : Bool := decide (0 ≤ v.kind ∧ v.kind ≤ 3 ∧ (v.kind = 1 ∨ v.s = []) ∧ (v.kind = 2 ∨ v.n = 0) ∧ (v.kind = 3 ∨ v.b = false)) && validM v.s
def mkdM (s : List UInt8) : Bool := decide (s = [] ∨ s.take 1 = [92])
def encM (v : Val) (k : Int) (nl : Bool) : List UInt8 × Int :=
  if ¬ (1 ≤ k ∧ k ≤ 3) then ([], 22) else if ¬ (rightM v = true ∧ (v.kind = 0 ∨ v.kind = k)) then ([], 21) else if v.kind = 0 then (if nl = true then ([], 0) else ([], 20))
  else if v.kind = 2 then (Lib.itoa v.n, 0) else if v.kind = 3 then ((if v.b = true then [116, 114, 117, 101] else [102, 97, 108, 115, 101]), 0)
  else if nl = true ∧ mkdM v.s = true then (92 :: v.s, 0) else (v.s, 0)
/-! The numeral of a number tells it. -/
def decV (l : List UInt8) : Nat := l.foldl (fun a b => a * 10 + (b.toNat - 48)) 0
theorem decV_app (l : List UInt8) (b : UInt8) : decV (l ++ [b]) = decV l * 10 + (b.toNat - 48) := by simp [decV]
theorem dig_nat {d : Nat} (h : d < 10) : (UInt8.ofNat (48 + d)).toNat - 48 = d := by
  rw [UInt8.toNat_ofNat']; omega
theorem decV_dec : ∀ (n u : Nat), u ≤ n → decV (Lib.decDigits u) = u := by
  intro n
  induction n with
  | zero =>
    intro u hu
    have : u = 0 := by omega
    subst this
    rw [Lib.decDigits, dif_pos (by omega)]; rfl
  | succ n ih =>
    intro u hu
    rw [Lib.decDigits]
    by_cases h : u < 10
    · rw [dif_pos h]
      have := dig_nat h
      simp only [decV, List.foldl_cons, List.foldl_nil]; omega
    · rw [dif_neg h, decV_app, ih (u / 10) (by omega), dig_nat (by omega)]; omega
theorem dec_inj {u v : Nat} (h : Lib.decDigits u = Lib.decDigits v) : u = v := by
  rw [← decV_dec u u (Nat.le_refl _), ← decV_dec v v (Nat.le_refl _), h]
theorem dec_head (u : Nat) : ∀ n, u ≤ n → ∃ d r, d < 10 ∧ Lib.decDigits u = UInt8.ofNat (48 + d) :: r := by
  intro n
  induction n generalizing u with
  | zero =>
    intro hu
    have : u = 0 := by omega
    subst this
    exact ⟨0, [], by omega, by rw [Lib.decDigits, dif_pos (by omega)]⟩
  | succ n ih =>
    intro hu
    rw [Lib.decDigits]
    by_cases h : u < 10
    · rw [dif_pos h]; exact ⟨u, [], h, rfl⟩
    · rw [dif_neg h]
      obtain ⟨d, r, hd, e⟩ := ih (u / 10) (by omega)
      rw [e]
      exact ⟨d, _, hd, rfl⟩
theorem dig_ne {d : Nat} (h : d < 10) : UInt8.ofNat (48 + d) ≠ 45 := by
  intro e
  have := congrArg UInt8.toNat e
  rw [UInt8.toNat_ofNat'] at this
  have h2 : (45 : UInt8).toNat = 45 := rfl
  omega
theorem itoa_ne (n : Int) : Lib.itoa n ≠ [] := by
  unfold Lib.itoa
  split
  · simp
  · obtain ⟨d, r, _, e⟩ := dec_head n.toNat _ (Nat.le_refl _)
    rw [e]; simp
theorem itoa_inj {a b : Int} (h : Lib.itoa a = Lib.itoa b) : a = b := by
  unfold Lib.itoa at h
  obtain ⟨d1, r1, hd1, e1⟩ := dec_head a.toNat _ (Nat.le_refl _)
  obtain ⟨d2, r2, hd2, e2⟩ := dec_head b.toNat _ (Nat.le_refl _)
  split at h <;> split at h
  · have := dec_inj (List.tail_eq_of_cons_eq h); omega
  · rw [e2] at h; exact absurd (List.head_eq_of_cons_eq h).symm (dig_ne hd2)
  · rw [e1] at h; exact absurd (List.head_eq_of_cons_eq h) (dig_ne hd1)
  · have := dec_inj h; omega
/-- Right values, of one kind or null, with one field are one. -/
theorem right_of {v : Val} (h : rightM v = true) : (0 ≤ v.kind ∧ v.kind ≤ 3 ∧ (v.kind = 1 ∨ v.s = []) ∧ (v.kind = 2 ∨ v.n = 0) ∧ (v.kind = 3 ∨ v.b = false)) ∧ validM v.s = true := by
  simpa [rightM] using h
theorem mkd_cons (s : List UInt8) (h : mkdM s = false) : s ≠ [] ∧ ∀ r, s ≠ 92 :: r := by
  simp only [mkdM, decide_eq_false_iff_not, not_or] at h
  refine ⟨h.1, fun r e => h.2 (by rw [e]; rfl)⟩
theorem enc_inj (a b : Val) (k : Int) (nl : Bool) (ha : (encM a k nl).2 = 0) (hb : (encM b k nl).2 = 0) : (encM a k nl).1 = (encM b k nl).1 ↔ a = b := by
  refine ⟨fun h => ?_, fun h => by rw [h]⟩
  unfold encM at ha hb h
  by_cases hk : ¬ (1 ≤ k ∧ k ≤ 3)
  · rw [if_pos hk] at ha; simp at ha
  rw [if_neg hk] at ha hb h
  rw [if_neg hk] at h
  by_cases h1 : ¬ (rightM a = true ∧ (a.kind = 0 ∨ a.kind = k))
  · rw [if_pos h1] at ha; simp at ha
  by_cases h2 : ¬ (rightM b = true ∧ (b.kind = 0 ∨ b.kind = k))
  · rw [if_pos h2] at hb; simp at hb
  rw [if_neg h1] at ha h
  rw [if_neg h2] at hb h
  simp only [Decidable.not_not] at hk h1 h2
  obtain ⟨⟨_, _, a1, a2, a3⟩, _⟩ := right_of h1.1
  obtain ⟨⟨_, _, b1, b2, b3⟩, _⟩ := right_of h2.1
  have hcase : ∀ v : Val, (v.kind = 0 ∨ v.kind = k) → v.kind ≠ 0 → v.kind = k := fun v h h0 => h.resolve_left h0
  have hne : ∀ v : Val, v.kind = k → v.kind ≠ 0 → nl = true → (if v.kind = 2 then (Lib.itoa v.n, (0 : Int)) else if v.kind = 3 then ((if v.b = true then [116, 114, 117, 101] else [102, 97, 108, 115, 101]), 0) else if nl = true ∧ mkdM v.s = true then (92 :: v.s, 0) else (v.s, 0)).1 ≠ [] := by
    intro v _ _ hn
    split
    · exact itoa_ne v.n
    · split
      · cases v.b <;> simp
      · split
        · simp
        · rename_i h3
          have : mkdM v.s = false := by
            cases hm : mkdM v.s with
            | false => rfl
            | true => exact absurd ⟨hn, hm⟩ h3
          exact (mkd_cons _ this).1
  by_cases a0 : a.kind = 0
  · rw [if_pos a0] at ha h
    have hnl : nl = true := by
      cases nl with
      | true => rfl
      | false => simp at ha
    rw [if_pos hnl] at h
    by_cases b0 : b.kind = 0
    · exact val_ext (by omega) (by rw [a1.resolve_left (by omega), b1.resolve_left (by omega)]) (by rw [a2.resolve_left (by omega), b2.resolve_left (by omega)]) (by rw [a3.resolve_left (by omega), b3.resolve_left (by omega)])
    · rw [if_neg b0] at h
      exact absurd h.symm (hne b (hcase b h2.2 b0) b0 hnl)
  · rw [if_neg a0] at ha h
    by_cases b0 : b.kind = 0
    · rw [if_pos b0] at hb h
      have hnl : nl = true := by
        cases nl with
        | true => rfl
        | false => simp at hb
      rw [if_pos hnl] at h
      exact absurd h (hne a (hcase a h1.2 a0) a0 hnl)
    · rw [if_neg b0] at hb h
      have ak := hcase a h1.2 a0
      have bk := hcase b h2.2 b0
      by_cases k2 : k = 2
      · rw [if_pos (show a.kind = 2 by omega), if_pos (show b.kind = 2 by omega)] at h
        exact val_ext (by omega) (by rw [a1.resolve_left (by omega), b1.resolve_left (by omega)]) (itoa_inj h) (by rw [a3.resolve_left (by omega), b3.resolve_left (by omega)])
      · rw [if_neg (show ¬ a.kind = 2 by omega), if_neg (show ¬ b.kind = 2 by omega)] at h
        by_cases k3 : k = 3
        · rw [if_pos (show a.kind = 3 by omega), if_pos (show b.kind = 3 by omega)] at h
          refine val_ext (by omega) (by rw [a1.resolve_left (by omega), b1.resolve_left (by omega)]) (by rw [a2.resolve_left (by omega), b2.resolve_left (by omega)]) ?_
          revert h
          cases a.b <;> cases b.b <;> simp
        · rw [if_neg (show ¬ a.kind = 3 by omega), if_neg (show ¬ b.kind = 3 by omega)] at h
          refine val_ext (by omega) ?_ (by rw [a2.resolve_left (by omega), b2.resolve_left (by omega)]) (by rw [a3.resolve_left (by omega), b3.resolve_left (by omega)])
          by_cases hn : nl = true
          · by_cases ma : mkdM a.s = true <;> by_cases mb : mkdM b.s = true
            · rw [if_pos ⟨hn, ma⟩, if_pos ⟨hn, mb⟩] at h; exact List.tail_eq_of_cons_eq h
            · rw [if_pos ⟨hn, ma⟩, if_neg (fun x => mb x.2)] at h
              exact absurd h.symm ((mkd_cons b.s (by simpa using mb)).2 _)
            · rw [if_neg (fun x => ma x.2), if_pos ⟨hn, mb⟩] at h
              exact absurd h ((mkd_cons a.s (by simpa using ma)).2 _)
            · rw [if_neg (fun x => ma x.2), if_neg (fun x => mb x.2)] at h; exact h
          · rw [if_neg (fun x => hn x.1), if_neg (fun x => hn x.1)] at h; exact h
/-! An order. -/
structure OrdC {α : Type} (c : α → α → Int) : Prop where
  val : ∀ a b, c a b = -1 ∨ c a b = 0 ∨ c a b = 1
  anti : ∀ a b, c b a = - c a b
  zero : ∀ a b, c a b = 0 ↔ a = b
  tr : ∀ a b d, c a b ≤ 0 → c b d ≤ 0 → c a d ≤ 0
def cmpI (a b : Int) : Int := if a < b then -1 else if b < a then 1 else 0
def cmpS (a b : List UInt8) : Int := if Op.bytesLess a b = true then -1 else if Op.bytesLess b a = true then 1 else 0
def cmpB (a b : Bool) : Int := if a = b then 0 else if b = true then -1 else 1
theorem ordI : OrdC cmpI where
  val a b := by unfold cmpI; split <;> (try split) <;> simp
  anti a b := by unfold cmpI; split <;> split <;> (try split) <;> omega
  zero a b := by unfold cmpI; split <;> (try split) <;> constructor <;> intro h <;> omega
  tr a b d := by unfold cmpI; intro h1 h2; split at h1 <;> split at h2 <;> (try split at h1) <;> (try split at h2) <;> (try split) <;> (try split) <;> omega
theorem ordB : OrdC cmpB where
  val a b := by cases a <;> cases b <;> simp [cmpB]
  anti a b := by cases a <;> cases b <;> simp [cmpB]
  zero a b := by cases a <;> cases b <;> simp [cmpB]
  tr a b d := by cases a <;> cases b <;> cases d <;> simp [cmpB]
theorem bl_cons (a b : UInt8) (x y : List UInt8) : Op.bytesLess (a :: x) (b :: y) = (decide (a < b) || (a == b && Op.bytesLess x y)) := by simp [Op.bytesLess]
theorem cmpS_cons (a b : UInt8) (x y : List UInt8) : cmpS (a :: x) (b :: y) = if cmpI a.toNat b.toNat ≠ 0 then cmpI a.toNat b.toNat else cmpS x y := by
  have h1 : (a < b) ↔ a.toNat < b.toNat := Iff.rfl
  have h2 : (b < a) ↔ b.toNat < a.toNat := Iff.rfl
  unfold cmpS
  rw [bl_cons, bl_cons]
  by_cases hab : a = b
  · subst hab
    have h0 : cmpI (a.toNat : Int) a.toNat = 0 := (ordI.zero _ _).2 rfl
    have hn : ¬ (a < a) := fun h => by have := h1.1 h; omega
    rw [if_neg (show ¬ (cmpI (a.toNat : Int) a.toNat ≠ 0) by simp [h0])]
    simp [hn]
  · have hne : a.toNat ≠ b.toNat := fun h => hab (UInt8.toNat_inj.1 h)
    have hba : ¬ b = a := fun h => hab h.symm
    have hz : cmpI (a.toNat : Int) b.toNat ≠ 0 := fun h => by have := (ordI.zero _ _).1 h; omega
    rw [if_pos hz]
    unfold cmpI
    by_cases h3 : a.toNat < b.toNat
    · have h4 : a < b := h1.2 h3
      simp [h4]; omega
    · have h4 : ¬ a < b := fun h => h3 (h1.1 h)
      have h5 : b < a := h2.2 (by omega)
      simp [h4, h5, hab]; omega
theorem ordS : OrdC cmpS where
  val a b := by unfold cmpS; split <;> (try split) <;> simp
  anti a := by
    induction a with
    | nil => intro b; cases b <;> simp [cmpS, Op.bytesLess]
    | cons x a ih =>
      intro b
      cases b with
      | nil => simp [cmpS, Op.bytesLess]
      | cons y b =>
        rw [cmpS_cons, cmpS_cons, ordI.anti x.toNat y.toNat, ih b]
        by_cases h : cmpI (x.toNat : Int) y.toNat = 0 <;> simp [h]
  zero a := by
    induction a with
    | nil => intro b; cases b <;> simp [cmpS, Op.bytesLess]
    | cons x a ih =>
      intro b
      cases b with
      | nil => simp [cmpS, Op.bytesLess]
      | cons y b =>
        rw [cmpS_cons]
        by_cases h : cmpI (x.toNat : Int) y.toNat = 0
        · have h2 := (ordI.zero _ _).1 h
          have h3 : x = y := UInt8.toNat_inj.1 (by omega)
          rw [if_neg (by simp [h]), ih b, h3]; simp
        · rw [if_pos h]
          constructor
          · intro e; exact absurd e h
          · intro e; simp only [List.cons.injEq] at e; rw [e.1] at h; exact absurd ((ordI.zero _ _).2 rfl) h
  tr a := by
    induction a with
    | nil => intro b d _ _; cases d <;> simp [cmpS, Op.bytesLess]
    | cons x a ih =>
      intro b d h1 h2
      cases b with
      | nil => simp [cmpS, Op.bytesLess] at h1
      | cons y b =>
        cases d with
        | nil => simp [cmpS, Op.bytesLess] at h2
        | cons z d =>
          rw [cmpS_cons] at h1 h2 ⊢
          unfold cmpI at *
          by_cases c1 : (x.toNat : Int) < y.toNat <;> by_cases c2 : (y.toNat : Int) < z.toNat <;> by_cases c3 : (y.toNat : Int) < x.toNat <;> by_cases c4 : (z.toNat : Int) < y.toNat <;> by_cases c5 : (x.toNat : Int) < z.toNat <;> by_cases c6 : (z.toNat : Int) < x.toNat <;> simp [c1, c2, c3, c4, c5, c6] at h1 h2 ⊢ <;> first | omega | exact ih b d h1 h2
end Go.Proofs.YtcphknmkjicpkaaDoor
