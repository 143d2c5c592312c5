/- Texts of the proof, joined. -/
import Derived.Test.YtigifbjdmdcboaawMc
namespace Go.Proofs.Ytigifbjdmdcboaa
set_option linter.unusedSimpArgs false
set_option linter.unusedVariables false
section
variable {α : Type} [Inhabited α]
def swapL (xs : List α) (i j : Nat) : List α := (xs.set i (xs.getD j default)).set j (xs.getD i default)
theorem getD_set (xs : List α) (i k : Nat) (y : α) (hi : i < xs.length) : (xs.set i y).getD k default = if k = i then y else xs.getD k default := by
  simp only [List.getD_eq_getElem?_getD, List.getElem?_set]
  by_cases h : i = k
  · subst h; simp [hi]
  · simp [h, Ne.symm h]
theorem swapL_at (xs : List α) (i j k : Nat) (hi : i < xs.length) (hj : j < xs.length) : (swapL xs i j).getD k default = if k = j then xs.getD i default else if k = i then xs.getD j default else xs.getD k default := by
  unfold swapL
  rw [getD_set _ _ _ _ (by simpa using hj), getD_set _ _ _ _ hi]
theorem swapL_perm (xs : List α) (i j : Nat) (hi : i < xs.length) (hj : j < xs.length) : (swapL xs i j).Perm xs := by
  unfold swapL
  have e1 : xs.getD j default = xs[j] := by simp [List.getD_eq_getElem?_getD, hj]
  have e2 : xs.getD i default = xs[i] := by simp [List.getD_eq_getElem?_getD, hi]
  rw [e1, e2]
  exact List.set_set_perm hi hj
structure Kept (a b : Nat) (xs ys : List α) : Prop where
  perm : ys.Perm xs
  out : ∀ k, k < a ∨ b ≤ k → ys.getD k default = xs.getD k default
theorem Kept.len {a b : Nat} {xs ys : List α} (h : Kept a b xs ys) : ys.length = xs.length := h.perm.length_eq
theorem Kept.refl (a b : Nat) (xs : List α) : Kept a b xs xs := ⟨.refl _, fun _ _ => rfl⟩
theorem Kept.trans {a b : Nat} {xs ys zs : List α} (h : Kept a b xs ys) (h' : Kept a b ys zs) : Kept a b xs zs := ⟨h'.perm.trans h.perm, fun k hk => (h'.out k hk).trans (h.out k hk)⟩
theorem Kept.wide {a b a' b' : Nat} {xs ys : List α} (h : Kept a b xs ys) (ha : a' ≤ a) (hb : b ≤ b') : Kept a' b' xs ys := ⟨h.perm, fun k hk => h.out k (by omega)⟩
theorem Kept.src {a b : Nat} {xs ys : List α} (h : Kept a b xs ys) (hab : a ≤ b) (hb : b ≤ xs.length) (k : Nat) (hk : a ≤ k ∧ k < b) : ∃ k', (a ≤ k' ∧ k' < b) ∧ ys.getD k default = xs.getD k' default := by
  have hl := h.len
  have cut : ∀ zs : List α, zs = zs.take a ++ ((zs.drop a).take (b - a) ++ zs.drop b) := fun zs => by
    conv => lhs; rw [← List.take_append_drop a zs, ← List.take_append_drop (b - a) (zs.drop a), List.drop_drop]
    rw [show a + (b - a) = b from by omega]
  have e1 : ys.take a = xs.take a := by
    apply List.ext_getElem?
    intro k
    rw [List.getElem?_take, List.getElem?_take]
    split
    · rename_i hk
      have := h.out k (.inl hk)
      simp only [List.getD_eq_getElem?_getD] at this
      rw [List.getElem?_eq_getElem (by omega), List.getElem?_eq_getElem (by omega)] at this ⊢
      simpa using this
    · rfl
  have e2 : ys.drop b = xs.drop b := by
    apply List.ext_getElem?
    intro k
    rw [List.getElem?_drop, List.getElem?_drop]
    have := h.out (b + k) (.inr (by omega))
    simp only [List.getD_eq_getElem?_getD] at this
    by_cases hk : b + k < xs.length
    · rw [List.getElem?_eq_getElem (by omega), List.getElem?_eq_getElem (by omega)] at this ⊢
      simpa using this
    · rw [List.getElem?_eq_none (by omega), List.getElem?_eq_none (by omega)]
  have hp := h.perm
  rw [cut ys, cut xs, e1, e2] at hp
  have hp2 : ((ys.drop a).take (b - a)).Perm ((xs.drop a).take (b - a)) := (List.perm_append_right_iff _).1 ((List.perm_append_left_iff _).1 hp)
  have hm : ys.getD k default ∈ (ys.drop a).take (b - a) := by
    rw [List.mem_take_iff_getElem]
    refine ⟨k - a, by simp; omega, ?_⟩
    simp only [List.getElem_drop, List.getD_eq_getElem?_getD]
    rw [List.getElem?_eq_getElem (by omega)]
    simp [show a + (k - a) = k from by omega]
  have hm2 := hp2.mem_iff.1 hm
  rw [List.mem_take_iff_getElem] at hm2
  obtain ⟨j, hj, he⟩ := hm2
  simp at hj
  refine ⟨a + j, by omega, ?_⟩
  rw [← he]
  simp only [List.getElem_drop, List.getD_eq_getElem?_getD]
  rw [List.getElem?_eq_getElem (by omega)]; rfl
def Ord (P : α → α → Prop) (a b : Nat) (xs : List α) : Prop := ∀ i j, a ≤ i → i < j → j < b → P (xs.getD i default) (xs.getD j default)
theorem Ord.same {P : α → α → Prop} {a b : Nat} {xs ys : List α} (h : Ord P a b xs) (e : ∀ k, a ≤ k → k < b → ys.getD k default = xs.getD k default) : Ord P a b ys := fun i j h1 h2 h3 => by
  rw [e i h1 (by omega), e j (by omega) h3]; exact h i j h1 h2 h3
def rangeSw (a b n k : Nat) : Nat := if a ≤ k ∧ k < a + n then k + b - a else if b ≤ k ∧ k < b + n then k + a - b else k
def rotSw (a m b k : Nat) : Nat := if a ≤ k ∧ k < a + (b - m) then k + m - a else if a + (b - m) ≤ k ∧ k < b then k + m - b else k
def At (xs ys : List α) (f : Nat → Nat) : Prop := ∀ k, ys.getD k default = xs.getD (f k) default
theorem range_step {a b n i : Nat} {xs cur : List α} (h : At xs cur (rangeSw a b i)) (hi : i < n) (hab : a + n ≤ b) (hl : cur.length = xs.length) (hb : b + n ≤ xs.length) : At xs (swapL cur (a + i) (b + i)) (rangeSw a b (i + 1)) := by
  intro k
  rw [swapL_at cur _ _ k (by omega) (by omega), h, h, h]
  have ea : rangeSw a b i (a + i) = a + i := by unfold rangeSw; rw [if_neg (by omega), if_neg (by omega)]
  have eb : rangeSw a b i (b + i) = b + i := by unfold rangeSw; rw [if_neg (by omega), if_neg (by omega)]
  rw [ea, eb]
  have : ∀ p q : Nat, p = q → xs.getD p default = xs.getD q default := fun p q e => by rw [e]
  split
  · apply this; unfold rangeSw; rw [if_neg (by omega), if_pos (by omega)]; omega
  · split
    · apply this; unfold rangeSw; rw [if_pos (by omega)]; omega
    · apply this; unfold rangeSw; (repeat' split) <;> omega
theorem rot_big {T cur cur' : List α} {m i j : Nat} (hT : At cur T (rotSw (m - i) m (m + j))) (hc : At cur cur' (rangeSw (m - i) m j)) (hij : j < i) (him : i ≤ m) : At cur' T (rotSw (m - (i - j)) m (m + j)) := by
  intro k
  rw [hT, hc]
  congr 1
  unfold rotSw rangeSw
  (repeat' split) <;> omega
theorem rot_small {T cur cur' : List α} {m i j : Nat} (hT : At cur T (rotSw (m - i) m (m + j))) (hc : At cur cur' (rangeSw (m - i) (m + j - i) i)) (hij : i < j) (him : i ≤ m) : At cur' T (rotSw (m - i) m (m + (j - i))) := by
  intro k
  rw [hT, hc]
  congr 1
  unfold rotSw rangeSw
  (repeat' split) <;> omega
theorem rot_last {T cur cur' : List α} {m i : Nat} (hT : At cur T (rotSw (m - i) m (m + i))) (hc : At cur cur' (rangeSw (m - i) m i)) (him : i ≤ m) : ∀ k, T.getD k default = cur'.getD k default := by
  intro k
  rw [hT, hc]
  congr 1
  unfold rotSw rangeSw
  (repeat' split) <;> omega
theorem range_zero (a b k : Nat) : rangeSw a b 0 k = k := by unfold rangeSw; rw [if_neg (by omega), if_neg (by omega)]
end
section
variable {α : Type} (sc : α → Int) (ix : α → Nat)
def Bef (x y : α) : Prop := sc y < sc x ∨ sc x = sc y ∧ ix x < ix y
variable {sc ix}
theorem Bef.trans {x y z : α} (h : Bef sc ix x y) (h' : Bef sc ix y z) : Bef sc ix x z := by unfold Bef at *; omega
theorem bef_lt {x y : α} (h : sc y < sc x) : Bef sc ix x y := .inl h
theorem bef_ge {x y : α} (h : ¬ sc y < sc x) (hi : ix y < ix x) : Bef sc ix y x := by unfold Bef; omega
end
section
variable {α : Type} [Inhabited α] {sc : α → Int} {ix : α → Nat}
theorem Ord.le {P : α → α → Prop} {a b : Nat} {xs : List α} (h : Ord P a b xs) {i j : Nat} (h1 : a ≤ i) (h2 : i ≤ j) (h3 : j < b) {y : α} (ht : ∀ {x y z}, P x y → P y z → P x z) (hy : P (xs.getD j default) y) : P (xs.getD i default) y := by
  rcases Nat.lt_or_ge i j with hl | hl
  · exact ht (h i j h1 hl h3) hy
  · rw [show i = j from by omega]; exact hy
theorem Ord.ge {P : α → α → Prop} {a b : Nat} {xs : List α} (h : Ord P a b xs) {i j : Nat} (h1 : a ≤ i) (h2 : i ≤ j) (h3 : j < b) {y : α} (ht : ∀ {x y z}, P x y → P y z → P x z) (hy : P y (xs.getD i default)) : P y (xs.getD j default) := by
  rcases Nat.lt_or_ge i j with hl | hl
  · exact ht hy (h i j h1 hl h3)
  · rw [show j = i from by omega]; exact hy
def mvDn (m i k : Nat) : Nat := if i < k ∧ k ≤ m then k - 1 else if k = i then m else k
def mvUp (a i k : Nat) : Nat := if a ≤ k ∧ k < i then k + 1 else if k = i then a else k
theorem mvDn_self (m k : Nat) : mvDn m m k = k := by unfold mvDn; rw [if_neg (by omega)]; split <;> omega
theorem mvUp_self (a k : Nat) : mvUp a a k = k := by unfold mvUp; rw [if_neg (by omega)]; split <;> omega
theorem dn_step {m i : Nat} {xs cur : List α} (h : At xs cur (mvDn m (i + 1))) (hi : i < m) (hl : m < cur.length) : At xs (swapL cur (i + 1) i) (mvDn m i) := by
  intro k
  rw [swapL_at cur _ _ k (by omega) (by omega), h, h, h]
  have : ∀ p q : Nat, p = q → xs.getD p default = xs.getD q default := fun p q e => by rw [e]
  split
  · apply this; unfold mvDn; (repeat' split) <;> omega
  · split <;> (apply this; unfold mvDn; (repeat' split) <;> omega)
theorem up_step {a i : Nat} {xs cur : List α} (h : At xs cur (mvUp a i)) (hi : a ≤ i) (hl : i + 1 < cur.length) : At xs (swapL cur i (i + 1)) (mvUp a (i + 1)) := by
  intro k
  rw [swapL_at cur _ _ k (by omega) (by omega), h, h, h]
  have : ∀ p q : Nat, p = q → xs.getD p default = xs.getD q default := fun p q e => by rw [e]
  split
  · apply this; unfold mvUp; (repeat' split) <;> omega
  · split <;> (apply this; unfold mvUp; (repeat' split) <;> omega)
theorem dn_ord {a m i : Nat} {xs ys : List α} (h : Ord (Bef sc ix) a m xs) (hy : At xs ys (mvDn m i)) (h1 : a ≤ i) (h2 : i ≤ m) (h3 : i = a ∨ Bef sc ix (xs.getD (i - 1) default) (xs.getD m default)) (h4 : i = m ∨ Bef sc ix (xs.getD m default) (xs.getD i default)) : Ord (Bef sc ix) a (m + 1) ys := by
  intro p q hp hpq hq
  rw [hy p, hy q]
  unfold mvDn
  by_cases p1 : i < p ∧ p ≤ m
  · rw [if_pos p1, if_pos (by omega)]; exact h _ _ (by omega) (by omega) (by omega)
  · rw [if_neg p1]
    by_cases p2 : p = i
    · rw [if_pos p2, if_pos (by omega)]
      rcases h4 with h4 | h4
      · omega
      · exact h.ge (i := i) (j := q - 1) (by omega) (by omega) (by omega) Bef.trans h4
    · rw [if_neg p2]
      by_cases q1 : i < q ∧ q ≤ m
      · rw [if_pos q1]; exact h _ _ (by omega) (by omega) (by omega)
      · rw [if_neg q1]
        by_cases q2 : q = i
        · rw [if_pos q2]
          rcases h3 with h3 | h3
          · omega
          · exact h.le (i := p) (j := i - 1) (by omega) (by omega) (by omega) Bef.trans h3
        · rw [if_neg q2]; exact h _ _ (by omega) (by omega) (by omega)
theorem up_ord {a b i : Nat} {xs ys : List α} (h : Ord (Bef sc ix) (a + 1) b xs) (hy : At xs ys (mvUp a i)) (h1 : a ≤ i) (h2 : i < b) (h3 : i = a ∨ Bef sc ix (xs.getD i default) (xs.getD a default)) (h4 : i + 1 = b ∨ Bef sc ix (xs.getD a default) (xs.getD (i + 1) default)) : Ord (Bef sc ix) a b ys := by
  intro p q hp hpq hq
  rw [hy p, hy q]
  unfold mvUp
  by_cases q1 : a ≤ q ∧ q < i
  · rw [if_pos q1, if_pos (by omega)]; exact h _ _ (by omega) (by omega) (by omega)
  · rw [if_neg q1]
    by_cases q2 : q = i
    · rw [if_pos q2, if_pos (by omega)]
      rcases h3 with h3 | h3
      · omega
      · exact h.le (i := p + 1) (j := i) (by omega) (by omega) (by omega) Bef.trans h3
    · rw [if_neg q2]
      by_cases p1 : a ≤ p ∧ p < i
      · rw [if_pos p1]; exact h _ _ (by omega) (by omega) (by omega)
      · rw [if_neg p1]
        by_cases p2 : p = i
        · rw [if_pos p2]
          rcases h4 with h4 | h4
          · omega
          · exact h.ge (i := i + 1) (j := q) (by omega) (by omega) (by omega) Bef.trans h4
        · rw [if_neg p2]; exact h _ _ (by omega) (by omega) (by omega)
variable (sc ix)
structure MgPre (a m b : Nat) (xs : List α) : Prop where
  am : a ≤ m
  mb : m ≤ b
  len : b ≤ xs.length
  l : Ord (Bef sc ix) a m xs
  r : Ord (Bef sc ix) m b xs
  s : ∀ i j, a ≤ i → i < m → m ≤ j → j < b → ix (xs.getD i default) < ix (xs.getD j default)
structure MgPost (a b : Nat) (xs ys : List α) : Prop where
  kept : Kept a b xs ys
  ord : Ord (Bef sc ix) a b ys
variable {sc ix}
theorem MgPre.at_l {a b : Nat} {xs : List α} (h : MgPre sc ix a a b xs) : MgPost sc ix a b xs xs := ⟨Kept.refl _ _ _, h.r⟩
theorem MgPre.at_r {a b : Nat} {xs : List α} (h : MgPre sc ix a b b xs) : MgPost sc ix a b xs xs := ⟨Kept.refl _ _ _, h.l⟩
theorem MgPre.same {a m b : Nat} {xs ys : List α} (h : MgPre sc ix a m b xs) (hl : ys.length = xs.length) (e : ∀ k, a ≤ k → k < b → ys.getD k default = xs.getD k default) : MgPre sc ix a m b ys :=
  ⟨h.am, h.mb, by rw [hl]; exact h.len, h.l.same fun k h1 h2 => e k h1 (by have := h.mb; omega), h.r.same fun k h1 h2 => e k (by have := h.am; omega) h2, fun i j h1 h2 h3 h4 => by
    rw [e i h1 (by omega), e j (by omega) h4]; exact h.s i j h1 h2 h3 h4⟩
theorem mg_split {a m b mid s e : Nat} {xs cur : List α} (h : MgPre sc ix a m b xs) (hmid : mid = (a + b) / 2) (ha : a ≤ s) (hs : s ≤ m) (hsm : s ≤ mid) (he : e + s = mid + m) (hb : e ≤ b)
    (h1 : s = a ∨ e = b ∨ Bef sc ix (xs.getD (s - 1) default) (xs.getD e default)) (h2 : s = m ∨ e = m ∨ Bef sc ix (xs.getD (e - 1) default) (xs.getD s default)) (hc : At xs cur (rotSw s m e)) (hl : cur.length = xs.length) :
    MgPre sc ix a s mid cur ∧ MgPre sc ix mid e b cur ∧ ∀ i j, a ≤ i → i < mid → mid ≤ j → j < b → Bef sc ix (cur.getD i default) (cur.getD j default) := by
  have hlen := h.len
  have hr : ∀ k, rotSw s m e k = if s ≤ k ∧ k < mid then k + m - s else if mid ≤ k ∧ k < e then k + m - e else k := fun k => by
    unfold rotSw; rw [show s + (e - m) = mid from by omega]
  have hmb := h.mb
  have ham := h.am
  have cA : ∀ k, k < s → cur.getD k default = xs.getD k default := fun k hk => by rw [hc, hr, if_neg (by omega), if_neg (by omega)]
  have cB : ∀ k, s ≤ k → k < mid → cur.getD k default = xs.getD (k + m - s) default := fun k h1 h2 => by rw [hc, hr, if_pos (by omega)]
  have cC : ∀ k, mid ≤ k → k < e → cur.getD k default = xs.getD (k + m - e) default := fun k h1 h2 => by rw [hc, hr, if_neg (by omega), if_pos (by omega)]
  have cD : ∀ k, mid ≤ k → e ≤ k → cur.getD k default = xs.getD k default := fun k h1 h2 => by rw [hc, hr, if_neg (by omega), if_neg (by omega)]
  refine ⟨⟨ha, hsm, by omega, ?_, ?_, ?_⟩, ⟨by omega, hb, by omega, ?_, ?_, ?_⟩, ?_⟩
  · intro i j p q t; rw [cA i (by omega), cA j (by omega)]; exact h.l i j (by omega) q (by omega)
  · intro i j p q t; rw [cB i p (by omega), cB j (by omega) t]; exact h.r _ _ (by omega) (by omega) (by omega)
  · intro i j p q t u; rw [cA i q, cB j t u]; exact h.s _ _ (by omega) (by omega) (by omega) (by omega)
  · intro i j p q t; rw [cC i p (by omega), cC j (by omega) t]; exact h.l _ _ (by omega) (by omega) (by omega)
  · intro i j p q t; rw [cD i (by omega) p, cD j (by omega) (by omega)]; exact h.r _ _ (by omega) q t
  · intro i j p q t u; rw [cC i p q, cD j (by omega) t]; exact h.s _ _ (by omega) (by omega) (by omega) (by omega)
  · intro i j p q t u
    rcases Nat.lt_or_ge i s with hi | hi
    · rw [cA i hi]
      rcases Nat.lt_or_ge j e with hj | hj
      · rw [cC j t hj]; exact h.l _ _ (by omega) (by omega) (by omega)
      · rw [cD j t hj]
        rcases h1 with h1 | h1 | h1
        · omega
        · omega
        · exact h.r.ge (i := e) (by omega) hj u Bef.trans (h.l.le (j := s - 1) p (by omega) (by omega) Bef.trans h1)
    · rw [cB i hi q]
      rcases Nat.lt_or_ge j e with hj | hj
      · rw [cC j t hj]
        rcases h2 with h2 | h2 | h2
        · omega
        · omega
        · exact h.l.ge (i := s) (by omega) (by omega) (by omega) Bef.trans (h.r.le (j := e - 1) (by omega) (by omega) (by omega) Bef.trans h2)
      · rw [cD j t hj]; exact h.r _ _ (by omega) (by omega) (by omega)
theorem mg_join {a m b mid : Nat} {xs cur c1 c2 : List α} (hk : Kept a b xs cur) (ha : a ≤ mid) (hmb : mid ≤ b) (hlen : b ≤ xs.length)
    (hx : ∀ i j, a ≤ i → i < mid → mid ≤ j → j < b → Bef sc ix (cur.getD i default) (cur.getD j default)) (h1 : MgPost sc ix a mid cur c1) (h2 : MgPost sc ix mid b c1 c2) : MgPost sc ix a b xs c2 := by
  have l0 := hk.len
  have l1 := h1.kept.len
  refine ⟨(hk.trans (h1.kept.wide (Nat.le_refl _) hmb)).trans (h2.kept.wide ha (Nat.le_refl _)), fun i j p q t => ?_⟩
  rcases Nat.lt_or_ge j mid with hj | hj
  · rw [h2.kept.out i (by omega), h2.kept.out j (by omega)]; exact h1.ord i j p q hj
  · rcases Nat.lt_or_ge i mid with hi | hi
    · rw [h2.kept.out i (by omega)]
      obtain ⟨i', hi', e1⟩ := h1.kept.src ha (by omega) i ⟨p, hi⟩
      obtain ⟨j', hj', e2⟩ := h2.kept.src hmb (by omega) j ⟨hj, t⟩
      rw [e1, e2, h1.kept.out j' (by omega)]
      exact hx i' j' hi'.1 hi'.2 hj'.1 hj'.2
    · exact h2.ord i j hi q t
theorem Kept.of_at {a b : Nat} {xs ys : List α} (hp : ys.Perm xs) {f : Nat → Nat} (h : At xs ys f) (hf : ∀ k, k < a ∨ b ≤ k → f k = k) : Kept a b xs ys := ⟨hp, fun k hk => by rw [h, hf k hk]⟩
theorem rot_out {s m e k : Nat} (h1 : s ≤ m) (h2 : m ≤ e) (h : k < s ∨ e ≤ k) : rotSw s m e k = k := by unfold rotSw; rw [if_neg (by omega), if_neg (by omega)]
theorem rot_l (m e k : Nat) : rotSw m m e k = k := by unfold rotSw; (repeat' split) <;> omega
theorem rot_r (s m k : Nat) : rotSw s m m k = k := by unfold rotSw; (repeat' split) <;> omega
end
end Go.Proofs.Ytigifbjdmdcboaa
