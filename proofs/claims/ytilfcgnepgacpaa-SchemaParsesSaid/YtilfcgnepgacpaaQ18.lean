/- Chapter 18, plain: what is right, what fits, what is alike. -/
import Derived.Test.YtilfcgnepgacpaaP18
namespace Go.Proofs.Ytilfcgnepgacpaa
set_option linter.unusedSimpArgs false
set_option linter.unusedVariables false
def namesC (l : List Col) : List Str := l.map (·.name)
theorem checkF_ok : ∀ (l : List Col) (a : List Str), (checkF a (l.map nkC)).2 = 0 → a.Nodup → (∀ c ∈ l, 1 ≤ c.kind ∧ c.kind ≤ 3 ∧ validM c.name = true) ∧ (a ++ namesC l).Nodup ∧ checkF a (l.map nkC) = ((a.length : Int) + l.length, 0) := by
  intro l
  induction l with
  | nil => intro a _ h; simpa [namesC, checkF] using h
  | cons c r ih =>
    intro a h ha
    have e : (c :: r).map nkC = (c.name, c.kind) :: r.map nkC := rfl
    rw [e, checkF_cons] at h ⊢
    split at h
    · rename_i h1
      split at h
      · rename_i h2
        split at h
        · simp at h
        · rename_i h3
          have hn : c.name ∉ a := fun hm => h3 ((atM_mem _ _).2 hm)
          obtain ⟨i1, i2, i3⟩ := ih (a ++ [c.name]) h (by rw [List.nodup_append]; exact ⟨ha, by simp, by intro x hx y hy e; simp at hy; subst hy; subst e; exact hn hx⟩)
          rw [if_pos h1, if_pos h2, if_neg h3]
          refine ⟨fun d hd => ?_, by simpa [namesC] using i2, ?_⟩
          · rcases List.mem_cons.1 hd with rfl | hd
            · exact ⟨h1.1, h1.2, h2⟩
            · exact i1 d hd
          · rw [i3]; simp; omega
      · simp at h
    · simp at h
structure RightC (l : List Col) : Prop where
  ne : l ≠ []
  ok : ∀ c ∈ l, 1 ≤ c.kind ∧ c.kind ≤ 3 ∧ validM c.name = true
  nd : (namesC l).Nodup
  eq : checkM (l.map nkC) = ((l.length : Int), 0)
theorem check_right (l : List Col) (h : (checkM (l.map nkC)).2 = 0) : RightC l := by
  unfold checkM at h
  split at h
  · simp at h
  · rename_i hl
    obtain ⟨h1, h2, h3⟩ := checkF_ok l [] h (by simp)
    refine ⟨fun e => hl (by simp [e]), h1, by simpa using h2, ?_⟩
    rw [checkM, if_neg hl, h3]; simp
def textM (l : List Col) : Str := l.flatMap lineC
theorem lines_text (l : List Col) (hl : ∀ c ∈ l, 1 ≤ c.kind ∧ c.kind ≤ 3 ∧ validM c.name = true) : linesF [] (textM l) = l.map lineC := by
  induction l with
  | nil => rfl
  | cons c r ih =>
    have hc := hl c (by simp)
    have hk : c.kind = 1 ∨ c.kind = 2 ∨ c.kind = 3 := by omega
    have hno : (10 : UInt8) ∉ wordM c.kind ++ (quM c.null ++ 32 :: spM c.name) := by
      have h5 := sp_no c.name
      have h6 : (10 : UInt8) ∉ wordM c.kind := by rcases hk with e | e | e <;> rw [e] <;> decide
      have h7 : (10 : UInt8) ∉ quM c.null := by cases c.null <;> decide
      simp [h5, h6, h7]
    have e : textM (c :: r) = (wordM c.kind ++ (quM c.null ++ 32 :: spM c.name)) ++ 10 :: textM r := by simp [textM, lineC]
    rw [linesF_cut, e, cut_at 10 _ _ hno]
    simp only [List.nil_append, List.map_cons]
    rw [ih fun d hd => hl d (by simp [hd])]
    simp [lineC]
theorem prsF_text (l : List Col) : ∀ a : List Col, (∀ c ∈ l, 1 ≤ c.kind ∧ c.kind ≤ 3 ∧ validM c.name = true) → (namesC a ++ namesC l).Nodup → prsF a (l.map lineC) = (a ++ l, (a.length : Int) + l.length, 0) := by
  induction l with
  | nil => intro a _ _; simp [prsF]
  | cons c r ih =>
    intro a hl hn
    have hc := hl c (by simp)
    have h1 : lcM (lineC c) = some c := (lc_iff _ _).2 ⟨rfl, hc.2.2, hc.1, hc.2.1⟩
    have h2 : ¬ 0 ≤ atM (a.map (·.name)) c.name := fun h => by
      have hm := (atM_mem _ _).1 h
      rw [List.nodup_append] at hn
      exact hn.2.2 _ hm c.name (by simp [namesC]) rfl
    rw [List.map_cons, prsF, h1]
    simp only
    rw [if_neg h2, ih (a ++ [c]) (fun d hd => hl d (by simp [hd])) (by simpa [namesC] using hn)]
    simp; omega
theorem prs_text (l : List Col) (h : RightC l) : prsM (textM l) = (l, (l.length : Int), 0) := by
  have hne : textM l ≠ [] := by
    intro e
    cases l with
    | nil => exact h.ne rfl
    | cons c r => simp [textM, lineC] at e
  rw [prsM, if_neg hne, lines_text l h.ok, prsF_text l [] h.ok (by simpa [namesC] using h.nd)]
  simp
theorem text_inj (a b : List Col) (ha : RightC a) (hb : RightC b) : (textM a = textM b) ↔ a = b := by
  constructor
  · intro e
    have h1 := prs_text a ha
    rw [e, prs_text b hb] at h1
    simp at h1; exact h1.1.symm
  · rintro rfl; rfl
theorem toR_inj {a b : Col} (h : toR a = toR b) : a = b := by
  cases a; cases b
  simp only [toR, RCol.mk.injEq] at h
  obtain ⟨h1, h2, h3⟩ := h
  subst h1; subst h2
  rename_i n1 n2
  cases n1 <;> cases n2 <;> simp_all
theorem mapR_inj {a b : List Col} : a.map toR = b.map toR ↔ a = b := by
  constructor
  · intro h
    exact List.map_inj_right (fun x y => toR_inj) |>.1 h
  · rintro rfl; rfl
/-- Which column has a name. -/
def fitM (b : List Col) (c : Col) : Int :=
  if atM (namesC b) c.name < 0 then 16 else if (b.getD (atM (namesC b) c.name).toNat default).kind ≠ c.kind then 21 else if c.null = true ∧ (b.getD (atM (namesC b) c.name).toNat default).null = false then 20 else 0
def fitsF (b : List Col) : List Col → Nat → Int × Int
  | [], i => (i, 0)
  | c :: r, i => if fitM b c ≠ 0 then (i, fitM b c) else fitsF b r (i + 1)
theorem fitsF_cons (b : List Col) (c : Col) (r : List Col) (i : Nat) : fitsF b (c :: r) i = if fitM b c ≠ 0 then ((i : Int), fitM b c) else fitsF b r (i + 1) := rfl
theorem fits_iff (b : List Col) : ∀ (a : List Col) (i : Nat), (fitsF b a i).2 = 0 ↔ ∀ c ∈ a, fitM b c = 0 := by
  intro a
  induction a with
  | nil => intro i; simp [fitsF]
  | cons c r ih =>
    intro i
    rw [fitsF_cons]
    by_cases h : fitM b c = 0
    · rw [if_neg (by simpa using h), ih]; simp [h]
    · rw [if_pos h]; simp [h]
theorem atM_get (l : List Str) (s : Str) (h : 0 ≤ atM l s) : l.getD (atM l s).toNat default = s := by
  induction l with
  | nil => simp [atM, atF] at h
  | cons n r ih =>
    rw [atM_cons] at h ⊢
    by_cases hn : n = s
    · rw [if_pos hn]; simpa using hn
    · rw [if_neg hn] at h ⊢
      by_cases h2 : 0 ≤ atM r s
      · rw [if_pos h2] at h ⊢
        have : (1 + atM r s).toNat = (atM r s).toNat + 1 := by omega
        rw [this]
        have := ih h2
        simpa using this
      · rw [if_neg h2] at h; omega
theorem atM_nd (l : List Str) (hn : l.Nodup) : ∀ (k : Nat), k < l.length → atM l (l.getD k default) = k := by
  induction l with
  | nil => intro k h; simp at h
  | cons n r ih =>
    intro k h
    rw [List.nodup_cons] at hn
    cases k with
    | zero => rw [atM_cons, if_pos (by simp)]; rfl
    | succ k =>
      simp only [List.length_cons] at h
      have hk : k < r.length := by omega
      have hg : (n :: r).getD (k + 1) default = r.getD k default := by simp
      have hm : r.getD k default ∈ r := getD_mem r k (by omega)
      rw [hg, atM_cons, if_neg (fun e => hn.1 (by rw [e]; exact hm)), ih hn.2 k hk, if_pos (by omega)]
      omega
theorem fit_self (a : List Col) (hr : RightC a) : ∀ c ∈ a, fitM a c = 0 := by
  intro c hc
  obtain ⟨k, hk, rfl⟩ := List.mem_iff_getElem.1 hc
  have hl : (namesC a).length = a.length := by simp [namesC]
  have e1 : a.getD k default = a[k] := by simp [List.getD, List.getElem?_eq_getElem hk]
  have e2 : (namesC a).getD k default = a[k].name := by
    have := mapG (·.name) a k (by omega)
    rw [namesC, this, e1]
  have e3 := atM_nd (namesC a) hr.nd k (by omega)
  rw [e2] at e3
  unfold fitM
  rw [e3, if_neg (by omega), Int.toNat_natCast, e1]
  simp
theorem fit_on (b c : List Col) (x : Col) (h1 : fitM b x = 0) (h2 : ∀ y ∈ b, fitM c y = 0) : fitM c x = 0 := by
  unfold fitM at h1
  split at h1
  · simp at h1
  · rename_i h3
    split at h1
    · simp at h1
    · rename_i h4
      split at h1
      · simp at h1
      · rename_i h5
        have hlt := atM_lt (namesC b) x.name
        have hl : (namesC b).length = b.length := by simp [namesC]
        have hm : b.getD (atM (namesC b) x.name).toNat default ∈ b := getD_mem b _ (by omega)
        have h6 := h2 _ hm
        have h7 := atM_get (namesC b) x.name (by omega)
        have h8 := mapG (·.name) b (atM (namesC b) x.name).toNat (by omega)
        have h9 : (b.getD (atM (namesC b) x.name).toNat default).name = x.name := by rw [← h8]; exact h7
        generalize b.getD (atM (namesC b) x.name).toNat default = y at h4 h5 h6 h9
        unfold fitM at h6 ⊢
        rw [h9] at h6
        split at h6
        · simp at h6
        · rename_i g1
          split at h6
          · simp at h6
          · rename_i g2
            split at h6
            · simp at h6
            · rename_i g3
              rw [if_neg g1, if_neg (by omega)]
              rw [if_neg]
              rintro ⟨q1, q2⟩
              cases hy : y.null with
              | true => exact g3 ⟨hy, q2⟩
              | false => exact h5 ⟨q1, hy⟩
end Go.Proofs.Ytilfcgnepgacpaa
