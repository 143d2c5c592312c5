/- Chapter 18, plain: the text of columns. -/
import Derived.Test.YtilfcgnepgacpaaP19
namespace Go.Proofs.Ytilfcgnepgacpaa
set_option linter.unusedSimpArgs false
set_option linter.unusedVariables false
def spB (b : UInt8) : Str := if b = 92 then [92, 92] else if b = 10 then [92, 110] else if b = 13 then [92, 114] else [b]
def spM (s : Str) : Str := s.flatMap spB
def quM (b : Bool) : Str := if b = true then [63] else []
def lineC (c : Col) : Str := wordM c.kind ++ (quM c.null ++ (32 :: (spM c.name ++ [10])))
def unM : Str → Option Str
  | [] => some []
  | b :: r => if b = 10 ∨ b = 13 then none else if b = 92 then (match r with
      | [] => none
      | c :: r' => if c = 92 then (unM r').map (92 :: ·) else if c = 110 then (unM r').map (10 :: ·) else if c = 114 then (unM r').map (13 :: ·) else none) else (unM r).map (b :: ·)
theorem spM_cons (b : UInt8) (r : Str) : spM (b :: r) = spB b ++ spM r := by simp [spM]
theorem spB_92 : spB 92 = [92, 92] := by decide
theorem spB_10 : spB 10 = [92, 110] := by decide
theorem spB_13 : spB 13 = [92, 114] := by decide
theorem spB_o {b : UInt8} (h1 : ¬ b = 92) (h2 : ¬ b = 10) (h3 : ¬ b = 13) : spB b = [b] := by unfold spB; rw [if_neg h1, if_neg h2, if_neg h3]
theorem unM_o {b : UInt8} (r : Str) (h1 : ¬ b = 92) (h2 : ¬ b = 10) (h3 : ¬ b = 13) : unM (b :: r) = (unM r).map (b :: ·) := by
  cases r <;> simp [unM, h1, h2, h3]
theorem un_sp (s : Str) : unM (spM s) = some s := by
  induction s with
  | nil => rfl
  | cons b r ih =>
    rw [spM_cons]
    by_cases h1 : b = 92
    · subst h1; rw [spB_92]; simp [unM, ih]
    · by_cases h2 : b = 10
      · subst h2; rw [spB_10]; simp [unM, ih]
      · by_cases h3 : b = 13
        · subst h3; rw [spB_13]; simp [unM, ih]
        · rw [spB_o h1 h2 h3, List.cons_append, List.nil_append, unM_o _ h1 h2 h3, ih]; rfl
theorem sp_un : ∀ (n : Nat) (t : Str), t.length ≤ n → ∀ s, unM t = some s → t = spM s := by
  intro n
  induction n with
  | zero =>
    intro t ht s h
    have : t = [] := List.eq_nil_of_length_eq_zero (by omega)
    subst this
    simp [unM] at h; subst h; rfl
  | succ n ih =>
    intro t ht s h
    match t with
    | [] => simp [unM] at h; subst h; rfl
    | [b] =>
      simp only [unM] at h
      by_cases h1 : b = 10 ∨ b = 13
      · rw [if_pos h1] at h; simp at h
      · rw [if_neg h1] at h
        by_cases h2 : b = 92
        · rw [if_pos h2] at h; simp at h
        · rw [if_neg h2] at h
          simp at h; subst h
          have : ¬ b = 10 := fun e => h1 (.inl e)
          have h13 : ¬ b = 13 := fun e => h1 (.inr e)
          simp [spM, spB, h2, this, h13]
    | b :: c :: r' =>
      simp only [List.length_cons] at ht
      rw [unM] at h
      by_cases h1 : b = 10 ∨ b = 13
      · rw [if_pos h1] at h; simp at h
      · rw [if_neg h1] at h
        by_cases h2 : b = 92
        · rw [if_pos h2] at h
          subst h2
          split at h
          · rename_i hc
            obtain ⟨u, hu, rfl⟩ := Option.map_eq_some_iff.1 h
            rw [hc, ih r' (by omega) u hu]; simp [spM, spB]
          · split at h
            · rename_i hc
              obtain ⟨u, hu, rfl⟩ := Option.map_eq_some_iff.1 h
              rw [hc, ih r' (by omega) u hu]; simp [spM, spB]
            · split at h
              · rename_i hc
                obtain ⟨u, hu, rfl⟩ := Option.map_eq_some_iff.1 h
                rw [hc, ih r' (by omega) u hu]; simp [spM, spB]
              · simp at h
        · rw [if_neg h2] at h
          obtain ⟨u, hu, rfl⟩ := Option.map_eq_some_iff.1 h
          have h10 : ¬ b = 10 := fun e => h1 (.inl e)
          have h13 : ¬ b = 13 := fun e => h1 (.inr e)
          have := ih (c :: r') (by simp only [List.length_cons]; omega) u hu
          rw [this]; simp [spM, spB, h2, h10, h13]
theorem sp_no (s : Str) : (10 : UInt8) ∉ spM s := by
  intro h
  obtain ⟨b, _, hb⟩ := List.mem_flatMap.1 h
  unfold spB at hb
  split at hb
  · simp at hb
  · split at hb
    · simp at hb
    · split at hb
      · simp at hb
      · simp at hb; simp_all
/-- A text, cut at a byte. -/
def cutM (c : UInt8) : Str → Option (Str × Str)
  | [] => none
  | b :: r => if b = c then some ([], r) else (cutM c r).map fun p => (b :: p.1, p.2)
theorem cut_at (c : UInt8) (a r : Str) (h : c ∉ a) : cutM c (a ++ c :: r) = some (a, r) := by
  induction a with
  | nil => simp [cutM]
  | cons b a ih =>
    simp only [List.mem_cons, not_or] at h
    rw [List.cons_append, cutM, if_neg (fun e => h.1 e.symm), ih h.2]; rfl
theorem cut_of (c : UInt8) (s : Str) {a r : Str} (h : cutM c s = some (a, r)) : s = a ++ c :: r ∧ c ∉ a := by
  induction s generalizing a r with
  | nil => simp [cutM] at h
  | cons b s ih =>
    rw [cutM] at h
    by_cases hb : b = c
    · rw [if_pos hb] at h; simp at h; obtain ⟨rfl, rfl⟩ := h; simp [hb]
    · rw [if_neg hb] at h
      obtain ⟨⟨a', r'⟩, h1, h2⟩ := Option.map_eq_some_iff.1 h
      simp at h2; obtain ⟨rfl, rfl⟩ := h2
      obtain ⟨e1, e2⟩ := ih h1
      rw [e1]
      refine ⟨rfl, ?_⟩
      simp only [List.mem_cons, not_or]
      exact ⟨fun e => hb e.symm, e2⟩
theorem cut_no (c : UInt8) (s : Str) : cutM c s = none ↔ c ∉ s := by
  induction s with
  | nil => simp [cutM]
  | cons b s ih =>
    rw [cutM]
    by_cases hb : b = c
    · simp [hb]
    · have hb' : ¬ c = b := fun e => hb e.symm
      simp [hb, hb', ih]
def kindM (k : Str) : Option Int := if k = [116, 101, 120, 116] then some 1 else if k = [105, 110, 116] then some 2 else if k = [98, 111, 111, 108] then some 3 else none
theorem kind_word {k : Str} {n : Int} (h : kindM k = some n) : k = wordM n ∧ 1 ≤ n ∧ n ≤ 3 := by
  unfold kindM at h
  split at h
  · simp at h; subst h; rename_i e; subst e; decide
  · split at h
    · simp at h; subst h; rename_i e; subst e; decide
    · split at h
      · simp at h; subst h; rename_i e; subst e; decide
      · simp at h
theorem word_kind {n : Int} (h : 1 ≤ n ∧ n ≤ 3) : kindM (wordM n) = some n := by
  have : n = 1 ∨ n = 2 ∨ n = 3 := by omega
  rcases this with rfl | rfl | rfl <;> decide
/-- A text without the question mark at its end, and whether it had one. -/
def sufM (k : Str) : Str × Bool := if k.getLast? = some 63 then (k.dropLast, true) else (k, false)
theorem suf_eq (k : Str) : k = (sufM k).1 ++ quM (sufM k).2 := by
  unfold sufM
  by_cases h : k.getLast? = some 63
  · rw [if_pos h]
    obtain ⟨ys, e⟩ := List.getLast?_eq_some_iff.1 h
    subst e
    simp [quM]
  · rw [if_neg h]; simp [quM]
theorem suf_word {n : Int} (h : 1 ≤ n ∧ n ≤ 3) (b : Bool) : sufM (wordM n ++ quM b) = (wordM n, b) := by
  have : n = 1 ∨ n = 2 ∨ n = 3 := by omega
  rcases this with rfl | rfl | rfl <;> cases b <;> decide
/-- The column of a line, without its line feed. -/
def colM (line : Str) : Option Col :=
  match cutM 32 line with
  | none => none
  | some p => match unM p.2 with
    | none => none
    | some name => if validM name = true then (kindM (sufM p.1).1).map fun k => ⟨name, k, (sufM p.1).2⟩ else none
theorem col_iff (line : Str) (c : Col) : colM line = some c ↔ line ++ [10] = lineC c ∧ validM c.name = true ∧ 1 ≤ c.kind ∧ c.kind ≤ 3 := by
  constructor
  · intro h
    unfold colM at h
    split at h
    · simp at h
    · rename_i p hp
      split at h
      · simp at h
      · rename_i name hn
        split at h
        · rename_i hv
          obtain ⟨k, hk, rfl⟩ := Option.map_eq_some_iff.1 h
          obtain ⟨e1, e2⟩ := kind_word hk
          obtain ⟨e3, _⟩ := cut_of 32 line (a := p.1) (r := p.2) hp
          have e4 := sp_un _ p.2 (Nat.le_refl _) name hn
          have e5 := suf_eq p.1
          refine ⟨?_, hv, e2⟩
          simp only [lineC]
          rw [e3, e4, ← e1]
          conv => lhs; rw [e5]
          simp
        · simp at h
  · rintro ⟨h1, h2, h3, h4⟩
    have e : line = (wordM c.kind ++ quM c.null) ++ 32 :: spM c.name := by
      have : line ++ [10] = ((wordM c.kind ++ quM c.null) ++ 32 :: spM c.name) ++ [10] := by rw [h1]; simp [lineC]
      exact List.append_cancel_right this
    have hk : c.kind = 1 ∨ c.kind = 2 ∨ c.kind = 3 := by omega
    have hno : (32 : UInt8) ∉ wordM c.kind ++ quM c.null := by
      rcases hk with e | e | e <;> rw [e] <;> cases c.null <;> decide
    have hcut := cut_at 32 _ (spM c.name) hno
    rw [← e] at hcut
    unfold colM
    rw [hcut]
    simp only [un_sp, h2, if_pos, suf_word ⟨h3, h4⟩, word_kind ⟨h3, h4⟩, Option.map_some]
/-- The column of a line, with its line feed. -/
def lcM (s : Str) : Option Col := match cutM 10 s with
  | none => none
  | some p => if p.2 = [] then colM p.1 else none
theorem lc_iff (s : Str) (c : Col) : lcM s = some c ↔ s = lineC c ∧ validM c.name = true ∧ 1 ≤ c.kind ∧ c.kind ≤ 3 := by
  constructor
  · intro h
    unfold lcM at h
    split at h
    · simp at h
    · rename_i p hp
      split at h
      · rename_i hr
        obtain ⟨e, _⟩ := cut_of 10 s (a := p.1) (r := p.2) hp
        have := (col_iff p.1 c).1 h
        rw [e, hr]; exact this
      · simp at h
  · rintro ⟨h1, h2, h3, h4⟩
    have e : s = (wordM c.kind ++ (quM c.null ++ 32 :: spM c.name)) ++ 10 :: [] := by rw [h1]; simp [lineC]
    have hk : c.kind = 1 ∨ c.kind = 2 ∨ c.kind = 3 := by omega
    have hno : (10 : UInt8) ∉ wordM c.kind ++ (quM c.null ++ 32 :: spM c.name) := by
      have h5 := sp_no c.name
      have h6 : (10 : UInt8) ∉ wordM c.kind := by rcases hk with e | e | e <;> rw [e] <;> decide
      have h7 : (10 : UInt8) ∉ quM c.null := by cases c.null <;> decide
      simp [h5, h6, h7]
    have hcut := cut_at 10 _ [] hno
    rw [← e] at hcut
    unfold lcM
    rw [hcut]
    simp only [if_pos]
    rw [col_iff]
    exact ⟨by simp [lineC], h2, h3, h4⟩
/-- The lines of a text, each with its line feed. -/
def linesF (cur : Str) : Str → List Str
  | [] => if cur = [] then [] else [cur]
  | b :: r => if b = 10 then (cur ++ [10]) :: linesF [] r else linesF (cur ++ [b]) r
theorem linesF_cut (s cur : Str) : linesF cur s = match cutM 10 s with
    | none => if cur ++ s = [] then [] else [cur ++ s]
    | some p => (cur ++ p.1 ++ [10]) :: linesF [] p.2 := by
  induction s generalizing cur with
  | nil => simp [linesF, cutM]
  | cons b s ih =>
    rw [linesF, cutM]
    by_cases hb : b = 10
    · subst hb; simp
    · rw [if_neg hb, if_neg hb, ih]
      cases cutM 10 s with
      | none => simp
      | some p => simp
def prsF (acc : List Col) : List Str → List Col × Int × Int
  | [] => (acc, acc.length, 0)
  | s :: r => match lcM s with
    | none => ([], acc.length + 1, 23)
    | some c => if 0 ≤ atM (acc.map (·.name)) c.name then ([], acc.length + 1, 23) else prsF (acc ++ [c]) r
def prsM (s : Str) : List Col × Int × Int := if s = [] then ([], 0, 23) else prsF [] (linesF [] s)
/-! The reference: it tries each beginning. -/
def lineR (c : RCol) : Str := wordM c.kind ++ (quM (decide (c.null = 1)) ++ (32 :: (spM c.name ++ [10])))
theorem lineR_toR (c : Col) : lineR (toR c) = lineC c := by
  unfold lineR lineC toR
  cases c.null <;> simp
def begM (k n : Int) : Str := wordM k ++ (quM (decide (n = 1)) ++ [32])
def loM : Str → Str
  | [] => []
  | [b] => [b]
  | b :: c :: r => if b = 92 then (if c = 110 then 10 else if c = 114 then 13 else c) :: loM r else b :: loM (c :: r)
theorem lo_cons (b : UInt8) (r : Str) (h : b ≠ 92) : loM (b :: r) = b :: loM r := by
  cases r with
  | nil => rfl
  | cons c r => rw [loM, if_neg h]
theorem lo_sp (s : Str) : loM (spM s) = s := by
  induction s with
  | nil => rfl
  | cons b r ih =>
    rw [spM_cons]
    by_cases h1 : b = 92
    · subst h1; rw [spB_92]; simp [loM, ih]
    · by_cases h2 : b = 10
      · subst h2; rw [spB_10]; simp [loM, ih]
      · by_cases h3 : b = 13
        · subst h3; rw [spB_13]; simp [loM, ih]
        · rw [spB_o h1 h2 h3, List.cons_append, List.nil_append, lo_cons _ _ h1, ih]
def rtry (s : Str) (k n : Int) : Bool := decide ((begM k n).length < s.length) && decide (s.take (begM k n).length = begM k n)
def rgot (s : Str) (k n : Int) : RCol := ⟨loM ((s.drop (begM k n).length).dropLast), k, n⟩
def rok (s : Str) (c : RCol) : Bool := decide (lineR c = s) && validM c.name
def rcF (s : Str) : List (Int × Int) → Option RCol
  | [] => none
  | p :: r => if rtry s p.1 p.2 = true then (if rok s (rgot s p.1 p.2) = true then some (rgot s p.1 p.2) else none) else rcF s r
def rpairs : List (Int × Int) := [(1, 0), (1, 1), (2, 0), (2, 1), (3, 0), (3, 1)]
def rcM (s : Str) : Option RCol := rcF s rpairs
theorem rcF_sound (s : Str) (c : RCol) : ∀ l : List (Int × Int), rcF s l = some c → lineR c = s ∧ validM c.name = true ∧ (c.kind, c.null) ∈ l := by
  intro l
  induction l with
  | nil => intro h; simp [rcF] at h
  | cons p r ih =>
    intro h
    rw [rcF] at h
    split at h
    · split at h
      · rename_i h1 h2
        simp at h; subst h
        simp only [rok, Bool.and_eq_true, decide_eq_true_eq] at h2
        exact ⟨h2.1, h2.2, by simp [rgot]⟩
      · simp at h
    · obtain ⟨a, b, d⟩ := ih h
      exact ⟨a, b, List.mem_cons_of_mem _ d⟩
theorem rtry_self (name : Str) (k n k' n' : Int) (hk : (k, n) ∈ rpairs) (hk' : (k', n') ∈ rpairs) : rtry (lineR ⟨name, k, n⟩) k' n' = decide (k' = k ∧ n' = n) := by
  have e : lineR ⟨name, k, n⟩ = begM k n ++ (spM name ++ [10]) := by simp [lineR, begM]
  rw [rtry, e]
  simp only [rpairs, List.mem_cons, Prod.mk.injEq, List.not_mem_nil, or_false] at hk hk'
  rcases hk with ⟨rfl, rfl⟩ | ⟨rfl, rfl⟩ | ⟨rfl, rfl⟩ | ⟨rfl, rfl⟩ | ⟨rfl, rfl⟩ | ⟨rfl, rfl⟩ <;> rcases hk' with ⟨rfl, rfl⟩ | ⟨rfl, rfl⟩ | ⟨rfl, rfl⟩ | ⟨rfl, rfl⟩ | ⟨rfl, rfl⟩ | ⟨rfl, rfl⟩ <;> simp [begM, wordM, quM] <;> omega
theorem rgot_self (name : Str) (k n : Int) : rgot (lineR ⟨name, k, n⟩) k n = ⟨name, k, n⟩ := by
  have e : lineR ⟨name, k, n⟩ = begM k n ++ (spM name ++ [10]) := by simp [lineR, begM]
  rw [rgot, e, List.drop_left, List.dropLast_concat, lo_sp]
theorem rcF_full (name : Str) (k n : Int) (hv : validM name = true) (hk : (k, n) ∈ rpairs) : ∀ l : List (Int × Int), (∀ p ∈ l, p ∈ rpairs) → (k, n) ∈ l → rcF (lineR ⟨name, k, n⟩) l = some ⟨name, k, n⟩ := by
  intro l
  induction l with
  | nil => intro _ h; simp at h
  | cons p r ih =>
    intro hl hm
    have hp := rtry_self name k n p.1 p.2 hk (hl p (by simp))
    rw [rcF, hp]
    by_cases he : p.1 = k ∧ p.2 = n
    · rw [decide_eq_true he, if_pos rfl, he.1, he.2, rgot_self]
      simp [rok, hv]
    · rw [decide_eq_false he, if_neg (by simp)]
      refine ih (fun q hq => hl q (by simp [hq])) ?_
      simp only [List.mem_cons] at hm
      rcases hm with hm | hm
      · exact absurd ⟨by rw [← hm], by rw [← hm]⟩ he
      · exact hm
theorem rc_eq (s : Str) : rcM s = (lcM s).map toR := by
  cases h : rcM s with
  | some c =>
    obtain ⟨h1, h2, h3⟩ := rcF_sound s c _ h
    have hk : 1 ≤ c.kind ∧ c.kind ≤ 3 ∧ (c.null = 0 ∨ c.null = 1) := by
      simp only [rpairs, List.mem_cons, Prod.mk.injEq, List.not_mem_nil, or_false] at h3
      omega
    have h4 : lcM s = some ⟨c.name, c.kind, decide (c.null = 1)⟩ := (lc_iff _ _).2 ⟨by rw [← h1]; rfl, h2, hk.1, hk.2.1⟩
    rw [h4]
    simp only [Option.map_some, toR]
    congr 1
    rcases hk.2.2 with e | e <;> cases c <;> simp_all
  | none =>
    cases h' : lcM s with
    | none => rfl
    | some c =>
      obtain ⟨h1, h2, h3, h4⟩ := (lc_iff _ _).1 h'
      have hk : ((toR c).kind, (toR c).null) ∈ rpairs := by
        have : c.kind = 1 ∨ c.kind = 2 ∨ c.kind = 3 := by omega
        simp only [toR, rpairs]
        rcases this with e | e | e <;> rw [e] <;> cases c.null <;> simp
      have := rcF_full c.name (toR c).kind (toR c).null h2 hk rpairs (fun p hp => hp) hk
      have e : lineR ⟨c.name, (toR c).kind, (toR c).null⟩ = s := by rw [h1, ← lineR_toR]; rfl
      rw [e] at this
      rw [rcM, this] at h
      simp at h
end Go.Proofs.Ytilfcgnepgacpaa
