/- Chapter 15, plain: names, and where each stands. -/
import Derived.Test.YtdhieolfdlkeaaaPa
import Derived.Test.YtdhieolfdlkeaaaMb
namespace Go.Proofs.Ytdhieolfdlkeaaa
set_option linter.unusedSimpArgs false
set_option linter.unusedVariables false
theorem dropD {α : Type} [Inhabited α] (l : List α) (k : Nat) (h : (k : Int) < l.length) : l.drop k = l.getD k default :: l.drop (k + 1) := by
  have h' : k < l.length := by omega
  rw [List.drop_eq_getElem_cons h']
  simp [h']
theorem takeD {α : Type} [Inhabited α] (l : List α) (k : Nat) (h : (k : Int) < l.length) : l.take (k + 1) = l.take k ++ [l.getD k default] := by
  have h' : k < l.length := by omega
  rw [List.take_succ_eq_append_getElem h']
  simp [h']
theorem mapG {α β : Type} [Inhabited α] [Inhabited β] (f : α → β) (l : List α) (k : Nat) (h : (k : Int) < l.length) : (l.map f).getD k default = f (l.getD k default) := by
  have h' : k < l.length := by omega
  simp [h']
theorem mapD {α β : Type} [Inhabited α] [Inhabited β] (f : α → β) (l : List α) (k : Nat) (h : (k : Int) < l.length) : (l.map f).drop k = f (l.getD k default) :: (l.map f).drop (k + 1) := by
  rw [dropD _ k (by simpa using h), mapG f l k h]
theorem mapT {α β : Type} [Inhabited α] [Inhabited β] (f : α → β) (l : List α) (k : Nat) (h : (k : Int) < l.length) : (l.map f).take (k + 1) = (l.map f).take k ++ [f (l.getD k default)] := by
  rw [takeD _ k (by simpa using h), mapG f l k h]
theorem mapL {α β : Type} (f : α → β) (l : List α) (k : Nat) (h : k ≤ l.length) : ((l.map f).take k).length = k := by simp; omega
def atF (names : List Str) (name : Str) (i : Nat) : Int :=
  match names with
  | [] => -1
  | n :: r => if n = name then i else atF r name (i + 1)
def atM (names : List Str) (name : Str) : Int := atF names name 0
theorem atF_shift : ∀ (l : List Str) (s : Str) (i : Nat), atF l s i = if 0 ≤ atF l s 0 then i + atF l s 0 else -1 := by
  intro l s
  induction l with
  | nil => intro i; simp [atF]
  | cons n r ih =>
    intro i
    simp only [atF]
    by_cases h : n = s
    · simp [h]
    · simp only [if_neg h]
      rw [ih (i + 1), ih (0 + 1)]
      split <;> split <;> omega
theorem atM_cons (n : Str) (r : List Str) (s : Str) : atM (n :: r) s = if n = s then 0 else if 0 ≤ atM r s then 1 + atM r s else -1 := by
  simp only [atM, atF]
  by_cases h : n = s
  · simp [h]
  · rw [if_neg h, if_neg h, atF_shift r s (0 + 1)]
    split <;> omega
theorem atM_lt (l : List Str) (s : Str) : -1 ≤ atM l s ∧ atM l s < l.length := by
  induction l with
  | nil => simp [atM, atF]
  | cons n r ih => rw [atM_cons]; simp only [List.length_cons]; split <;> (try split) <;> omega
theorem atM_mem (l : List Str) (s : Str) : 0 ≤ atM l s ↔ s ∈ l := by
  induction l with
  | nil => simp [atM, atF]
  | cons n r ih =>
    rw [atM_cons, List.mem_cons, ← ih]
    by_cases h : n = s
    · simp [h]
    · have h' : ¬ s = n := fun e => h e.symm
      rw [if_neg h]
      by_cases h2 : 0 ≤ atM r s
      · simp [h2]; omega
      · simp [h2, h']
theorem atM_bd (l : List Str) (s : Str) : atM l s < l.length := by have := atM_lt l s; omega
theorem atM_app (l : List Str) (n s : Str) : atM (l ++ [n]) s = if 0 ≤ atM l s then atM l s else if n = s then l.length else -1 := by
  induction l with
  | nil => simp [atM, atF]
  | cons x r ih =>
    rw [List.cons_append, atM_cons, ih, atM_cons]
    have := atM_lt r s
    simp only [List.length_cons]
    split <;> (try split) <;> (try split) <;> (try split) <;> (try split) <;> omega
/-- What a map of names to numbers has. -/
def mtM (l : List Str) : Str → Option Int := fun s => if 0 ≤ atM l s then some (atM l s) else none
theorem mtM_nil : mtM [] = fun _ => none := by funext s; simp [mtM, atM, atF]
theorem mtM_put (l : List Str) (n : Str) (k : Int) (hk : k = l.length) (h : atM l n < 0) : mput (mtM l) n k = mtM (l ++ [n]) := by
  subst hk
  funext s
  have hle := atM_lt l s
  simp only [mput, mtM, atM_app]
  by_cases hs : s = n
  · subst hs
    have h1 : ¬ (0 ≤ atM l s) := by omega
    simp [h1]
  · have hs' : ¬ n = s := fun e => hs e.symm
    by_cases h0 : 0 ≤ atM l s
    · simp [hs, h0]
    · simp [hs, hs', h0]
theorem mtM_get (l : List Str) (s : Str) : mget I (I 0) (mtM l s) = I (max (atM l s) 0) := by
  unfold mtM
  by_cases h : 0 ≤ atM l s
  · rw [if_pos h]; simp only [mget]; rw [Int.max_eq_left h]
  · rw [if_neg h]; simp only [mget]; rw [Int.max_eq_right (by omega)]
theorem mtM_some (l : List Str) (s : Str) : (mtM l s).isSome = decide (0 ≤ atM l s) := by
  unfold mtM
  by_cases h : 0 ≤ atM l s <;> simp [h]
/-- A head's names, one by one. -/
def newF (ahead : List Str) : List Str → Int × Int
  | [] => (ahead.length, 0)
  | n :: r => if validM n = true then (if 0 ≤ atM ahead n then (ahead.length, 15) else newF (ahead ++ [n]) r) else (ahead.length, 14)
def newM (names : List Str) : Int × Int := if names.length = 0 then (0, 13) else newF [] names
theorem newF_ok : ∀ (r ahead : List Str), (newF ahead r).2 = 0 → (newF ahead r).1 = ahead.length + r.length := by
  intro r
  induction r with
  | nil => intro a _; simp [newF]
  | cons n r ih =>
    intro a h
    simp only [newF] at h ⊢
    split at h
    · split at h
      · simp at h
      · rename_i h1 h2
        rw [if_pos h1, if_neg h2, ih _ h]; simp; omega
    · simp at h
theorem newM_ok (l : List Str) (h : (newM l).2 = 0) : (newM l).1 = l.length ∧ newM l = ((l.length : Int), 0) := by
  unfold newM at *
  split at h
  · simp at h
  · rename_i h1
    have := newF_ok l [] h
    rw [if_neg h1]
    have e : (newF [] l).1 = l.length := by rw [this]; simp
    exact ⟨e, by rw [Prod.ext_iff]; exact ⟨e, h⟩⟩
def bindF (names : List Str) : List Str → List Int → List Int × Int × Int
  | [], out => (out, out.length, 0)
  | n :: r, out => if atM names n < 0 then ([], out.length, 16) else bindF names r (out ++ [atM names n])
def bindM (names want : List Str) : List Int × Int × Int := bindF names want []
/-- How much of a table there is. -/
def gRow : List Str → Int → Option Int
  | [], b => some b
  | f :: r, b => if b < f.length then none else gRow r (b - f.length)
def gTab : List (List Str) → Int → Int → Bool
  | [], _, _ => false
  | r :: t, f, b => if f < r.length then true else match gRow r b with | none => true | some b' => gTab t (f - r.length) b'
def greatM (t : List (List Str)) (n f b : Int) : Bool := if n < t.length then true else gTab t f b
def totL : List Str → Nat
  | [] => 0
  | f :: r => f.length + totL r
theorem gRow_eq : ∀ (r : List Str) (b : Int), 0 ≤ b → gRow r b = if (totL r : Int) ≤ b then some (b - totL r) else none := by
  intro r
  induction r with
  | nil => intro b h; simp [gRow, totL, h]
  | cons f r ih =>
    intro b h
    have e : totL (f :: r) = f.length + totL r := rfl
    rw [gRow]
    by_cases h1 : b < f.length
    · rw [if_pos h1, if_neg (by omega)]
    · rw [if_neg h1, ih _ (by omega)]
      by_cases h2 : (totL r : Int) ≤ b - f.length
      · rw [if_pos h2, if_pos (by omega)]; congr 1; omega
      · rw [if_neg h2, if_neg (by omega)]
theorem great_one (l : List Str) (f b : Int) (hb : 0 ≤ b) : greatM [l] 1 f b = !(decide ((l.length : Int) ≤ f ∧ (totL l : Int) ≤ b)) := by
  have e0 : ¬ ((1 : Int) < (([l] : List (List Str)).length : Int)) := by simp
  simp only [greatM, gTab, if_neg e0]
  rw [gRow_eq l b hb]
  by_cases h1 : f < l.length
  · rw [if_pos h1]; simp; omega
  · rw [if_neg h1]
    by_cases h2 : (totL l : Int) ≤ b
    · rw [if_pos h2]; simp; omega
    · rw [if_neg h2]; simp; omega
theorem totL_mem {l : List Str} {s : Str} (h : s ∈ l) : s.length ≤ totL l := by
  induction l with
  | nil => cases h
  | cons x l ih =>
    simp only [totL]
    rcases List.mem_cons.1 h with rfl | h
    · omega
    · have := ih h; omega
theorem getD_mem {α : Type} [Inhabited α] (l : List α) (k : Nat) (h : (k : Int) < l.length) : l.getD k default ∈ l := by
  have h' : k < l.length := by omega
  simp [h']
end Go.Proofs.Ytdhieolfdlkeaaa
