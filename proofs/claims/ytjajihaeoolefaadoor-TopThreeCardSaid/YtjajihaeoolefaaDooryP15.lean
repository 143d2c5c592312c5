/- Texts of the proof, joined. -/
import Derived.Test.YtjajihaeoolefaaDooryPa
import Derived.Test.YtjajihaeoolefaaDooryMb
namespace Go.Proofs.YtjajihaeoolefaaDoor
set_option linter.unusedSimpArgs false
set_option linter.unusedVariables false
theorem dropD {α : Type} [Inhabited α] (l : List α) (k : Nat) (h : (k : Int) < l.length) : l.drop k = l.getD k default :: l.drop (k + 1) := by
  have h' : k < l.length := by omega
  rw [List.drop_eq_getElem_cons h']
  simp [h']
theorem takeD {α : Type} [Inhabited α] (l : List α) (k : Nat) (h : (k : Int) < l.length) : l.take (k + 1) = l.take k ++ [l.getD k default] := by
  have h' : k < l.length := by omega
  rw [List.take_succ_eq_append_getElem h']
  simp [h']
theorem mapG {α β : Type} [Inhabited α] [Inhabited β] (f : α → β) (l : List α) (k : Nat) (h : (k : Int) < l.length) : (l.map f).getD k default = f (l.getD k default) := by
  have h' : k < l.length := by omega
  simp [h']
theorem mapD {α β : Type} [Inhabited α] [Inhabited β] (f : α → β) (l : List α) (k : Nat) (h : (k : Int) < l.length) : (l.map f).drop k = f (l.getD k default) :: (l.map f).drop (k + 1) := by
  rw [dropD _ k (by simpa using h), mapG f l k h]
theorem mapT {α β : Type} [Inhabited α] [Inhabited β] (f : α → β) (l : List α) (k : Nat) (h : (k : Int) < l.length) : (l.map f).take (k + 1) = (l.map f).take k ++ [f (l.getD k default)] := by
  rw [takeD _ k (by simpa using h), mapG f l k h]
theorem mapL {α β : Type} (f : α → β) (l : List α) (k : Nat) (h : k ≤ l.length) : ((l.map f).take k).length = k := by simp; omega
def atF (names : List Str) (name : Str) (i : Nat) : Int :=
  match names with
  | [] => -1
  | n :: r => if n = name then i else atF r name (i + 1)
def atM (names : List Str) (name : Str) : Int := atF names name 0
theorem atF_shift : ∀ (l : List Str) (s : Str) (i : Nat), atF l s i = if 0 ≤ atF l s 0 then i + atF l s 0 else -1 := by
  intro l s
  induction l with
  | nil => intro i; simp [atF]
  | cons n r ih =>
    intro i
    simp only [atF]
    by_cases h : n = s
    · simp [h]
    · simp only [if_neg h]
      rw [ih (i + 1), ih (0 + 1)]
      split <;> split <;> omega
theorem atM_cons (n : Str) (r : List Str) (s : Str) : atM (n :: r) s = if n = s then 0 else if 0 ≤ atM r s then 1 + atM r s else -1 := by
  simp only [atM, atF]
  by_cases h : n = s
  · simp [h]
  · rw [if_neg h, if_neg h, atF_shift r s (0 + 1)]
    split <;> omega
theorem atM_lt (l : List Str) (s : Str) : -1 ≤ atM l s ∧ atM l s < l.length := by
  induction l with
  | nil => simp [atM, atF]
  | cons n r ih => rw [atM_cons]; simp only [List.length_cons]; split <;> (try split) <;> omega
theorem atM_app (l : List Str) (n s : Str) : atM (l ++ [n]) s = if 0 ≤ atM l s then atM l s else if n = s then l.length else -1 := by
  induction l with
  | nil => simp [atM, atF]
  | cons x r ih =>
    rw [List.cons_append, atM_cons, ih, atM_cons]
    have := atM_lt r s
    simp only [List.length_cons]
    split <;> (try split) <;> (try split) <;> (try split) <;> (try split) <;> omega
theorem getD_mem {α : Type} [Inhabited α] (l : List α) (k : Nat) (h : (k : Int) < l.length) : l.getD k default ∈ l := by
  have h' : k < l.length := by omega
  simp [h']
end Go.Proofs.YtjajihaeoolefaaDoor
namespace Go.Proofs.YtjajihaeoolefaaDoor
set_option linter.unusedSimpArgs false
set_option linter.unusedVariables false
structure Col where
  name : Str
  kind : Int
  null : Bool
structure RCol where
  name : Str
  kind : Int
  null : Int
instance : Inhabited Col := ⟨⟨[], 0, false⟩⟩
instance : Inhabited RCol := ⟨⟨[], 0, 0⟩⟩
def eC : Enc Col := ⟨3, fun c => [S c.name, I c.kind, .bool c.null], fun _ => rfl⟩
def eR : Enc RCol := ⟨3, fun c => [S c.name, I c.kind, I c.null], fun _ => rfl⟩
instance : EncSz eC 3 := ⟨rfl⟩
instance : EncSz eR 3 := ⟨rfl⟩
theorem eC_f (c : Col) : eC.f c = [S c.name, I c.kind, .bool c.null] := rfl
theorem eR_f (c : RCol) : eR.f c = [S c.name, I c.kind, I c.null] := rfl
attribute [push_cast] eC_f eR_f
def toR (c : Col) : RCol := ⟨c.name, c.kind, if c.null then 1 else 0⟩
def nkC (c : Col) : Str × Int := (c.name, c.kind)
def wordM (k : Int) : Str := if k = 1 then [116, 101, 120, 116] else if k = 2 then [105, 110, 116] else if k = 3 then [98, 111, 111, 108] else []
theorem wordM_nil (k : Int) : (wordM k = []) ↔ ¬ (1 ≤ k ∧ k ≤ 3) := by
  unfold wordM
  by_cases h1 : k = 1
  · simp [h1]
  · by_cases h2 : k = 2
    · simp [h2]
    · by_cases h3 : k = 3
      · simp [h3]
      · rw [if_neg h1, if_neg h2, if_neg h3]; simp; omega
def checkF (ahead : List Str) : List (Str × Int) → Int × Int
  | [] => (ahead.length, 0)
  | c :: r => if 1 ≤ c.2 ∧ c.2 ≤ 3 then (if validM c.1 = true then (if 0 ≤ atM ahead c.1 then (ahead.length, 15) else checkF (ahead ++ [c.1]) r) else (ahead.length, 14)) else (ahead.length, 21)
theorem checkF_cons (a : List Str) (n : Str) (k : Int) (r : List (Str × Int)) : checkF a ((n, k) :: r) = if 1 ≤ k ∧ k ≤ 3 then (if validM n = true then (if 0 ≤ atM a n then ((a.length : Int), 15) else checkF (a ++ [n]) r) else ((a.length : Int), 14)) else ((a.length : Int), 21) := rfl
def checkM (l : List (Str × Int)) : Int × Int := if l.length = 0 then (0, 13) else checkF [] l
def mbM (l : List Str) : Str → Option Bool := fun s => if 0 ≤ atM l s then some true else none
theorem mbM_nil : mbM [] = fun _ => none := by funext s; simp [mbM, atM, atF]
theorem mbM_put (l : List Str) (n : Str) : mput (mbM l) n true = mbM (l ++ [n]) := by
  funext s
  have hle := atM_lt l s
  simp only [mput, mbM, atM_app]
  by_cases hs : s = n
  · subst hs
    by_cases h0 : 0 ≤ atM l s
    · simp [h0]
    · simp [h0]
  · have hs' : ¬ n = s := fun e => hs e.symm
    by_cases h0 : 0 ≤ atM l s
    · simp [hs, h0]
    · simp [hs, hs', h0]
theorem mbM_get (l : List Str) (s : Str) : mget Value.bool (.bool false) (mbM l s) = .bool (decide (0 ≤ atM l s)) := by
  unfold mbM
  by_cases h : 0 ≤ atM l s
  · rw [if_pos h]; simp [mget, h]
  · rw [if_neg h]; simp [mget, h]
end Go.Proofs.YtjajihaeoolefaaDoor
namespace Go.Proofs.YtjajihaeoolefaaDoor
set_option linter.unusedSimpArgs false
set_option linter.unusedVariables false
end Go.Proofs.YtjajihaeoolefaaDoor
namespace Go.Proofs.YtjajihaeoolefaaDoor
set_option linter.unusedSimpArgs false
set_option linter.unusedVariables false
def namesC (l : List Col) : List Str := l.map (·.name)
end Go.Proofs.YtjajihaeoolefaaDoor
