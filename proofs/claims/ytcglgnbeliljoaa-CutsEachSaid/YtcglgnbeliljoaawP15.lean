/- Texts of the proof, joined. -/
import Derived.Test.YtcglgnbeliljoaawPa
import Derived.Test.YtcglgnbeliljoaawMb
namespace Go.Proofs.Ytcglgnbeliljoaa
set_option linter.unusedSimpArgs false
set_option linter.unusedVariables false
theorem dropD {α : Type} [Inhabited α] (l : List α) (k : Nat) (h : (k : Int) < l.length) : l.drop k = l.getD k default :: l.drop (k + 1) := by
  have h' : k < l.length := by omega
  rw [List.drop_eq_getElem_cons h']
  simp [h']
theorem takeD {α : Type} [Inhabited α] (l : List α) (k : Nat) (h : (k : Int) < l.length) : l.take (k + 1) = l.take k ++ [l.getD k default] := by
  have h' : k < l.length := by omega
  rw [List.take_succ_eq_append_getElem h']
  simp [h']
theorem mapG {α β : Type} [Inhabited α] [Inhabited β] (f : α → β) (l : List α) (k : Nat) (h : (k : Int) < l.length) : (l.map f).getD k default = f (l.getD k default) := by
  have h' : k < l.length := by omega
  simp [h']
theorem mapT {α β : Type} [Inhabited α] [Inhabited β] (f : α → β) (l : List α) (k : Nat) (h : (k : Int) < l.length) : (l.map f).take (k + 1) = (l.map f).take k ++ [f (l.getD k default)] := by
  rw [takeD _ k (by simpa using h), mapG f l k h]
end Go.Proofs.Ytcglgnbeliljoaa
namespace Go.Proofs.Ytcglgnbeliljoaa
set_option linter.unusedSimpArgs false
set_option linter.unusedVariables false
def heldI (n m : Int) : Int := if n < 0 then 0 else if m < n then m else n
theorem held_mm (n m : Int) (h : 0 ≤ m) : min (max n 0) m = heldI n m := by unfold heldI; split <;> (try split) <;> omega
theorem held_bd (n m : Int) (h : 0 ≤ m) : 0 ≤ heldI n m ∧ heldI n m ≤ m := by unfold heldI; split <;> (try split) <;> omega
def cutL (s : Str) : Int → List Int → List Str
  | _, [] => []
  | f, p :: r => ((s.drop f.toNat).take (p.toNat - f.toNat)) :: cutL s p r
def lastI : Int → List Int → Int
  | f, [] => f
  | _, p :: r => lastI p r
theorem cutL_snoc (s : Str) : ∀ (l : List Int) (f p : Int), cutL s f (l ++ [p]) = cutL s f l ++ [(s.drop (lastI f l).toNat).take (p.toNat - (lastI f l).toNat)]
  | [], f, p => rfl
  | q :: l, f, p => by simp only [List.cons_append, cutL, lastI, cutL_snoc s l q p]
theorem lastI_snoc : ∀ (l : List Int) (f p : Int), lastI f (l ++ [p]) = p
  | [], _, _ => rfl
  | q :: l, _, p => by simp only [List.cons_append, lastI]; exact lastI_snoc l q p
theorem cutL_len (s : Str) : ∀ (l : List Int) (f : Int), (cutL s f l).length = l.length
  | [], _ => rfl
  | p :: l, f => by simp only [cutL, List.length_cons, cutL_len s l p]
def upI : Int → List Int → Int → Prop
  | f, [], m => f ≤ m
  | f, p :: r, m => f ≤ p ∧ upI p r m
theorem upI_last {m : Int} : ∀ {l : List Int} {f : Int}, upI f l m → f ≤ lastI f l ∧ lastI f l ≤ m
  | [], _, h => ⟨Int.le_refl _, h⟩
  | p :: l, f, h => by have := upI_last h.2; have := h.1; simp only [lastI]; omega
theorem upI_of {m : Int} : ∀ {l : List Int} {f : Int}, f ≤ m → (∀ x ∈ l, f ≤ x ∧ x ≤ m) → l.Pairwise (· ≤ ·) → upI f l m
  | [], _, h, _, _ => h
  | p :: l, f, _, h2, h3 => by
    have hp := h2 p (by simp)
    refine ⟨hp.1, upI_of hp.2 (fun x hx => ⟨?_, (h2 x (by simp [hx])).2⟩) (List.pairwise_cons.1 h3).2⟩
    exact (List.pairwise_cons.1 h3).1 x hx
theorem cutL_flat (s : Str) : ∀ (l : List Int) (f : Int), 0 ≤ f → upI f l s.length → (cutL s f l).flatten ++ s.drop (lastI f l).toNat = s.drop f.toNat
  | [], f, _, _ => by simp [cutL, lastI]
  | p :: l, f, h0, h => by
    have h1 := h.1
    have ih := cutL_flat s l p (by omega) h.2
    simp only [cutL, lastI, List.flatten_cons, List.append_assoc, ih]
    have e : s.drop p.toNat = (s.drop f.toNat).drop (p.toNat - f.toNat) := by rw [List.drop_drop]; congr 1; omega
    rw [e]; exact List.take_append_drop _ _
def srt (l : List Int) : List Int := l.mergeSort fun x y => decide (x ≤ y)
theorem srt_perm (l : List Int) : (srt l).Perm l := List.mergeSort_perm _ _
theorem srt_up (l : List Int) : (srt l).Pairwise (· ≤ ·) := by
  have := List.pairwise_mergeSort (le := fun (x y : Int) => decide (x ≤ y)) (by intro a b c; simp; omega) (by intro a b; simp; omega) l
  exact this.imp (by intro a b h; simpa using h)
theorem srt_len (l : List Int) : (srt l).length = l.length := (srt_perm l).length_eq
theorem up_eq {a b : List Int} (h : a.Perm b) (ha : a.Pairwise (· ≤ ·)) (hb : b.Pairwise (· ≤ ·)) : a = b :=
  List.Perm.eq_of_pairwise (fun x y _ _ h1 h2 => Int.le_antisymm h1 h2) ha hb h
theorem erase_perm (l : List Int) (k : Nat) (hk : k < l.length) : l.Perm (l.getD k default :: l.eraseIdx k) := by
  induction l generalizing k with
  | nil => simp at hk
  | cons x l ih =>
    cases k with
    | zero => simp
    | succ k =>
      simp only [List.getD_cons_succ, List.eraseIdx_cons_succ]
      exact ((ih k (by simpa using hk)).cons x).trans (List.Perm.swap _ _ _)
theorem srt_least (l : List Int) (k : Nat) (hk : k < l.length) (hm : ∀ x ∈ l, l.getD k default ≤ x) : srt l = l.getD k default :: srt (l.eraseIdx k) := by
  refine up_eq ((srt_perm l).trans ((erase_perm l k hk).trans ((srt_perm _).symm.cons _))) (srt_up l) (List.pairwise_cons.2 ⟨fun x hx => ?_, srt_up _⟩)
  exact hm x (List.mem_of_mem_eraseIdx ((srt_perm _).mem_iff.1 hx))
def atJ (sz : List Int) (n : Int) : Nat → Int
  | 0 => 0
  | j + 1 => atJ sz n j + heldI (sz.getD (j % sz.length) default) (n - atJ sz n j)
theorem atJ_bd (sz : List Int) (n : Int) (h : 0 ≤ n) : ∀ j, 0 ≤ atJ sz n j ∧ atJ sz n j ≤ n
  | 0 => ⟨Int.le_refl _, h⟩
  | j + 1 => by
    have h1 := atJ_bd sz n h j
    have h2 := held_bd (sz.getD (j % sz.length) default) (n - atJ sz n j) (by omega)
    simp only [atJ]; omega
def pcJ (s : Str) (sz : List Int) (j : Nat) : Str := (s.drop (atJ sz s.length j).toNat).take ((atJ sz s.length (j + 1)).toNat - (atJ sz s.length j).toNat)
def byL (s : Str) (sz : List Int) (j : Nat) : List Str := (List.range j).map (pcJ s sz)
theorem byL_succ (s : Str) (sz : List Int) (j : Nat) : byL s sz (j + 1) = byL s sz j ++ [pcJ s sz j] := by simp [byL, List.range_succ]
theorem byL_len (s : Str) (sz : List Int) (j : Nat) : (byL s sz j).length = j := by simp [byL]
theorem atJ_le (sz : List Int) (n : Int) (h : 0 ≤ n) (j : Nat) : atJ sz n j ≤ atJ sz n (j + 1) := by
  have h1 := atJ_bd sz n h j
  have h2 := held_bd (sz.getD (j % sz.length) default) (n - atJ sz n j) (by omega)
  simp only [atJ]; omega
def EndJ (sz : List Int) (n : Int) (j : Nat) : Prop := atJ sz n j = n ∧ ∀ i, i < j → atJ sz n i < n
theorem EndJ.one {sz : List Int} {n : Int} {i j : Nat} (hi : EndJ sz n i) (hj : EndJ sz n j) : i = j := by
  rcases Nat.lt_trichotomy i j with h | h | h
  · have := hj.2 i h; have := hi.1; omega
  · exact h
  · have := hi.2 j h; have := hj.1; omega
theorem upI_snoc {m p : Int} : ∀ {l : List Int} {f : Int}, upI f (l ++ [p]) m → upI f l p ∧ p ≤ m
  | [], _, h => ⟨h.1, h.2⟩
  | q :: l, _, h => ⟨⟨h.1, (upI_snoc h.2).1⟩, (upI_snoc h.2).2⟩
def heldL (sz : List Int) (n : Int) : List Int := sz.map fun x => heldI x n
theorem heldL_len (sz : List Int) (n : Int) : (heldL sz n).length = sz.length := List.length_map _
theorem heldL_bd {sz : List Int} {n : Int} (h : 0 ≤ n) : ∀ x ∈ heldL sz n, 0 ≤ x ∧ x ≤ n := by
  intro x hx
  obtain ⟨y, _, rfl⟩ := List.mem_map.1 hx
  exact held_bd y n h
theorem heldL_snoc (sz : List Int) (n : Int) (k : Nat) (hk : (k : Int) < sz.length) : (heldL sz n).take (k + 1) = (heldL sz n).take k ++ [heldI (sz.getD k default) n] := mapT _ sz k hk
theorem srt_bd {l : List Int} {n : Int} (h : ∀ x ∈ l, 0 ≤ x ∧ x ≤ n) : ∀ x ∈ srt l, 0 ≤ x ∧ x ≤ n := fun x hx => h x ((srt_perm l).mem_iff.1 hx)
theorem up_at {l : List Int} {n : Int} (hn : 0 ≤ n) (h : ∀ x ∈ l, 0 ≤ x ∧ x ≤ n) (hs : l.Pairwise (· ≤ ·)) (k : Nat) (hk : (k : Int) < l.length) : 0 ≤ lastI 0 (l.take k) ∧ lastI 0 (l.take k) ≤ l.getD k default ∧ l.getD k default ≤ n := by
  have h1 := upI_of (l := l.take (k + 1)) hn (fun x hx => h x (List.mem_of_mem_take hx)) (hs.sublist (List.take_sublist _ _))
  rw [takeD l k hk] at h1
  have h2 := upI_snoc h1
  have h3 := upI_last h2.1
  exact ⟨h3.1, h3.2, h2.2⟩
def atP (s : Str) (sz : List Int) : List Str := cutL s 0 (srt (heldL sz s.length)) ++ [s.drop (lastI 0 (srt (heldL sz s.length))).toNat]
theorem atP_up (s : Str) (sz : List Int) : upI 0 (srt (heldL sz s.length)) s.length := upI_of (by omega) (srt_bd (heldL_bd (by omega))) (srt_up _)
theorem atP_flat (s : Str) (sz : List Int) : (atP s sz).flatten = s := by
  have h := cutL_flat s _ 0 (Int.le_refl _) (atP_up s sz)
  simp only [atP, List.flatten_append, List.flatten_cons, List.flatten_nil, List.append_nil, h]
  rfl
theorem cut_snoc (s : Str) (l : List Int) (k : Nat) (hk : (k : Int) < l.length) : cutL s 0 (l.take (k + 1)) = cutL s 0 (l.take k) ++ [(s.drop (lastI 0 (l.take k)).toNat).take ((l.getD k default).toNat - (lastI 0 (l.take k)).toNat)] ∧ lastI 0 (l.take (k + 1)) = l.getD k default := by
  rw [takeD l k hk]
  exact ⟨cutL_snoc s _ _ _, lastI_snoc _ _ _⟩
def LeastAt (l : List Int) (i k : Nat) : Prop := k < l.length ∧ k ≤ i ∧ ∀ j, j < i → l.getD k default ≤ l.getD j default
theorem LeastAt.all {l : List Int} {i k : Nat} (h : LeastAt l i k) (hi : l.length ≤ i) : ∀ x ∈ l, l.getD k default ≤ x := by
  intro x hx
  obtain ⟨j, hj, rfl⟩ := List.getElem_of_mem hx
  have := h.2.2 j (by omega)
  rwa [List.getD_eq_getElem?_getD (i := j), List.getElem?_eq_getElem hj] at this
theorem erase_take (l : List Int) (k i : Nat) (hi : (i : Int) < l.length) : (l.take (i + 1)).eraseIdx k = if i = k then (l.take i).eraseIdx k else (l.take i).eraseIdx k ++ [l.getD i default] := by
  have hl : (l.take i).length = i := by simp; omega
  rw [takeD l i hi]
  by_cases h : k < i
  · rw [if_neg (by omega), List.eraseIdx_append_of_lt_length (by omega)]
  · rw [List.eraseIdx_append_of_length_le (by omega), hl]
    by_cases h2 : i = k
    · subst h2
      rw [if_pos rfl, Nat.sub_self, List.eraseIdx_cons_zero, List.append_nil, List.eraseIdx_of_length_le (by omega)]
    · rw [if_neg h2, List.eraseIdx_of_length_le (l := [_]) (by simp; omega), List.eraseIdx_of_length_le (by omega)]
def posF : List Int → Nat → Int
  | [], _ => -1
  | x :: r, i => if 0 < x then i else posF r (i + 1)
def anyP (l : List Int) : Bool := l.any fun x => decide (0 < x)
theorem posF_any : ∀ (l : List Int) (i : Nat), decide (0 ≤ posF l i) = anyP l
  | [], _ => rfl
  | x :: r, i => by
    have ih := posF_any r (i + 1)
    unfold anyP at ih ⊢
    by_cases h : 0 < x
    · simp [posF, h]
    · simp only [posF, if_neg h, ih, List.any_cons, decide_eq_false h, Bool.false_or]
theorem posF_step (l : List Int) (k : Nat) (hk : (k : Int) < l.length) : posF (l.drop k) k = if 0 < l.getD k default then (k : Int) else posF (l.drop (k + 1)) (k + 1) := by
  rw [dropD l k hk, posF]
theorem anyP_ex {l : List Int} (h : anyP l = true) : ∃ q, q < l.length ∧ 0 < l.getD q default := by
  unfold anyP at h
  obtain ⟨x, hx, h⟩ := List.any_eq_true.1 h
  obtain ⟨q, hq, rfl⟩ := List.getElem_of_mem hx
  exact ⟨q, hq, by rw [List.getD_eq_getElem?_getD, List.getElem?_eq_getElem hq]; simpa using h⟩
def muJ (sz : List Int) (n : Int) (q j : Nat) : Nat := (n - atJ sz n j).toNat * (2 * sz.length) + (if j % sz.length ≤ q then q - j % sz.length else sz.length - j % sz.length + q)
theorem muJ_step {sz : List Int} {n : Int} {q j : Nat} (hn : 0 ≤ n) (hq : q < sz.length) (hp : 0 < sz.getD q default) (hj : atJ sz n j < n) : muJ sz n q (j + 1) < muJ sz n q j := by
  have h1 := atJ_bd sz n hn j
  have h2 := atJ_bd sz n hn (j + 1)
  have h3 := atJ_le sz n hn j
  have hi : j % sz.length < sz.length := Nat.mod_lt _ (by omega)
  have hm : (j + 1) % sz.length = if j % sz.length + 1 = sz.length then 0 else j % sz.length + 1 := by
    rw [← Nat.mod_add_mod]
    split
    · rename_i h; rw [h, Nat.mod_self]
    · exact Nat.mod_eq_of_lt (by omega)
  unfold muJ
  rw [hm]
  by_cases he : j % sz.length = q
  · have hs : atJ sz n j + 1 ≤ atJ sz n (j + 1) := by
      simp only [atJ]
      rw [he]
      unfold heldI
      rw [if_neg (by omega)]
      split <;> omega
    have hx : (n - atJ sz n (j + 1)).toNat + 1 ≤ (n - atJ sz n j).toNat := by omega
    have hy := Nat.mul_le_mul_right (2 * sz.length) hx
    rw [Nat.add_mul] at hy
    have hd : (if (if j % sz.length + 1 = sz.length then 0 else j % sz.length + 1) ≤ q then q - (if j % sz.length + 1 = sz.length then 0 else j % sz.length + 1) else sz.length - (if j % sz.length + 1 = sz.length then 0 else j % sz.length + 1) + q) < 2 * sz.length := by
      split <;> split <;> omega
    omega
  · have hx : (n - atJ sz n (j + 1)).toNat ≤ (n - atJ sz n j).toNat := by omega
    have hy := Nat.mul_le_mul_right (2 * sz.length) hx
    have hd : (if (if j % sz.length + 1 = sz.length then 0 else j % sz.length + 1) ≤ q then q - (if j % sz.length + 1 = sz.length then 0 else j % sz.length + 1) else sz.length - (if j % sz.length + 1 = sz.length then 0 else j % sz.length + 1) + q) < (if j % sz.length ≤ q then q - j % sz.length else sz.length - j % sz.length + q) := by
      split <;> split <;> (try split) <;> omega
    omega
theorem muJ_zero {sz : List Int} {n q N L : Nat} (hq : q < sz.length) (hn : n ≤ N) (hl : sz.length ≤ L) : muJ sz n q 0 ≤ N * (2 * L) + L := by
  unfold muJ
  have h1 : ((n : Int) - atJ sz n 0).toNat = n := by simp [atJ]
  rw [h1]
  have h2 : n * (2 * sz.length) ≤ N * (2 * L) := Nat.mul_le_mul hn (by omega)
  have h3 : 0 % sz.length = 0 := Nat.zero_mod _
  rw [h3, if_pos (Nat.zero_le _)]
  omega
theorem by_step (s : Str) (sz : List Int) (j : Nat) : min (max (sz.getD (j % sz.length) default) 0) ((s.drop (atJ sz s.length j).toNat).length : Int) = ((heldI (sz.getD (j % sz.length) default) (s.length - atJ sz s.length j)).toNat : Nat) ∧
    (s.drop (atJ sz s.length j).toNat).take (heldI (sz.getD (j % sz.length) default) (s.length - atJ sz s.length j)).toNat = pcJ s sz j ∧
    (s.drop (atJ sz s.length j).toNat).drop (heldI (sz.getD (j % sz.length) default) (s.length - atJ sz s.length j)).toNat = s.drop (atJ sz s.length (j + 1)).toNat ∧
    (heldI (sz.getD (j % sz.length) default) (s.length - atJ sz s.length j)).toNat ≤ (s.drop (atJ sz s.length j).toNat).length := by
  have h1 := atJ_bd sz s.length (by omega) j
  have h2 := held_bd (sz.getD (j % sz.length) default) (s.length - atJ sz s.length j) (by omega)
  have hl : ((s.drop (atJ sz s.length j).toNat).length : Int) = s.length - atJ sz s.length j := by rw [List.length_drop]; omega
  have hs : atJ sz s.length (j + 1) = atJ sz s.length j + heldI (sz.getD (j % sz.length) default) (s.length - atJ sz s.length j) := rfl
  refine ⟨by rw [hl, held_mm _ _ (by omega)]; omega, ?_, ?_, by omega⟩
  · unfold pcJ; rw [hs]; congr 1; omega
  · rw [List.drop_drop, hs]; congr 1; omega
end Go.Proofs.Ytcglgnbeliljoaa
