/- The engine, part b: slices that are read; memory of the call's own, in parts that lie apart. -/
import Derived.Test.YtdhieolfdlkeaaaNa
import Derived.Deep.DeepAppendWide
import Derived.Deep.AppendSrc
namespace Go.Proofs.Ytdhieolfdlkeaaa
set_option linter.unusedSimpArgs false
set_option linter.unusedVariables false
open Go.RowKit

/-- How a slice's elements lie in cells. -/
structure Enc (α : Type) where
  sz : Nat
  f : α → List Value
  len : ∀ x, (f x).length = sz
abbrev Str := List UInt8
def eS : Enc Str := ⟨1, fun s => [S s], fun _ => rfl⟩
def eI : Enc Int := ⟨1, fun n => [I n], fun _ => rfl⟩
def eU : Enc UInt8 := ⟨1, fun c => [U (c.toNat : Int)], fun _ => rfl⟩
def eB : Enc Bool := ⟨1, fun b => [.bool b], fun _ => rfl⟩
def eV : Enc Value := ⟨1, fun v => [v], fun _ => rfl⟩
/-- Sizes, found by their kind. -/
class EncSz {α : Type} (e : Enc α) (n : outParam Nat) : Prop where
  h : e.sz = n
instance : EncSz eS 1 := ⟨rfl⟩
instance : EncSz eI 1 := ⟨rfl⟩
instance : EncSz eU 1 := ⟨rfl⟩
instance : EncSz eB 1 := ⟨rfl⟩
instance : EncSz eV 1 := ⟨rfl⟩
theorem eS_sz : eS.sz = 1 := rfl
theorem eI_sz : eI.sz = 1 := rfl
theorem eU_sz : eU.sz = 1 := rfl
theorem eB_sz : eB.sz = 1 := rfl
theorem eV_sz : eV.sz = 1 := rfl
theorem eS_f (s : Str) : eS.f s = [S s] := rfl
theorem eI_f (n : Int) : eI.f n = [I n] := rfl
theorem eU_f (c : UInt8) : eU.f c = [U (c.toNat : Int)] := rfl
theorem eB_f (b : Bool) : eB.f b = [.bool b] := rfl
theorem eV_f (v : Value) : eV.f v = [v] := rfl

def One (v : Value) : Prop := v.oneCell' = true
theorem flat_len {α : Type} (e : Enc α) (xs : List α) : (xs.flatMap e.f).length = xs.length * e.sz := by
  induction xs with
  | nil => simp
  | cons x xs ih => rw [List.flatMap_cons, List.length_append, e.len, ih, List.length_cons, Nat.add_mul]; omega
theorem flat_at {α : Type} (e : Enc α) : ∀ (xs : List α) (i j : Nat) (hi : i < xs.length), j < e.sz → (xs.flatMap e.f)[i * e.sz + j]? = (e.f xs[i])[j]? := by
  intro xs
  induction xs with
  | nil => intro i j hi; simp at hi
  | cons x xs ih =>
    intro i j hi hj
    rw [List.flatMap_cons]
    cases i with
    | zero => rw [List.getElem?_append_left (by rw [e.len]; omega)]; simp
    | succ i =>
      have e1 : (i + 1) * e.sz + j = (e.f x).length + (i * e.sz + j) := by rw [e.len, Nat.add_mul]; omega
      rw [e1, List.getElem?_append_right (by omega), Nat.add_sub_cancel_left]
      simpa using ih i j (by simpa using hi) hj
/-- A slice that reads as these elements. -/
def Rd {α : Type} (w : World) (e : Enc α) (v : Value) (xs : List α) : Prop :=
  ∃ p cap, v = .slice p xs.length cap ∧ xs.length ≤ cap ∧ xs.length ≤ 9223372036854775807 ∧ (∀ u ∈ xs.flatMap e.f, One u) ∧
    (0 < xs.length → ∃ a, p = some a ∧ ∀ j u, (xs.flatMap e.f)[j]? = some u → w.cell? (a.add j) = some u)
theorem add_add (a : Addr) (i j : Nat) (h : a.spot = none) : (a.add i).add j = a.add (i + j) := by
  obtain ⟨b, o, s⟩ := a
  simp only at h
  subst h
  unfold Addr.add
  by_cases h1 : i = 0
  · subst h1; simp
  · by_cases h2 : j = 0
    · subst h2; simp [h1]
    · have : ¬ (i + j = 0) := by omega
      simp [h1, h2, this, Nat.add_assoc]
theorem cell_spot {w : World} {a : Addr} {v : Value} (h : w.cell? a = some v) : a.spot = none := by
  unfold World.cell? at h
  split at h
  · split at h
    · simp at h
    · rename_i h2; simpa using h2
  · simp at h
section
variable {α : Type} {w w' : World} {e : Enc α} {v : Value} {xs : List α} {k : IntKind} {i : Int} {n off : Nat}
theorem Rd.ext (h : Rd w e v xs) (hx : Ext w w') : Rd w' e v xs := by
  obtain ⟨p, cap, h1, h2, h3, h4, h5⟩ := h
  refine ⟨p, cap, h1, h2, h3, h4, fun hn => ?_⟩
  obtain ⟨a, ha, hc⟩ := h5 hn
  exact ⟨a, ha, fun j u hj => hx.cell (hc j u hj)⟩
theorem Rd.bd (h : Rd w e v xs) : xs.length ≤ 9223372036854775807 := by obtain ⟨p, cap, h1, h2, h3, _⟩ := h; exact h3
theorem Rd.one (h : Rd w e v xs) : One v := by obtain ⟨p, cap, rfl, _⟩ := h; simp [One, Value.oneCell']
theorem lenV_rd (h : Rd w e v xs) : lenV v = I xs.length := by obtain ⟨p, cap, rfl, _⟩ := h; rfl
theorem isL_rd (h : Rd w e v xs) : isL v = True := by obtain ⟨p, cap, rfl, _⟩ := h; rfl
theorem rd_addr (h : Rd w e v xs) (hi : 0 ≤ i ∧ i < (xs.length : Int)) : ∃ a cap, v = .slice (some a) xs.length cap ∧ (∀ j u, (xs.flatMap e.f)[j]? = some u → w.cell? (a.add j) = some u) := by
  obtain ⟨p, cap, rfl, _, _, _, h5⟩ := h
  obtain ⟨a, rfl, hc⟩ := h5 (by omega)
  exact ⟨a, cap, rfl, hc⟩
theorem okAdr_rd (h : Rd w e v xs) (hi : 0 ≤ i ∧ i < (xs.length : Int)) : okAdr v (.int k i) = True := by
  obtain ⟨a, cap, rfl, _⟩ := rd_addr h hi
  simp [okAdr, hi]
theorem rd_cell [Inhabited α] (h : Rd w e v xs) (hi : 0 ≤ i ∧ i < (xs.length : Int)) : ∃ a, adrV e.sz v (.int k i) = .pointer (some a) ∧ ∀ j, j < e.sz → w.cell? (a.add j) = (e.f (xs.getD i.toNat default))[j]? := by
  obtain ⟨a, cap, rfl, hc⟩ := rd_addr h hi
  refine ⟨_, rfl, fun j hj => ?_⟩
  have hi2 : i.toNat < xs.length := by omega
  have h1 := flat_at e xs i.toNat j hi2 hj
  have h3 : j < (e.f xs[i.toNat]).length := by rw [e.len]; exact hj
  have h2 : (xs.flatMap e.f)[i.toNat * e.sz + j]? = some (e.f xs[i.toNat])[j] := by rw [h1, List.getElem?_eq_getElem h3]
  have h4 := hc _ _ h2
  have hsp : a.spot = none := by
    have h0 : (xs.flatMap e.f)[0]? = some ((xs.flatMap e.f)[0]'(by rw [flat_len]; exact Nat.mul_pos (by omega) (by omega))) := List.getElem?_eq_getElem _
    have := hc _ _ h0
    simpa [Addr.add] using cell_spot this
  rw [add_add a _ _ hsp, h4]
  simp only [List.getD_eq_getElem?_getD, List.getElem?_eq_getElem hi2, Option.getD_some, List.getElem?_eq_getElem h3]
theorem add_0 (a : Addr) : a.add 0 = a := by simp [Addr.add]
theorem rd_cell0 [Inhabited α] (h : Rd w e v xs) (hs : e.sz = 1) (hi : 0 ≤ i ∧ i < (xs.length : Int)) : ∃ a, adrV 1 v (.int k i) = .pointer (some a) ∧ w.cell? a = some ((e.f (xs.getD i.toNat default)).getD 0 undef) := by
  obtain ⟨a, ha, hc⟩ := rd_cell (k := k) h hi
  rw [hs] at ha
  refine ⟨a, ha, ?_⟩
  have := hc 0 (by omega)
  rw [add_0] at this
  rw [this]
  have h3 : 0 < (e.f (xs.getD i.toNat default)).length := by rw [e.len]; omega
  generalize e.f (xs.getD i.toNat default) = z at *
  rw [List.getD_eq_getElem?_getD, List.getElem?_eq_getElem h3]; rfl
theorem okLd1_rd (h : Rd w e v xs) (hs : e.sz = 1) (hi : 0 ≤ i ∧ i < (xs.length : Int)) [Inhabited α] : okLd w none (adrV 1 v (.int k i)) = True := by
  obtain ⟨a, ha, hc⟩ := rd_cell0 (k := k) h hs hi
  rw [ha]; simp [okLd, hc]
theorem ldV1_rd (h : Rd w e v xs) (hs : e.sz = 1) (hi : 0 ≤ i ∧ i < (xs.length : Int)) [Inhabited α] : ldV w none (adrV 1 v (.int k i)) = (e.f (xs.getD i.toNat default)).getD 0 undef := by
  obtain ⟨a, ha, hc⟩ := rd_cell0 (k := k) h hs hi
  rw [ha]; simp [ldV, hc]
theorem okLdN_rd (h : Rd w e v xs) (hs : e.sz = n) (hi : 0 ≤ i ∧ i < (xs.length : Int)) [Inhabited α] : okLd w (some n) (adrV n v (.int k i)) = True := by
  subst hs
  obtain ⟨a, ha, hc⟩ := rd_cell (k := k) h hi
  rw [ha]
  refine eq_true fun j hj => ?_
  rw [hc j hj, List.getElem?_eq_getElem (by rw [e.len]; exact hj)]; rfl
theorem ldVN_rd (h : Rd w e v xs) (hs : e.sz = n) (hi : 0 ≤ i ∧ i < (xs.length : Int)) [Inhabited α] : ldV w (some n) (adrV n v (.int k i)) = .agg (e.f (xs.getD i.toNat default)).toArray := by
  subst hs
  obtain ⟨a, ha, hc⟩ := rd_cell (k := k) h hi
  rw [ha]
  simp only [ldV]
  congr 2
  apply List.ext_getElem
  · simp [e.len]
  · intro j h1 h2
    simp only [List.getElem_map, List.getElem_range]
    rw [e.len] at h2
    rw [hc j h2, List.getElem?_eq_getElem (by rw [e.len]; exact h2)]; rfl
theorem okFad_rd (h : Rd w e v xs) (hi : 0 ≤ i ∧ i < (xs.length : Int)) : okFad (adrV n v (.int k i)) = True := by
  obtain ⟨a, cap, rfl, _⟩ := rd_addr h hi
  rfl
theorem okLdF_rd (h : Rd w e v xs) (hs : e.sz = n) (ho : off < n) (hi : 0 ≤ i ∧ i < (xs.length : Int)) [Inhabited α] : okLd w none (fadV off (adrV n v (.int k i))) = True := by
  subst hs
  obtain ⟨a, ha, hc⟩ := rd_cell (k := k) h hi
  rw [ha]; simp [okLd, fadV, hc off ho, e.len, ho]
theorem ldVF_rd (h : Rd w e v xs) (hs : e.sz = n) (ho : off < n) (hi : 0 ≤ i ∧ i < (xs.length : Int)) [Inhabited α] : ldV w none (fadV off (adrV n v (.int k i))) = (e.f (xs.getD i.toNat default)).getD off undef := by
  subst hs
  obtain ⟨a, ha, hc⟩ := rd_cell (k := k) h hi
  rw [ha]; simp [ldV, fadV, hc off ho]
end
/-! ### Blocks known whole -/
section
variable {w : World} {g o off n : Nat} {t : TypeId} {cs l : List Value}
theorem okFad_p : okFad (.pointer (some ⟨g, o, none⟩)) = True := rfl
theorem fadV_p : fadV off (.pointer (some ⟨g, o, none⟩)) = .pointer (some ⟨g, o + off, none⟩) := by
  simp only [fadV, Addr.add]
  split
  · rename_i h; subst h; rfl
  · rfl
theorem okLd_b (h : Blk w g t cs.toArray) (ho : o < cs.length) : okLd w none (.pointer (some ⟨g, o, none⟩)) = True := by
  simp [okLd, h.cell, ho]
theorem ldV_b (h : Blk w g t cs.toArray) : ldV w none (.pointer (some ⟨g, o, none⟩)) = cs.getD o undef := by
  simp [ldV, h.cell]
theorem addg (g o i : Nat) : (⟨g, o, none⟩ : Addr).add i = ⟨g, o + i, none⟩ := by
  unfold Addr.add
  split
  · rename_i h; subst h; rfl
  · rfl
theorem okLdN_b (h : Blk w g t cs.toArray) (ho : o + n ≤ cs.length) : okLd w (some n) (.pointer (some ⟨g, o, none⟩)) = True := by
  refine eq_true fun j hj => ?_
  rw [addg, h.cell]; simp; omega
theorem ldVN_b (h : Blk w g t cs.toArray) (ho : o + n ≤ cs.length) : ldV w (some n) (.pointer (some ⟨g, o, none⟩)) = .agg ((cs.drop o).take n).toArray := by
  simp only [ldV, addg, h.cell]
  congr 2
  apply List.ext_getElem
  · simp; omega
  · intro j h1 h2
    simp at h1 h2 ⊢
    rw [List.getElem?_eq_getElem (by omega)]; rfl
theorem okFld_1 (ho : off < l.length) : okFld off none (.agg l.toArray) = True := by simp [okFld, ho]
theorem fldV_1 : fldV off none (.agg l.toArray) = l.getD off undef := by simp [fldV]
theorem okFld_n (ho : off + n ≤ l.length) : okFld off (some n) (.agg l.toArray) = True := by simp [okFld, ho]
theorem fldV_n : fldV off (some n) (.agg l.toArray) = .agg ((l.drop off).take n).toArray := by simp [fldV]
theorem cells_agg : (Value.agg l.toArray).cells = l.toArray := rfl
def setL (cs : List Value) : Nat → List Value → List Value
  | _, [] => cs
  | o, x :: l => setL (cs.set o x) (o + 1) l
theorem setL_n (cs : List Value) (o : Nat) : setL cs o [] = cs := rfl
theorem setL_c (cs : List Value) (o : Nat) (x : Value) (l : List Value) : setL cs o (x :: l) = setL (cs.set o x) (o + 1) l := rfl
theorem fold_setL (o : Nat) : ∀ (l : List Value) (k : Nat) (cs : List Value), (l.zipIdx k).foldl (fun c p => c.set (o + p.2) p.1) cs = setL cs (o + k) l := by
  intro l
  induction l with
  | nil => intro k cs; rfl
  | cons x l ih => intro k cs; simp only [List.zipIdx_cons, List.foldl_cons, setL]; exact ih (k + 1) _
theorem layL_a {r : List (Nat × Nat × Value)} : layL cs ((o, n, .agg l.toArray) :: r) = layL (setL cs o l) r := by
  simp only [layL, Value.cells]
  rw [fold_setL]; rfl
theorem okLay_a {r : List (Nat × Nat × Value)} : okLay cs ((o, n, .agg l.toArray) :: r) = ((l.length = n ∧ o + n ≤ cs.length) ∧ okLay cs r) := by simp [okLay, Value.cells]
theorem one_cells {v : Value} (h : One v) : v.cells = #[v] := by cases v <;> simp [One, Value.oneCell'] at h <;> rfl
theorem layL_o {v : Value} {r : List (Nat × Nat × Value)} (h : One v) : layL cs ((o, n, v) :: r) = layL (cs.set o v) r := by simp [layL, one_cells h]
theorem okLay_o {v : Value} {r : List (Nat × Nat × Value)} (h : One v) : okLay cs ((o, n, v) :: r) = ((1 = n ∧ o + n ≤ cs.length) ∧ okLay cs r) := by simp [okLay, one_cells h]
class OneI (v : Value) : Prop where
  h : One v
theorem one_i {k : IntKind} {a : Int} : One (.int k a) := by simp [One, Value.oneCell']
theorem one_s {s : List UInt8} : One (S s) := by simp [One, Value.oneCell', S]
theorem one_b {b : Bool} : One (.bool b) := by simp [One, Value.oneCell']
theorem one_p {a : Option Addr} : One (.pointer a) := by simp [One, Value.oneCell']
theorem one_l {a : Option Addr} {n c : Nat} : One (.slice a n c) := by simp [One, Value.oneCell']
theorem one_m {a : Option Nat} : One (.map a) := by simp [One, Value.oneCell']
theorem one_f {f : Fn} {a b : Array Value} : One (.func f a b) := by simp [One, Value.oneCell']
instance {k : IntKind} {a : Int} : OneI (.int k a) := ⟨one_i⟩
instance {s : List UInt8} : OneI (S s) := ⟨one_s⟩
instance {b : Bool} : OneI (.bool b) := ⟨one_b⟩
instance {a : Option Addr} : OneI (.pointer a) := ⟨one_p⟩
instance {a : Option Addr} {n c : Nat} : OneI (.slice a n c) := ⟨one_l⟩
instance {a : Option Nat} : OneI (.map a) := ⟨one_m⟩
instance {f : Fn} {a b : Array Value} : OneI (.func f a b) := ⟨one_f⟩
end
end Go.Proofs.Ytdhieolfdlkeaaa
