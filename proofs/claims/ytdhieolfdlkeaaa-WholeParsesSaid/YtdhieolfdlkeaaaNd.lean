/- The engine, part d: append, make, stores into slices, maps. -/
import Derived.Test.YtdhieolfdlkeaaaNc
import Derived.MapKept
import Derived.Laws.MakeOwn
namespace Go.Proofs.Ytdhieolfdlkeaaa
set_option linter.unusedSimpArgs false
set_option linter.unusedVariables false
open Go.RowKit

section
variable {P : Program} {ρ : Fr} {w w0 : World} {d : Option Nat} {next : Fr → World → Prop} {L M : List Chk} {g : Nat} {t e ty : TypeId} {v : Value} {bt : Nat}
theorem src_rd {α : Type} {E : Enc α} {xs : List α} {x : Value} {tx e' : TypeId} (h : Rd w E x xs) (hk : P.underlying tx = some (.slice e')) : Src P E.sz tx x xs.length (xs.flatMap E.f) w := by
  obtain ⟨p, cap, rfl, h2, h3, h4, h5⟩ := h
  cases p with
  | none =>
    have : xs = [] := by
      rcases Nat.eq_zero_or_pos xs.length with hz | hz
      · exact List.eq_nil_of_length_eq_zero hz
      · obtain ⟨a, ha, _⟩ := h5 hz; cases ha
    subst this
    exact Src.ofNil w hk cap
  | some a =>
    refine Src.ofSlice w hk a _ cap _ (flat_len E xs) ?_ h4
    intro j u hj
    rcases Nat.eq_zero_or_pos xs.length with hz | hz
    · have : xs = [] := List.eq_nil_of_length_eq_zero hz
      subst this; simp at hj
    · obtain ⟨a', ha, hc⟩ := h5 hz
      cases ha; exact hc j u hj
theorem blk_rd {α : Type} {E : Enc α} {ys : List α} {n c : Nat} (h : Blk w g t (ys.flatMap E.f).toArray) (hn : n = ys.length) (hc : n ≤ c) (hm : ys.length ≤ 9223372036854775807) (h1 : ∀ u ∈ ys.flatMap E.f, One u) : Rd w E (.slice (some ⟨g, 0, none⟩) n c) ys := by
  subst hn
  refine ⟨_, c, rfl, hc, hm, h1, fun _ => ⟨_, rfl, fun j u hj => ?_⟩⟩
  rw [add_blk, h.cell]
  simpa using hj
/-- A slice's literal is a slice of the call's own. -/
theorem Sep.toAcc {α : Type} {E : Enc α} {cells : List Value} {L' : List Chk} {n : Nat} (xs : List α) (hS : Sep w0 w L) (hu : Up (boxC g e cells) (accC (.slice (some ⟨g, 0, none⟩) n n) e E xs) L L') (hc : cells = xs.flatMap E.f) (hn : n = xs.length) (h1 : ∀ u ∈ cells, One u) (hm : n ≤ 1000000000000000) : Sep w0 w L' := by
  subst hc; subst hn
  refine hS.change hu (Nat.le_refl _) rfl rfl rfl ?_
  rintro F ⟨f1, f2⟩ hF
  have hl := flat_len E xs
  refine ⟨F, ⟨⟨hl, .inr ⟨g, xs.length, _, rfl, Nat.zero_le _, f2, Nat.le_refl _, by unfold maxLen; omega, by simpa using hl, by rw [← hl]; exact List.take_of_length_le (Nat.le_refl _)⟩⟩, fun k hk => by simp only [Value.ownBlock, Option.some.injEq] at hk; rw [← hk]; exact f1, h1, by omega⟩, fun b hb => ⟨hF b hb, .inl hb⟩, fun _ _ _ => rfl⟩
/-- append of one element. -/
theorem app1 {α : Type} {E : Enc α} {xs : List α} {cells : List Value} {R : Value → List Chk} (y : α) (hS : Sep w0 w L) (hb : Ex (boxC g e cells) L M) (hu : ∀ v', Up (accC v e E xs) (accC v' e E (xs ++ [y])) M (R v')) (hy : cells = E.f y) {zs : List Value} (hT : SlT P t e E.sz bt zs) (hp : 0 < E.sz)
    (h63 : ((xs.length + 1) + (xs.length + 1) / 4 + 192) * bt ≤ 281474976710656) (h64 : xs.length + 1 ≤ 1000000000000000) (h1 : ∀ u ∈ cells, One u)
    (k : ∀ v' w', Sep w0 w' (R v') → next (updO ρ d v') w') : SemK P (Builtin.append_ #[t, t] ty #[v, .slice (some ⟨g, 0, none⟩) 1 1]) w d ρ next := by
  subst hy
  have hB := hS.blk hb
  have hr : Rd w E (.slice (some ⟨g, 0, none⟩) 1 1) [y] := blk_rd (t := e) (by simpa using hB) rfl (by simp) (by simp) (by simpa using h1)
  obtain ⟨v', w', h2, h3⟩ := app_run (P := P) (ty := ty) (hS.drop hb) hT hp hu (src_rd hr hT.u) h63 h64
  exact ⟨v', w', h2, k v' w' h3⟩
/-- append of all of a slice. -/
theorem appN {α : Type} {E : Enc α} {xs ys : List α} {x : Value} {R : Value → List Chk} (hS : Sep w0 w L) (hr : Rd w E x ys) (hu : ∀ v', Up (accC v e E xs) (accC v' e E (xs ++ ys)) L (R v')) {zs : List Value} (hT : SlT P t e E.sz bt zs) (hp : 0 < E.sz)
    (h63 : ((xs.length + ys.length) + (xs.length + ys.length) / 4 + 192) * bt ≤ 281474976710656) (h64 : xs.length + ys.length ≤ 1000000000000000)
    (k : ∀ v' w', Sep w0 w' (R v') → next (updO ρ d v') w') : SemK P (Builtin.append_ #[t, t] ty #[v, x]) w d ρ next := by
  obtain ⟨v', w', h2, h3⟩ := app_run (P := P) (ty := ty) hS hT hp hu (src_rd hr hT.u) h63 h64
  exact ⟨v', w', h2, k v' w' h3⟩
theorem byte_flat (s : Str) : s.map (fun b => Value.int .u8 b.toNat) = s.flatMap eU.f := by
  induction s with
  | nil => rfl
  | cons c s ih => rw [List.map_cons, ih, List.flatMap_cons]; rfl
theorem take_setL (m : Nat) : ∀ (l : List Value) (o : Nat) (cs : List Value), (setL cs o l).take m = setL (cs.take m) o l
  | [], _, _ => rfl
  | x :: l, o, cs => by rw [setL, take_setL m l, List.take_set]; rfl
/-- append of a string's bytes. -/
theorem appS {xs : List UInt8} {s : Str} {tx : TypeId} {R : Value → List Chk} (hS : Sep w0 w L) (hu : ∀ v', Up (accC v e eU xs) (accC v' e eU (xs ++ s)) L (R v')) {zs : List Value} (hT : SlT P t e 1 bt zs) (hx : P.underlying tx = some .string)
    (h63 : ((xs.length + s.length) + (xs.length + s.length) / 4 + 192) * bt ≤ 281474976710656) (h64 : xs.length + s.length ≤ 1000000000000000)
    (k : ∀ v' w', Sep w0 w' (R v') → next (updO ρ d v') w') : SemK P (Builtin.append_ #[t, tx] ty #[v, S s]) w d ρ next := by
  have hs : Src P eU.sz tx (S s) s.length (s.flatMap eU.f) w := by
    have := Src.ofString (P := P) w hx ⟨s.toArray⟩
    have e1 : (ByteArray.mk s.toArray).size = s.length := sizeS s
    have e2 : byteCells ⟨s.toArray⟩ = s.flatMap eU.f := byte_flat s
    rw [e1, e2] at this
    exact this
  obtain ⟨v', w', h2, h3⟩ := app_run (P := P) (ty := ty) hS (E := eU) hT (by decide) hu hs h63 h64
  exact ⟨v', w', h2, k v' w' h3⟩

/-- A slice made: n zeros, room for c. -/
theorem zeros_eq {α : Type} (E : Enc α) (z0 : α) (hp : 0 < E.sz) (c : Nat) : ((List.range (c * E.sz)).map fun i => ((E.f z0).toArray[i % (E.f z0).toArray.size]! : Value)) = (List.replicate c z0).flatMap E.f := by
  apply List.ext_getElem?
  intro j
  by_cases hj : j < c * E.sz
  · have hd : j / E.sz < c := Nat.div_lt_of_lt_mul (by rw [Nat.mul_comm]; exact hj)
    have hm : j % E.sz < E.sz := Nat.mod_lt _ hp
    have he : j = (j / E.sz) * E.sz + j % E.sz := by rw [Nat.mul_comm]; exact (Nat.div_add_mod j E.sz).symm
    have h2 := flat_at E (List.replicate c z0) (j / E.sz) (j % E.sz) (by simpa using hd) hm
    rw [← he] at h2
    rw [h2]
    simp only [List.getElem_replicate, List.getElem?_map, List.getElem?_range hj, Option.map_some, List.size_toArray, E.len]
    rw [List.getElem?_eq_getElem (by rw [E.len]; exact hm)]
    congr 1
    rw [getElem!_pos _ _ (by rw [List.size_toArray, E.len]; exact hm)]
    simp
  · rw [List.getElem?_eq_none (by simp; omega), List.getElem?_eq_none (by rw [flat_len]; simp; omega)]
theorem mkS {α : Type} {E : Enc α} {z0 : α} {n c : Int} (hS : Sep w0 w L) {zs : List Value} (hT : SlT P t e E.sz bt zs) (hzs : zs = E.f z0) (hp : 0 < E.sz) (hn : 0 ≤ n ∧ n ≤ c ∧ c ≤ 1000000000000000) (hb : (bt : Int) * c ≤ 281474976710656) (h1 : ∀ u ∈ E.f z0, One u)
    (k : ∀ v w', Sep w0 w' (accC v e E (List.replicate n.toNat z0) :: L) → next (updO ρ d v) w') : SemK P (Instr.makeSlice t (.int .i64 n) (.int .i64 c)) w d ρ next := by
  obtain ⟨i, z, hi, hz, hsz, hby, hzc, hzl⟩ := hT.i
  have hzs : z.cells = (E.f z0).toArray := by rw [hzc, hzs]
  have hwn : IntKind.i64.wrap n = n := IntWalk.i64_in n (by omega)
  have hwc : IntKind.i64.wrap c = c := IntWalk.i64_in c (by omega)
  have hbn : (bt : Int) * n ≤ 281474976710656 := Int.le_trans (Int.mul_le_mul_of_nonneg_left hn.2.1 (by omega)) hb
  let cur : Array Value := ((List.replicate c.toNat z0).flatMap E.f).toArray
  have hrun : (Instr.makeSlice t (.int .i64 n) (.int .i64 c)).run P w = .ok (.slice (some ⟨w.heap.size, 0, none⟩) n.toNat c.toNat) (w.alloc (.cells cur e)) := by
    have hr := run_make (P := P) w t e i z hT.u hi hz .i64 .i64 n c hn.1 hn.2.1 (by rw [hby]; exact hb) (by omega)
    have e1 : madeCells z.cells (c.toNat * i.size) = cur := by
      apply Array.ext'
      simp only [madeCells, Array.toList_map, Array.toList_range, cur]
      rw [hzs, hsz]
      exact zeros_eq E z0 hp c.toNat
    rw [hr, e1]
  refine ⟨_, _, hrun, k _ _ ?_⟩
  refine hS.push ((Ext.refl w).alloc _) (F := fun b => b = w.heap.size) ?_ (by intro b hb; subst hb; exact ⟨Nat.le_refl _, by simp⟩)
  have hone : ∀ (m : Nat) (u : Value), u ∈ (List.replicate m z0).flatMap E.f → One u := by
    intro m u hu
    obtain ⟨x, hx, hu⟩ := List.mem_flatMap.1 hu
    rw [(List.mem_replicate.1 hx).2] at hu
    exact h1 u hu
  have hnc : n.toNat ≤ c.toNat := by omega
  refine ⟨⟨flat_len E _, .inr ⟨w.heap.size, c.toNat, cur, by simp, Nat.zero_le _, heap_alloc_new w _, by simpa using hnc, by unfold maxLen; omega, ?_, ?_⟩⟩, fun b hb => by simpa [Value.ownBlock] using hb.symm, hone _, by simp; omega⟩
  · show cur.size = _
    simp only [cur, List.size_toArray]
    rw [flat_len]; simp
  · show List.take _ cur.toList = _
    simp only [cur, List.length_replicate]
    have e2 : List.replicate c.toNat z0 = List.replicate n.toNat z0 ++ List.replicate (c.toNat - n.toNat) z0 := by rw [List.replicate_append_replicate]; congr 1; omega
    rw [e2, List.flatMap_append]
    have e3 : n.toNat * E.sz = ((List.replicate n.toNat z0).flatMap E.f).length := by rw [flat_len]; simp
    rw [e3]
    exact List.take_left
theorem flat_set {α : Type} (E : Enc α) : ∀ (xs : List α) (i : Nat) (y : α), i < xs.length → (xs.set i y).flatMap E.f = setL (xs.flatMap E.f) (i * E.sz) (E.f y) := by
  intro xs i y hi
  rw [setL_eq _ _ _ (by rw [flat_len, E.len]; have : (i + 1) * E.sz ≤ xs.length * E.sz := Nat.mul_le_mul_right _ hi; rw [Nat.add_mul] at this; omega)]
  have e1 : xs.set i y = xs.take i ++ y :: xs.drop (i + 1) := by rw [List.set_eq_take_append_cons_drop, if_pos hi]
  have e2 : xs = xs.take i ++ (xs[i] :: xs.drop (i + 1)) := by rw [List.getElem_cons_drop]; exact (List.take_append_drop i xs).symm
  have l1 : ((xs.take i).flatMap E.f).length = i * E.sz := by rw [flat_len, List.length_take, Nat.min_eq_left (by omega)]
  rw [e1]
  conv => rhs; rw [e2]
  simp only [List.flatMap_append, List.flatMap_cons, E.len]
  have h5 : ∀ (A B C : List Value), (A ++ (B ++ C)).drop (A.length + B.length) = C := fun A B C => by rw [← List.append_assoc]; exact List.drop_left' List.length_append
  have h6 := h5 ((xs.take i).flatMap E.f) (E.f xs[i]) ((xs.drop (i + 1)).flatMap E.f)
  rw [E.len] at h6
  rw [← l1, List.take_left, h6, List.append_assoc]
/-- A store into an element. -/
theorem stE {α : Type} {E : Enc α} {xs : List α} {n : Nat} {i : Int} {k' : IntKind} {L' : List Chk} {x : Value} (y : α) (hS : Sep w0 w L) (hu : Up (accC v e E xs) (accC v e E (xs.set i.toNat y)) L L') (hi : 0 ≤ i ∧ i < (xs.length : Int)) (hn : E.sz = n) (hx : x.cells = (E.f y).toArray) (h1 : ∀ u ∈ E.f y, One u)
    (k : ∀ w', Sep w0 w' L' → next (updO ρ d undef) w') : StK P n (adrV n v (.int k' i)) x w d ρ next := by
  subst hn
  obtain ⟨R, he, _⟩ := hu.split
  obtain ⟨F, ⟨a1, a2, a3, a4⟩, hF⟩ := hS.get he
  rcases a1.2 with ⟨rfl, h0⟩ | ⟨g, cap, cur, rfl, hbg, hg, hnc, hcm, hcs, htake⟩
  · omega
  have hi2 : i.toNat < xs.length := by omega
  have hp : adrV E.sz (.slice (some ⟨g, 0, none⟩) xs.length cap) (.int k' i) = .pointer (some ⟨g, i.toNat * E.sz, none⟩) := by simp [adrV, addg]
  rw [hp]
  have hle : (i.toNat + 1) * E.sz ≤ cap * E.sz := Nat.mul_le_mul_right _ (by omega)
  have hle2 : (i.toNat + 1) * E.sz ≤ xs.length * E.sz := Nat.mul_le_mul_right _ (by omega)
  rw [Nat.add_mul] at hle hle2
  have hB : Blk w g e cur.toList.toArray := hg
  refine ⟨⟨by rw [hx]; simp [E.len], by rw [hx]; simpa [One] using h1, fun j hj => ?_⟩, ?_⟩
  · rw [addg, hB.cell, hB.frozen]
    have : i.toNat * E.sz + j < cur.size := by omega
    exact ⟨by simp [this], rfl⟩
  · simp only [stW, hx]
    refine k _ ?_
    obtain ⟨s1, s2, s3, s4⟩ := stL_size (p := ⟨g, i.toNat * E.sz, none⟩) (E.f y) 0 w
    refine hS.change hu (by omega) s2 s3 s4 ?_
    rintro F' ⟨b1, b2, b3, b4⟩ hF'
    have hFg := b2 g rfl
    have hlen : (E.f y).length = E.sz := E.len y
    have hblk := stL_Blk (g := g) (o := i.toNat * E.sz) (t := e) (E.f y) 0 w cur.toList hB
    rw [Nat.add_zero] at hblk
    have hsl : (xs.set i.toNat y).length = xs.length := by simp
    refine ⟨F', ⟨⟨flat_len E _, .inr ⟨g, cap, _, by rw [hsl], Nat.zero_le _, hblk, by rw [hsl]; exact hnc, hcm, ?_, ?_⟩⟩, fun k hk => b2 k hk, ?_, by omega⟩, fun b hb => ⟨by have := hF' b hb; omega, .inl hb⟩, fun b _ hb => stL_far' b (fun e => hb (by rw [e]; exact hFg)) _ _ _⟩
    · rw [setL_eq _ _ _ (by simp; omega)]
      simp only [List.size_toArray, List.length_append, List.length_take, List.length_drop, Array.length_toList, hlen]
      omega
    · rw [flat_set E xs _ y hi2, ← htake, hsl]
      exact take_setL _ _ _ _
    · intro u hm
      obtain ⟨x', hx', hu'⟩ := List.mem_flatMap.1 hm
      rcases List.mem_or_eq_of_mem_set hx' with h | h
      · exact b3 u (List.mem_flatMap.2 ⟨x', h, hu'⟩)
      · rw [h] at hu'; exact h1 u hu'
end
end Go.Proofs.Ytdhieolfdlkeaaa
