/- Texts of the proof, joined. -/
import Derived.Lib.ItoaLen
import Derived.Shelf.Strconv.AppendIntPublic10
import Derived.Test.YtjajihaeoolefaaDoorxMc
namespace Go.Proofs.YtjajihaeoolefaaDoor
set_option linter.unusedSimpArgs false
set_option linter.unusedVariables false
open Go.RowKit Go.Shelf
def lays176_ren : Go.Shelf.Ren := ⟨fun | 176 => 47 | 249 => 61 | 288 => 73 | 283 => 81 | 284 => 82 | 285 => 83 | 286 => 84 | 129 => 89 | 317 => 88 | 318 => 90 | 319 => 91 | 320 => 92 | 337 => 93 | 338 => 94 | n => n, fun | 37 => 117 | 2 => 2 | 3 => 3 | 53 => 155 | 4 => 4 | 9 => 9 | 171 => 162 | 0 => 0 | 173 => 165 | 212 => 171 | 51 => 172 | 5 => 5 | 20 => 20 | 213 => 173 | 46 => 174 | 232 => 177 | 233 => 178 | n => n, fun | 17 => 0 | 18 => 1 | 19 => 2 | n => n⟩
theorem lays176 : LaysM.n176 Tryd.prog lays176_ren where
  mixed := by kernel_rfl
  f129 := Tryd.func89.trans (congrArg some (by kernel_rfl))
  f176 := Tryd.func47.trans (congrArg some (by kernel_rfl))
  f249 := Tryd.func61.trans (congrArg some (by kernel_rfl))
  f283 := Tryd.func81.trans (congrArg some (by kernel_rfl))
  f284 := Tryd.func82.trans (congrArg some (by kernel_rfl))
  f285 := Tryd.func83.trans (congrArg some (by kernel_rfl))
  f286 := Tryd.func84.trans (congrArg some (by kernel_rfl))
  f288 := Tryd.func73.trans (congrArg some (by kernel_rfl))
  f317 := Tryd.func88.trans (congrArg some (by kernel_rfl))
  f318 := Tryd.func90.trans (congrArg some (by kernel_rfl))
  f319 := Tryd.func91.trans (congrArg some (by kernel_rfl))
  f320 := Tryd.func92.trans (congrArg some (by kernel_rfl))
  f337 := Tryd.func93.trans (congrArg some (by kernel_rfl))
  f338 := Tryd.func94.trans (congrArg some (by kernel_rfl))
  t0 := Tryd.underlying0
  a0 := Tryd.isAgg0
  z0 := Tryd.sizeOf0
  v0 := Tryd.zeroValue0
  t2 := Tryd.underlying2
  a2 := Tryd.isAgg2
  z2 := Tryd.sizeOf2
  v2 := Tryd.zeroValue2
  t3 := Tryd.underlying3
  a3 := Tryd.isAgg3
  z3 := Tryd.sizeOf3
  v3 := Tryd.zeroValue3
  t4 := Tryd.underlying4
  a4 := Tryd.isAgg4
  z4 := Tryd.sizeOf4
  v4 := Tryd.zeroValue4
  t5 := Tryd.underlying5
  a5 := Tryd.isAgg5
  z5 := Tryd.sizeOf5
  v5 := Tryd.zeroValue5
  t9 := Tryd.underlying9
  a9 := Tryd.isAgg9
  z9 := Tryd.sizeOf9
  v9 := Tryd.zeroValue9
  t20 := Tryd.underlying20
  a20 := Tryd.isAgg20
  z20 := Tryd.sizeOf20
  v20 := Tryd.zeroValue20
  t37 := Tryd.underlying117
  a37 := Tryd.isAgg117
  z37 := Tryd.sizeOf117
  v37 := Tryd.zeroValue117
  t46 := Tryd.underlying174
  a46 := Tryd.isAgg174
  z46 := Tryd.sizeOf174
  v46 := Tryd.zeroValue174
  t51 := Tryd.underlying172
  a51 := Tryd.isAgg172
  z51 := Tryd.sizeOf172
  v51 := Tryd.zeroValue172
  t53 := Tryd.underlying155
  a53 := Tryd.isAgg155
  z53 := Tryd.sizeOf155
  v53 := Tryd.zeroValue155
  t171 := Tryd.underlying162
  a171 := Tryd.isAgg162
  z171 := Tryd.sizeOf162
  v171 := Tryd.zeroValue162
  t173 := Tryd.underlying165
  a173 := Tryd.isAgg165
  z173 := Tryd.sizeOf165
  v173 := Tryd.zeroValue165
  t212 := Tryd.underlying171
  a212 := Tryd.isAgg171
  z212 := Tryd.sizeOf171
  v212 := Tryd.zeroValue171
  t213 := Tryd.underlying173
  a213 := Tryd.isAgg173
  z213 := Tryd.sizeOf173
  t232 := Tryd.underlying177
  a232 := Tryd.isAgg177
  z232 := Tryd.sizeOf177
  v232 := Tryd.zeroValue177
  t233 := Tryd.underlying178
  a233 := Tryd.isAgg178
  z233 := Tryd.sizeOf178
  v233 := Tryd.zeroValue178
  g17 := by kernel_rfl
  g18 := by kernel_rfl
  g19 := by kernel_rfl
  i0 := by kernel_rfl
  i2 := by kernel_rfl
  i3 := by kernel_rfl
  i4 := by kernel_rfl
  i5 := by kernel_rfl
  i9 := by kernel_rfl
  i20 := by kernel_rfl
  i37 := by kernel_rfl
  i46 := by kernel_rfl
  i51 := by kernel_rfl
  i53 := by kernel_rfl
  i171 := by kernel_rfl
  i173 := by kernel_rfl
  i212 := by kernel_rfl
  i232 := by kernel_rfl
  i233 := by kernel_rfl
  m17 := by kernel_rfl
  m18 := by kernel_rfl
  m19 := by kernel_rfl
theorem bytes_eU (l : Str) : Lib.byteCells l = l.flatMap eU.f := byte_flat l
theorem own_base {w : World} {b : Nat} {T : TypeId} {k : Nat} {v : Value} {n : Nat} {xs : List Value} (h : w.ownsRow 0 T k v n xs) (hb : ∀ g, v.ownBlock = some g → b ≤ g) : w.ownsRow b T k v n xs := by
  refine ⟨h.1, ?_⟩
  rcases h.2 with h | ⟨g, cap, cur, hv, _, hr⟩
  · exact .inl h
  · exact .inr ⟨g, cap, cur, hv, hb g (by rw [hv]; rfl), hr⟩
theorem own_block {w : World} {b : Nat} {T : TypeId} {k : Nat} {v : Value} {n : Nat} {xs : List Value} (h : w.ownsRow b T k v n xs) {g : Nat} (hg : v.ownBlock = some g) : b ≤ g ∧ g < w.heap.size ∧ ∃ cur, w.heap[g]? = some (.cells cur T (0, 0)) := by
  rcases h.2 with ⟨rfl, _⟩ | ⟨g', cap, cur, rfl, hb, hh, _⟩
  · simp [Value.ownBlock] at hg
  · simp only [Value.ownBlock, Option.some.injEq] at hg
    subst hg
    exact ⟨hb, (Array.getElem?_eq_some_iff.1 hh).1, cur, hh⟩
theorem itoa_le (i : Int) (h0 : -9223372036854775808 ≤ i) (h1 : i ≤ 9223372036854775807) : (Lib.itoa i).length ≤ 21 := Lib.itoa_length_le i h0 h1
theorem ai_spec {w0 w : World} {v : Value} {xs : Str} {L : List Chk} {g : Nat} {t : TypeId} {cs : List Value} (i : Int) (h0 : -9223372036854775808 ≤ i) (h1 : i ≤ 9223372036854775807) (hS : Sep w0 w L) (he : Ex (accC v 5 eU xs) L [boxC g t cs]) (ht : t ≠ 5) (hT : Tab w0) (hl : xs.length ≤ 100000000000) :
    Ret Tryd.prog 47 #[v, I i, I 10] w fun res w' => Sep w0 w' [accC res 5 eU (xs ++ Lib.itoa i), boxC g t cs] := by
  have hS1 : Sep w0 w (accC v 5 eU xs :: [boxC g t cs]) := hS.sub (.c he Sub.rfl')
  obtain ⟨hx, F, ⟨q1, q2, q3, q4⟩, qF, F2, ⟨r1, r2⟩, rF, _⟩ := hS1
  have hown := own_base q1 (fun g hg => (qF g (q2 g hg)).1)
  have hbw : w0.heap.size ≤ w.heap.size := hx.size
  have htab : Lib.TabBelow Tryd.prog w0.heap.size w "internal/strconv.uint64pow10" .u64 Lib.pow10Tab := fun w' hb => hT.ext (Below.trans hx hb)
  refine Calls.mono (Go.Proofs.Any.strconv_AppendInt_10 lays176 w0.heap.size xs.length i h0 h1 v _ w hown hbw (by omega) htab) fun e w' => ?_
  rintro ⟨v', rfl, o1, o2, o3⟩
  have hit := itoa_le i h0 h1
  refine ⟨v', rfl, Below.trans hx o2, fun b => v'.ownBlock = some b, ⟨?_, fun g hg => hg, ?_, by rw [List.length_append]; omega⟩, fun b hb => ⟨(own_block o1 hb).1, (own_block o1 hb).2.1, fun h => h⟩, fun b => b = g, ⟨rfl, ?_⟩, fun b hb => ?_, trivial⟩
  · have e : (xs ++ Lib.itoa i).length = xs.length + (Lib.itoa i).length := List.length_append
    have e2 : (xs ++ Lib.itoa i).flatMap eU.f = xs.flatMap eU.f ++ Lib.byteCells (Lib.itoa i) := by rw [List.flatMap_append, bytes_eU]
    rw [e, e2]
    exact own_base (b := 0) ⟨o1.1, by
      rcases o1.2 with h | ⟨g', cap, cur, hv, _, hr⟩
      · exact .inl h
      · exact .inr ⟨g', cap, cur, hv, Nat.zero_le _, hr⟩⟩ (fun _ _ => Nat.zero_le _)
  · intro u hu
    rw [List.flatMap_append, List.mem_append] at hu
    rcases hu with hu | hu
    · exact q3 u hu
    · rw [← bytes_eU] at hu
      obtain ⟨b, _, rfl⟩ := List.mem_map.1 hu
      exact one_i
  · show w'.heap[g]? = _
    exact o3 _ _ r2 (by simp) (by intro c fz e; cases e; exact ht rfl)
  · subst hb
    obtain ⟨a1, a2, _⟩ := rF b r1
    have hk := o3 _ _ (show w.heap[b]? = some (.cells cs.toArray t (0, 0)) from r2) (by simp) (by intro c fz e; cases e; exact ht rfl)
    refine ⟨a1, by have := o2.size; omega, ?_⟩
    rintro (h | h)
    · exact h
    · obtain ⟨_, _, cur, hc⟩ := own_block o1 h
      rw [hk] at hc
      cases hc
      exact ht rfl
end Go.Proofs.YtjajihaeoolefaaDoor
