/- Texts of the proof, joined. -/
import Derived.Shelf.Sort.Plain
import Derived.Shelf.Slices.In.SortNone
import Derived.Test.YtcglgnbeliljoaawMc
import Derived.Test.YtcglgnbeliljoaawP15
namespace Go.Proofs.Ytcglgnbeliljoaa
set_option linter.unusedSimpArgs false
set_option linter.unusedVariables false
open Go.RowKit Go.Shelf
def lays189_ren : Go.Shelf.Ren := ⟨fun | 189 => 19 | 125 => 23 | 257 => 22 | 128 => 34 | 129 => 35 | 294 => 25 | 295 => 26 | 296 => 27 | 297 => 28 | 298 => 29 | 299 => 30 | 216 => 31 | 300 => 32 | 301 => 33 | 328 => 36 | 329 => 37 | 330 => 38 | 331 => 39 | 332 => 40 | 215 => 41 | 343 => 42 | n => n, fun | 28 => 30 | 3 => 3 | 46 => 51 | 0 => 0 | 51 => 62 | 53 => 64 | 4 => 4 | 183 => 55 | 182 => 54 | 131 => 59 | 5 => 5 | 9 => 9 | 218 => 65 | 222 => 69 | 228 => 71 | 229 => 22 | n => n, fun | n => n⟩
theorem lays189 : Lays.n189 Try.prog lays189_ren where
  mixed := by kernel_rfl
  f125 := Try.func23.trans (congrArg some (by kernel_rfl))
  f128 := Try.func34.trans (congrArg some (by kernel_rfl))
  f129 := Try.func35.trans (congrArg some (by kernel_rfl))
  f189 := Try.func19.trans (congrArg some (by kernel_rfl))
  f215 := Try.func41.trans (congrArg some (by kernel_rfl))
  f216 := Try.func31.trans (congrArg some (by kernel_rfl))
  f257 := Try.func22.trans (congrArg some (by kernel_rfl))
  f294 := Try.func25.trans (congrArg some (by kernel_rfl))
  f295 := Try.func26.trans (congrArg some (by kernel_rfl))
  f296 := Try.func27.trans (congrArg some (by kernel_rfl))
  f297 := Try.func28.trans (congrArg some (by kernel_rfl))
  f298 := Try.func29.trans (congrArg some (by kernel_rfl))
  f299 := Try.func30.trans (congrArg some (by kernel_rfl))
  f300 := Try.func32.trans (congrArg some (by kernel_rfl))
  f301 := Try.func33.trans (congrArg some (by kernel_rfl))
  f328 := Try.func36.trans (congrArg some (by kernel_rfl))
  f329 := Try.func37.trans (congrArg some (by kernel_rfl))
  f330 := Try.func38.trans (congrArg some (by kernel_rfl))
  f331 := Try.func39.trans (congrArg some (by kernel_rfl))
  f332 := Try.func40.trans (congrArg some (by kernel_rfl))
  f343 := Try.func42.trans (congrArg some (by kernel_rfl))
  t0 := Try.underlying0
  a0 := Try.isAgg0
  z0 := Try.sizeOf0
  v0 := Try.zeroValue0
  t3 := Try.underlying3
  a3 := Try.isAgg3
  z3 := Try.sizeOf3
  v3 := Try.zeroValue3
  t4 := Try.underlying4
  a4 := Try.isAgg4
  z4 := Try.sizeOf4
  v4 := Try.zeroValue4
  t5 := Try.underlying5
  a5 := Try.isAgg5
  z5 := Try.sizeOf5
  v5 := Try.zeroValue5
  t9 := Try.underlying9
  a9 := Try.isAgg9
  z9 := Try.sizeOf9
  v9 := Try.zeroValue9
  t28 := Try.underlying30
  a28 := Try.isAgg30
  z28 := Try.sizeOf30
  v28 := Try.zeroValue30
  t46 := Try.underlying51
  a46 := Try.isAgg51
  z46 := Try.sizeOf51
  v46 := Try.zeroValue51
  t51 := Try.underlying62
  a51 := Try.isAgg62
  z51 := Try.sizeOf62
  v51 := Try.zeroValue62
  t53 := Try.underlying64
  a53 := Try.isAgg64
  z53 := Try.sizeOf64
  v53 := Try.zeroValue64
  t131 := Try.underlying59
  a131 := Try.isAgg59
  z131 := Try.sizeOf59
  v131 := Try.zeroValue59
  t182 := Try.underlying54
  a182 := Try.isAgg54
  z182 := Try.sizeOf54
  v182 := Try.zeroValue54
  t183 := Try.underlying55
  a183 := Try.isAgg55
  z183 := Try.sizeOf55
  v183 := Try.zeroValue55
  t218 := Try.underlying65
  a218 := Try.isAgg65
  z218 := Try.sizeOf65
  v218 := Try.zeroValue65
  t222 := Try.underlying69
  a222 := Try.isAgg69
  z222 := Try.sizeOf69
  v222 := Try.zeroValue69
  t228 := Try.underlying71
  a228 := Try.isAgg71
  z228 := Try.sizeOf71
  v228 := Try.zeroValue71
  t229 := Try.underlying22
  a229 := Try.isAgg22
  z229 := Try.sizeOf22
  v229 := Try.zeroValue22
section
variable {ρ : Fr} {w w0 : World} {d : Option Nat} {next : Fr → World → Prop} {L L' : List Chk} {e : TypeId} {v : Value} {xs : List Int}
theorem sort_heap {g n : Nat} {cur : Array Value} {zs : Array Int} {os : Array Obj} (hg : g < w.heap.size) (b : Nat) (hb : b < w.heap.size) :
    (Sort.grow (Sort.putRow (Value.int .i64) (Sort.ahead w n) g 0 zs) os).heap[b]? = if b = g then (w.heap[b]?).map (Sort.onCells (Sort.putCells (Value.int .i64) 0 zs)) else w.heap[b]? := by
  show ((w.heap.modify g (Sort.onCells (Sort.putCells (Value.int .i64) 0 zs))) ++ os)[b]? = _
  rw [Array.getElem?_append_left (by simpa using hb), Array.getElem?_modify]
  by_cases h : g = b
  · rw [if_pos h, if_pos h.symm]
  · rw [if_neg h, if_neg (fun e => h e.symm)]
theorem put_take (cur : Array Value) (zs : List Int) (h : zs.length ≤ cur.size) : (Sort.putCells (Value.int .i64) 0 zs.toArray cur).toList.take zs.length = zs.flatMap eI.f := by
  have e1 : zs.flatMap eI.f = zs.map I := by
    clear h
    induction zs with
    | nil => rfl
    | cons x l ih => rw [List.flatMap_cons, ih]; rfl
  rw [e1]
  apply List.ext_getElem?
  intro k
  by_cases hk : k < zs.length
  · rw [List.getElem?_take, if_pos hk, Array.getElem?_toList]
    simp only [Sort.putCells, Array.getElem?_mapIdx, List.size_toArray]
    rw [Array.getElem?_eq_getElem (by omega), Option.map_some, if_pos ⟨Nat.zero_le _, by omega⟩]
    simp [hk]
  · rw [List.getElem?_take, if_neg hk, List.getElem?_eq_none (by simp; omega)]
theorem sortK (hS : Sep w0 w L) (hu : Up (accC v e eI xs) (accC v e eI (srt xs)) L L') (hl : xs.length ≤ 1000000000) (k : ∀ w', Sep w0 w' L' → next (updO ρ d (.tuple #[])) w') : CallK Try.prog 19 [v] w d ρ next := by
  obtain ⟨R, he, _⟩ := hu.split
  obtain ⟨F, ⟨a1, a2, a3, a4⟩, hF⟩ := hS.get he
  have hsl := srt_len xs
  rcases a1.2 with ⟨rfl, h0⟩ | ⟨g, cap, cur, rfl, hbg, hg, hnc, hcm, hcs, htake⟩
  · have hx : xs = [] := List.eq_nil_of_length_eq_zero h0
    subst hx
    have hc := Go.Proofs.Any.slices_Sort_int_none lays189 none 0 w
    refine zco 19 (V := fun r w' => r = .tuple #[] ∧ w' = w) (Calls.mono hc fun e w' ⟨h1, h2⟩ => ⟨_, h1, rfl, h2⟩) ?_
    rintro r w' ⟨rfl, rfl⟩
    refine k _ ?_
    have hs0 : srt ([] : List Int) = [] := List.eq_nil_of_length_eq_zero (by rw [srt_len]; rfl)
    rw [hs0] at hu
    exact hS.change hu (Nat.le_refl _) rfl rfl rfl fun F h hb => ⟨F, h, fun b hb' => ⟨hb b hb', .inl hb'⟩, fun _ _ _ => rfl⟩
  · have hgF := a2 g rfl
    have hgb := hF g hgF
    have hsz : eI.sz = 1 := rfl
    rw [hsz, Nat.mul_one] at htake hcs
    have hB : Blk w g e cur.toList.toArray := hg
    have hH : Sort.Holds (Value.int .i64) w g 0 xs.toArray := by
      intro j hj
      have hj' : j < xs.length := by simpa using hj
      have e1 : cur.toList[j]? = (cur.toList.take xs.length)[j]? := by rw [List.getElem?_take, if_pos hj']
      rw [htake] at e1
      have e2 : (xs.flatMap eI.f)[j]? = some (I (xs.getD j default)) := by
        have := flat_at eI xs j 0 hj' (by decide)
        simp only [hsz, Nat.mul_one, Nat.add_zero] at this
        rw [this, List.getD_eq_getElem?_getD, List.getElem?_eq_getElem hj']; rfl
      rw [e2] at e1
      refine ⟨?_, hB.frozen _⟩
      rw [hB.cell, Nat.zero_add, List.getElem?_toArray, e1]
      simp [hj']
    have hc := Go.Proofs.Any.slices_Sort_int lays189 g 0 cap xs w hH hgb.2 (by omega)
    refine zco 19 (V := fun r w' => r = .tuple #[] ∧ ∃ n os, w' = Sort.grow (Sort.putRow (Value.int .i64) (Sort.ahead w n) g 0 (srt xs).toArray) os) (Calls.mono hc fun e w' ⟨h1, h2⟩ => ⟨_, h1, rfl, h2⟩) ?_
    rintro r w' ⟨rfl, n, os, rfl⟩
    refine k _ ?_
    have hsw : w.heap.size ≤ (Sort.grow (Sort.putRow (Value.int .i64) (Sort.ahead w n) g 0 (srt xs).toArray) os).heap.size := by
      show _ ≤ ((w.heap.modify g _) ++ os).size
      simp
    refine hS.change hu hsw rfl rfl rfl ?_
    rintro F' ⟨b1, b2, b3, b4⟩ hF'
    have hFg := b2 g rfl
    refine ⟨F', ⟨⟨flat_len eI _, .inr ⟨g, cap, Sort.putCells (Value.int .i64) 0 (srt xs).toArray cur, by rw [hsl], Nat.zero_le _, ?_, by rw [hsl]; exact hnc, hcm, ?_, ?_⟩⟩, fun k hk => b2 k hk, ?_, by omega⟩, fun b hb => ⟨by have := hF' b hb; omega, .inl hb⟩, fun b hlt hb => ?_⟩
    · rw [sort_heap (cur := cur) hgb.2 g hgb.2, if_pos rfl]
      have hg' : w.heap[g]? = _ := hg
      rw [hg']; rfl
    · rw [hsz, Nat.mul_one]; simpa [Sort.putCells] using hcs
    · rw [hsz, Nat.mul_one]
      exact put_take cur (srt xs) (by rw [hsl]; omega)
    · intro u hu
      obtain ⟨x, _, hu⟩ := List.mem_flatMap.1 hu
      simp [eI] at hu
      subst hu; exact one_i
    · rw [sort_heap (cur := cur) hgb.2 b hlt, if_neg (fun e => hb (by rw [e]; exact hFg))]
end
end Go.Proofs.Ytcglgnbeliljoaa
