/- The library's Sort at numbers: what the kit's contract asks of the program, and the contract as a rule of the engine. -/
import Derived.Test.YtdhieolfdlkeaaaMc
import Derived.Test.YtdhieolfdlkeaaaP07
import Derived.Shelf.Sort.Plain
import Derived.Shelf.Slices.In.SortNone
namespace Go.Proofs.Ytdhieolfdlkeaaa
set_option linter.unusedSimpArgs false
set_option linter.unusedVariables false
open Go.RowKit Go.Shelf
def lays189_ren : Go.Shelf.Ren := ⟨fun | 189 => 73 | 125 => 98 | 257 => 97 | 128 => 131 | 129 => 132 | 294 => 122 | 295 => 123 | 296 => 124 | 297 => 125 | 298 => 126 | 299 => 127 | 216 => 128 | 300 => 129 | 301 => 130 | 328 => 148 | 329 => 149 | 330 => 150 | 331 => 151 | 332 => 152 | 215 => 153 | 343 => 160 | n => n, fun | 28 => 58 | 3 => 3 | 46 => 160 | 0 => 0 | 51 => 194 | 53 => 196 | 4 => 4 | 183 => 188 | 182 => 187 | 131 => 75 | 5 => 5 | 9 => 9 | 218 => 209 | 222 => 213 | 228 => 219 | 229 => 82 | n => n, fun | n => n⟩
theorem lays189 : Lays.n189 Try.prog lays189_ren where
  mixed := by kernel_rfl
  f125 := Try.func98.trans (congrArg some (by kernel_rfl))
  f128 := Try.func131.trans (congrArg some (by kernel_rfl))
  f129 := Try.func132.trans (congrArg some (by kernel_rfl))
  f189 := Try.func73.trans (congrArg some (by kernel_rfl))
  f215 := Try.func153.trans (congrArg some (by kernel_rfl))
  f216 := Try.func128.trans (congrArg some (by kernel_rfl))
  f257 := Try.func97.trans (congrArg some (by kernel_rfl))
  f294 := Try.func122.trans (congrArg some (by kernel_rfl))
  f295 := Try.func123.trans (congrArg some (by kernel_rfl))
  f296 := Try.func124.trans (congrArg some (by kernel_rfl))
  f297 := Try.func125.trans (congrArg some (by kernel_rfl))
  f298 := Try.func126.trans (congrArg some (by kernel_rfl))
  f299 := Try.func127.trans (congrArg some (by kernel_rfl))
  f300 := Try.func129.trans (congrArg some (by kernel_rfl))
  f301 := Try.func130.trans (congrArg some (by kernel_rfl))
  f328 := Try.func148.trans (congrArg some (by kernel_rfl))
  f329 := Try.func149.trans (congrArg some (by kernel_rfl))
  f330 := Try.func150.trans (congrArg some (by kernel_rfl))
  f331 := Try.func151.trans (congrArg some (by kernel_rfl))
  f332 := Try.func152.trans (congrArg some (by kernel_rfl))
  f343 := Try.func160.trans (congrArg some (by kernel_rfl))
  t0 := Try.underlying0
  a0 := Try.isAgg0
  z0 := Try.sizeOf0
  v0 := Try.zeroValue0
  t3 := Try.underlying3
  a3 := Try.isAgg3
  z3 := Try.sizeOf3
  v3 := Try.zeroValue3
  t4 := Try.underlying4
  a4 := Try.isAgg4
  z4 := Try.sizeOf4
  v4 := Try.zeroValue4
  t5 := Try.underlying5
  a5 := Try.isAgg5
  z5 := Try.sizeOf5
  v5 := Try.zeroValue5
  t9 := Try.underlying9
  a9 := Try.isAgg9
  z9 := Try.sizeOf9
  v9 := Try.zeroValue9
  t28 := Try.underlying58
  a28 := Try.isAgg58
  z28 := Try.sizeOf58
  v28 := Try.zeroValue58
  t46 := Try.underlying160
  a46 := Try.isAgg160
  z46 := Try.sizeOf160
  v46 := Try.zeroValue160
  t51 := Try.underlying194
  a51 := Try.isAgg194
  z51 := Try.sizeOf194
  v51 := Try.zeroValue194
  t53 := Try.underlying196
  a53 := Try.isAgg196
  z53 := Try.sizeOf196
  v53 := Try.zeroValue196
  t131 := Try.underlying75
  a131 := Try.isAgg75
  z131 := Try.sizeOf75
  v131 := Try.zeroValue75
  t182 := Try.underlying187
  a182 := Try.isAgg187
  z182 := Try.sizeOf187
  v182 := Try.zeroValue187
  t183 := Try.underlying188
  a183 := Try.isAgg188
  z183 := Try.sizeOf188
  v183 := Try.zeroValue188
  t218 := Try.underlying209
  a218 := Try.isAgg209
  z218 := Try.sizeOf209
  v218 := Try.zeroValue209
  t222 := Try.underlying213
  a222 := Try.isAgg213
  z222 := Try.sizeOf213
  v222 := Try.zeroValue213
  t228 := Try.underlying219
  a228 := Try.isAgg219
  z228 := Try.sizeOf219
  v228 := Try.zeroValue219
  t229 := Try.underlying82
  a229 := Try.isAgg82
  z229 := Try.sizeOf82
  v229 := Try.zeroValue82
section
variable {ρ : Fr} {w w0 : World} {d : Option Nat} {next : Fr → World → Prop} {L L' : List Chk} {e : TypeId} {v : Value} {xs : List Int}
theorem sort_heap {g n : Nat} {cur : Array Value} {zs : Array Int} {os : Array Obj} (hg : g < w.heap.size) (b : Nat) (hb : b < w.heap.size) :
    (Sort.grow (Sort.putRow (Value.int .i64) (Sort.ahead w n) g 0 zs) os).heap[b]? = if b = g then (w.heap[b]?).map (Sort.onCells (Sort.putCells (Value.int .i64) 0 zs)) else w.heap[b]? := by
  show ((w.heap.modify g (Sort.onCells (Sort.putCells (Value.int .i64) 0 zs))) ++ os)[b]? = _
  rw [Array.getElem?_append_left (by simpa using hb), Array.getElem?_modify]
  by_cases h : g = b
  · rw [if_pos h, if_pos h.symm]
  · rw [if_neg h, if_neg (fun e => h e.symm)]
theorem put_take (cur : Array Value) (zs : List Int) (h : zs.length ≤ cur.size) : (Sort.putCells (Value.int .i64) 0 zs.toArray cur).toList.take zs.length = zs.flatMap eI.f := by
  have e1 : zs.flatMap eI.f = zs.map I := by
    clear h
    induction zs with
    | nil => rfl
    | cons x l ih => rw [List.flatMap_cons, ih]; rfl
  rw [e1]
  apply List.ext_getElem?
  intro k
  by_cases hk : k < zs.length
  · rw [List.getElem?_take, if_pos hk, Array.getElem?_toList]
    simp only [Sort.putCells, Array.getElem?_mapIdx, List.size_toArray]
    rw [Array.getElem?_eq_getElem (by omega), Option.map_some, if_pos ⟨Nat.zero_le _, by omega⟩]
    simp [hk]
  · rw [List.getElem?_take, if_neg hk, List.getElem?_eq_none (by simp; omega)]
theorem sortK (hS : Sep w0 w L) (hu : Up (accC v e eI xs) (accC v e eI (srt xs)) L L') (hl : xs.length ≤ 1000000000) (k : ∀ w', Sep w0 w' L' → next (updO ρ d (.tuple #[])) w') : CallK Try.prog 73 [v] w d ρ next := by
  obtain ⟨R, he, _⟩ := hu.split
  obtain ⟨F, ⟨a1, a2, a3, a4⟩, hF⟩ := hS.get he
  have hsl := srt_len xs
  rcases a1.2 with ⟨rfl, h0⟩ | ⟨g, cap, cur, rfl, hbg, hg, hnc, hcm, hcs, htake⟩
  · have hx : xs = [] := List.eq_nil_of_length_eq_zero h0
    subst hx
    have hc := Go.Proofs.Any.slices_Sort_int_none lays189 none 0 w
    refine zco 73 (V := fun r w' => r = .tuple #[] ∧ w' = w) (Calls.mono hc fun e w' ⟨h1, h2⟩ => ⟨_, h1, rfl, h2⟩) ?_
    rintro r w' ⟨rfl, rfl⟩
    refine k _ ?_
    have hs0 : srt ([] : List Int) = [] := List.eq_nil_of_length_eq_zero (by rw [srt_len]; rfl)
    rw [hs0] at hu
    exact hS.change hu (Nat.le_refl _) rfl rfl rfl fun F h hb => ⟨F, h, fun b hb' => ⟨hb b hb', .inl hb'⟩, fun _ _ _ => rfl⟩
  · have hgF := a2 g rfl
    have hgb := hF g hgF
    have hsz : eI.sz = 1 := rfl
    rw [hsz, Nat.mul_one] at htake hcs
    have hB : Blk w g e cur.toList.toArray := hg
    have hH : Sort.Holds (Value.int .i64) w g 0 xs.toArray := by
      intro j hj
      have hj' : j < xs.length := by simpa using hj
      have e1 : cur.toList[j]? = (cur.toList.take xs.length)[j]? := by rw [List.getElem?_take, if_pos hj']
      rw [htake] at e1
      have e2 : (xs.flatMap eI.f)[j]? = some (I (xs.getD j default)) := by
        have := flat_at eI xs j 0 hj' (by decide)
        simp only [hsz, Nat.mul_one, Nat.add_zero] at this
        rw [this, List.getD_eq_getElem?_getD, List.getElem?_eq_getElem hj']; rfl
      rw [e2] at e1
      refine ⟨?_, hB.frozen _⟩
      rw [hB.cell, Nat.zero_add, List.getElem?_toArray, e1]
      simp [hj']
    have hc := Go.Proofs.Any.slices_Sort_int lays189 g 0 cap xs w hH hgb.2 (by omega)
    refine zco 73 (V := fun r w' => r = .tuple #[] ∧ ∃ n os, w' = Sort.grow (Sort.putRow (Value.int .i64) (Sort.ahead w n) g 0 (srt xs).toArray) os) (Calls.mono hc fun e w' ⟨h1, h2⟩ => ⟨_, h1, rfl, h2⟩) ?_
    rintro r w' ⟨rfl, n, os, rfl⟩
    refine k _ ?_
    have hsw : w.heap.size ≤ (Sort.grow (Sort.putRow (Value.int .i64) (Sort.ahead w n) g 0 (srt xs).toArray) os).heap.size := by
      show _ ≤ ((w.heap.modify g _) ++ os).size
      simp
    refine hS.change hu hsw rfl rfl rfl ?_
    rintro F' ⟨b1, b2, b3, b4⟩ hF'
    have hFg := b2 g rfl
    refine ⟨F', ⟨⟨flat_len eI _, .inr ⟨g, cap, Sort.putCells (Value.int .i64) 0 (srt xs).toArray cur, by rw [hsl], Nat.zero_le _, ?_, by rw [hsl]; exact hnc, hcm, ?_, ?_⟩⟩, fun k hk => b2 k hk, ?_, by omega⟩, fun b hb => ⟨by have := hF' b hb; omega, .inl hb⟩, fun b hlt hb => ?_⟩
    · rw [sort_heap (cur := cur) hgb.2 g hgb.2, if_pos rfl]
      have hg' : w.heap[g]? = _ := hg
      rw [hg']; rfl
    · rw [hsz, Nat.mul_one]; simpa [Sort.putCells] using hcs
    · rw [hsz, Nat.mul_one]
      exact put_take cur (srt xs) (by rw [hsl]; omega)
    · intro u hu
      obtain ⟨x, _, hu⟩ := List.mem_flatMap.1 hu
      simp [eI] at hu
      subst hu; exact one_i
    · rw [sort_heap (cur := cur) hgb.2 b hlt, if_neg (fun e => hb (by rw [e]; exact hFg))]
end
end Go.Proofs.Ytdhieolfdlkeaaa
