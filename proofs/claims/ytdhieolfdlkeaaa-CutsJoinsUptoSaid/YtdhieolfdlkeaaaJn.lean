/- The library's Join at texts, without a separator: what the kit's contract asks of the program, and the contract as a rule of the engine. -/
import Derived.Test.YtdhieolfdlkeaaaMc
import Derived.Shelf.Strings.OnBuilder
namespace Go.Proofs.Ytdhieolfdlkeaaa
set_option linter.unusedSimpArgs false
set_option linter.unusedVariables false
open Go.RowKit Go.Shelf
def lays156_ren : Go.Shelf.Ren := ⟨fun | 156 => 74 | 165 => 99 | 166 => 100 | 169 => 101 | 240 => 133 | 241 => 134 | 276 => 154 | 277 => 155 | n => n, fun | 31 => 47 | 9 => 9 | 3 => 3 | 4 => 4 | 0 => 0 | 20 => 20 | 72 => 164 | 76 => 168 | 70 => 161 | 37 => 162 | 75 => 167 | 127 => 197 | 164 => 215 | 5 => 5 | 80 => 63 | n => n, fun | n => n⟩
theorem lays156 : Lays.n156 Try.prog lays156_ren where
  mixed := by kernel_rfl
  f156 := Try.func74.trans (congrArg some (by kernel_rfl))
  f165 := Try.func99.trans (congrArg some (by kernel_rfl))
  f166 := Try.func100.trans (congrArg some (by kernel_rfl))
  f169 := Try.func101.trans (congrArg some (by kernel_rfl))
  f240 := Try.func133.trans (congrArg some (by kernel_rfl))
  f241 := Try.func134.trans (congrArg some (by kernel_rfl))
  f276 := Try.func154.trans (congrArg some (by kernel_rfl))
  f277 := Try.func155.trans (congrArg some (by kernel_rfl))
  t0 := Try.underlying0
  a0 := Try.isAgg0
  z0 := Try.sizeOf0
  v0 := Try.zeroValue0
  t3 := Try.underlying3
  a3 := Try.isAgg3
  z3 := Try.sizeOf3
  v3 := Try.zeroValue3
  t4 := Try.underlying4
  a4 := Try.isAgg4
  z4 := Try.sizeOf4
  v4 := Try.zeroValue4
  t9 := Try.underlying9
  a9 := Try.isAgg9
  z9 := Try.sizeOf9
  v9 := Try.zeroValue9
  t20 := Try.underlying20
  a20 := Try.isAgg20
  z20 := Try.sizeOf20
  v20 := Try.zeroValue20
  t31 := Try.underlying47
  a31 := Try.isAgg47
  z31 := Try.sizeOf47
  v31 := Try.zeroValue47
  t37 := Try.underlying162
  a37 := Try.isAgg162
  z37 := Try.sizeOf162
  v37 := Try.zeroValue162
  t70 := Try.underlying161
  a70 := Try.isAgg161
  z70 := Try.sizeOf161
  v70 := Try.zeroValue161
  t72 := Try.underlying164
  a72 := Try.isAgg164
  z72 := Try.sizeOf164
  v72 := Try.zeroValue164
  t75 := Try.underlying167
  a75 := Try.isAgg167
  z75 := Try.sizeOf167
  v75 := Try.zeroValue167
  t76 := Try.underlying168
  a76 := Try.isAgg168
  z76 := Try.sizeOf168
  v76 := Try.zeroValue168
  t127 := Try.underlying197
  a127 := Try.isAgg197
  z127 := Try.sizeOf197
  v127 := Try.zeroValue197
  t164 := Try.underlying215
  a164 := Try.isAgg215
  z164 := Try.sizeOf215
  v164 := Try.zeroValue215
theorem extra156 : Builder.Extra Try.prog lays156_ren where
  sizeBuilder := by kernel_rfl
  liesBuilder := by kernel_rfl
  t5 := Try.underlying5
  a5 := Try.isAgg5
  z5 := Try.sizeOf5
  v5 := Try.zeroValue5
  infoByte := by kernel_rfl
  cellsByte := by kernel_rfl
  sizeByte := by kernel_rfl
  neB5 := by decide
theorem join_flat : ∀ xs : List Str, Lib.join xs [] = xs.flatten
  | [] => rfl
  | x :: r => by simp [Lib.join_cons, Lib.joinTail]
theorem eS_flat : ∀ xs : List Str, xs.flatMap eS.f = xs.map S
  | [] => rfl
  | x :: r => by rw [List.flatMap_cons, eS_flat r]; rfl
theorem mk_back (xs : List Str) : (xs.map fun s => (⟨s.toArray⟩ : ByteArray)).map (·.data.toList) = xs := by
  rw [List.map_map]
  conv => rhs; rw [← List.map_id xs]
  apply List.map_congr_left
  intro x _; simp
theorem join_spec {v : Value} {xs : List Str} {w : World} (hr : Rd w eS v xs) (hb : xs.flatten.length ≤ 140737488355328) (hl : xs.length ≤ 1000000) : Pu Try.prog 74 #[v, S []] w (S xs.flatten) := by
  obtain ⟨p, cap, rfl, h2, h3, h4, h5⟩ := hr
  by_cases hx : xs = []
  · subst hx
    exact Calls.mono (Go.Proofs.Any.strings_Join_none lays156 extra156 p cap ⟨#[]⟩ w) fun e w' ⟨h1, h2⟩ => ⟨_, h1, rfl, h2 ▸ Ext.refl _⟩
  · obtain ⟨a, rfl, hc⟩ := h5 (List.length_pos_iff.2 hx)
    rw [eS_flat] at hc
    have h0 : (xs.map S)[0]? = some (S (xs.getD 0 [])) := by cases xs with | nil => exact absurd rfl hx | cons x r => rfl
    have hc0 := hc 0 _ h0
    have hsp : a.spot = none := by simpa [Addr.add] using cell_spot hc0
    obtain ⟨g, o, sp⟩ := a
    simp only at hsp
    subst hsp
    rw [addg] at hc0
    have hg : g < w.heap.size := by
      rcases Nat.lt_or_ge g w.heap.size with h | h
      · exact h
      · unfold World.cell? at hc0
        simp [Array.getElem?_eq_none h] at hc0
    have hk := Go.Proofs.Any.strings_Join lays156 extra156 g o cap (xs.map fun s => (⟨s.toArray⟩ : ByteArray)) ⟨#[]⟩ w (fun j x hj => by
      rw [List.getElem?_map] at hj
      cases hxj : xs[j]? with
      | none => rw [hxj] at hj; simp at hj
      | some s =>
        rw [hxj] at hj
        simp only [Option.map_some, Option.some.injEq] at hj
        subst hj
        have := hc j (S s) (by rw [List.getElem?_map, hxj]; rfl)
        rwa [addg] at this) hg (by rw [List.length_map]; omega) (by rw [List.length_map]; exact h2) (by rw [mk_back]; show (Lib.join xs []).length ≤ _; rw [join_flat]; exact hb)
    rw [mk_back, List.length_map] at hk
    refine Calls.mono hk fun e w' ⟨h1, h2⟩ => ⟨_, h1, ?_, h2⟩
    show Value.string ⟨(Lib.join xs []).toArray⟩ = _
    rw [join_flat]; rfl
end Go.Proofs.Ytdhieolfdlkeaaa
