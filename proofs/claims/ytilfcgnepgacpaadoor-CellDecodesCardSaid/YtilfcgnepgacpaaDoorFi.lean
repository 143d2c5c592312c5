/- The library's FormatInt at this program: what the kit's contract asks of the program, and the contract as a rule of the engine. -/
import Derived.Test.YtilfcgnepgacpaaDoorNj
import Derived.Shelf.Strconv.Itoa4
import Derived.WalkSmall
namespace Go.Proofs.YtilfcgnepgacpaaDoor
set_option linter.unusedSimpArgs false
set_option linter.unusedVariables false
open Go.RowKit Go.Shelf
def lays173_ren : Go.Shelf.Ren := ⟨fun | 173 => 36 | 246 => 50 | 283 => 56 | 284 => 57 | 285 => 58 | 286 => 59 | 129 => 69 | 317 => 68 | 318 => 70 | 319 => 71 | 320 => 72 | 337 => 78 | 338 => 79 | n => n, fun | 2 => 2 | 3 => 3 | 9 => 9 | 4 => 4 | 171 => 87 | 0 => 0 | 53 => 88 | 37 => 75 | 5 => 5 | 173 => 91 | 212 => 103 | 51 => 104 | 20 => 20 | 213 => 105 | 46 => 98 | 232 => 117 | 233 => 118 | n => n, fun | 17 => 0 | 18 => 3 | 19 => 4 | n => n⟩
theorem lays173 : Go.Proofs.LaysM.n173 Tryd.prog lays173_ren where
  mixed := by kernel_rfl
  f129 := Tryd.func69.trans (congrArg some (by kernel_rfl))
  f173 := Tryd.func36.trans (congrArg some (by kernel_rfl))
  f246 := Tryd.func50.trans (congrArg some (by kernel_rfl))
  f283 := Tryd.func56.trans (congrArg some (by kernel_rfl))
  f284 := Tryd.func57.trans (congrArg some (by kernel_rfl))
  f285 := Tryd.func58.trans (congrArg some (by kernel_rfl))
  f286 := Tryd.func59.trans (congrArg some (by kernel_rfl))
  f317 := Tryd.func68.trans (congrArg some (by kernel_rfl))
  f318 := Tryd.func70.trans (congrArg some (by kernel_rfl))
  f319 := Tryd.func71.trans (congrArg some (by kernel_rfl))
  f320 := Tryd.func72.trans (congrArg some (by kernel_rfl))
  f337 := Tryd.func78.trans (congrArg some (by kernel_rfl))
  f338 := Tryd.func79.trans (congrArg some (by kernel_rfl))
  t0 := Tryd.underlying0
  a0 := Tryd.isAgg0
  z0 := Tryd.sizeOf0
  v0 := Tryd.zeroValue0
  t2 := Tryd.underlying2
  a2 := Tryd.isAgg2
  z2 := Tryd.sizeOf2
  v2 := Tryd.zeroValue2
  t3 := Tryd.underlying3
  a3 := Tryd.isAgg3
  z3 := Tryd.sizeOf3
  v3 := Tryd.zeroValue3
  t4 := Tryd.underlying4
  a4 := Tryd.isAgg4
  z4 := Tryd.sizeOf4
  v4 := Tryd.zeroValue4
  t5 := Tryd.underlying5
  a5 := Tryd.isAgg5
  z5 := Tryd.sizeOf5
  v5 := Tryd.zeroValue5
  t9 := Tryd.underlying9
  a9 := Tryd.isAgg9
  z9 := Tryd.sizeOf9
  v9 := Tryd.zeroValue9
  t20 := Tryd.underlying20
  a20 := Tryd.isAgg20
  z20 := Tryd.sizeOf20
  v20 := Tryd.zeroValue20
  t37 := Tryd.underlying75
  a37 := Tryd.isAgg75
  z37 := Tryd.sizeOf75
  v37 := Tryd.zeroValue75
  t46 := Tryd.underlying98
  a46 := Tryd.isAgg98
  z46 := Tryd.sizeOf98
  v46 := Tryd.zeroValue98
  t51 := Tryd.underlying104
  a51 := Tryd.isAgg104
  z51 := Tryd.sizeOf104
  v51 := Tryd.zeroValue104
  t53 := Tryd.underlying88
  a53 := Tryd.isAgg88
  z53 := Tryd.sizeOf88
  v53 := Tryd.zeroValue88
  t171 := Tryd.underlying87
  a171 := Tryd.isAgg87
  z171 := Tryd.sizeOf87
  v171 := Tryd.zeroValue87
  t173 := Tryd.underlying91
  a173 := Tryd.isAgg91
  z173 := Tryd.sizeOf91
  v173 := Tryd.zeroValue91
  t212 := Tryd.underlying103
  a212 := Tryd.isAgg103
  z212 := Tryd.sizeOf103
  v212 := Tryd.zeroValue103
  t213 := Tryd.underlying105
  a213 := Tryd.isAgg105
  z213 := Tryd.sizeOf105
  t232 := Tryd.underlying117
  a232 := Tryd.isAgg117
  z232 := Tryd.sizeOf117
  v232 := Tryd.zeroValue117
  t233 := Tryd.underlying118
  a233 := Tryd.isAgg118
  z233 := Tryd.sizeOf118
  v233 := Tryd.zeroValue118
  g17 := by kernel_rfl
  g18 := by kernel_rfl
  g19 := by kernel_rfl
  i0 := by kernel_rfl
  i2 := by kernel_rfl
  i3 := by kernel_rfl
  i4 := by kernel_rfl
  i5 := by kernel_rfl
  i9 := by kernel_rfl
  i20 := by kernel_rfl
  i37 := by kernel_rfl
  i46 := by kernel_rfl
  i51 := by kernel_rfl
  i53 := by kernel_rfl
  i171 := by kernel_rfl
  i173 := by kernel_rfl
  i212 := by kernel_rfl
  i232 := by kernel_rfl
  i233 := by kernel_rfl
  m17 := by kernel_rfl
  m18 := by kernel_rfl
  m19 := by kernel_rfl
/-- The table of powers of ten lies where it is. -/
def Tab (w : World) : Prop := Lib.TabIs Tryd.prog w "internal/strconv.uint64pow10" .u64 Lib.pow10Tab
theorem tab_glob : Tryd.prog.globalNamed "internal/strconv.uint64pow10" = some 0 := by kernel_rfl
theorem Tab.lt {w : World} (h : Tab w) : 0 < w.heap.size := by
  unfold Tab Lib.TabIs World.var? at h
  rw [tab_glob] at h
  simp only [Option.bind_some] at h
  rcases Nat.eq_zero_or_pos w.heap.size with h0 | h0
  · rw [Array.getElem?_eq_none (by omega)] at h; simp at h
  · exact h0
theorem Tab.ext {w w' : World} (h : Tab w) (hx : Ext w w') : Tab w' := var?_below hx tab_glob h.lt h
theorem grow_ext (w : World) (k : Nat) (os : Array Obj) : Ext w (Sort.grow (w.drewN k) os) := by
  refine ⟨rfl, rfl, rfl, ?_, fun j hj => ?_⟩
  · simp [Sort.grow, World.drewN]
  · show (w.heap ++ os)[j]? = w.heap[j]?
    rw [Array.getElem?_append_left hj]
theorem fi_spec (n : Int) (w : World) (h0 : -9223372036854775808 ≤ n) (h1 : n ≤ 9223372036854775807) (ht : Tab w) : Pu Tryd.prog 36 #[I n, I 10] w (S (Lib.itoa n)) :=
  Calls.mono (Go.Proofs.Any.strconv_FormatInt_10 lays173 n h0 h1 w ht) fun e w' ⟨he, k, os, hw⟩ => ⟨_, he, rfl, by rw [hw]; exact grow_ext w k os⟩
end Go.Proofs.YtilfcgnepgacpaaDoor
