/- Texts of the proof, joined. -/
import Derived.Shelf.Strconv.Itoa4
import Derived.WalkSmall
import Derived.LaidSub
import Derived.MakeChecks
import Derived.Lib.LaidTab
import Derived.Test.YtdikpaochhacmaaGreatDoorsMc
namespace Go.Proofs.YtdikpaochhacmaaGreatDoor
set_option linter.unusedSimpArgs false
set_option linter.unusedVariables false
open Go.RowKit Go.Shelf
def lays173_ren : Go.Shelf.Ren := ⟨fun | 173 => 104 | 246 => 127 | 283 => 146 | 284 => 147 | 285 => 148 | 286 => 149 | 129 => 160 | 317 => 159 | 318 => 161 | 319 => 162 | 320 => 163 | 337 => 166 | 338 => 167 | n => n, fun | 2 => 2 | 3 => 3 | 9 => 9 | 4 => 4 | 171 => 241 | 0 => 0 | 53 => 234 | 37 => 163 | 5 => 5 | 173 => 244 | 212 => 254 | 51 => 255 | 20 => 20 | 213 => 256 | 46 => 237 | 232 => 263 | 233 => 264 | n => n, fun | 17 => 2 | 18 => 3 | 19 => 4 | n => n⟩
theorem lays173 : LaysM.n173 Tryz.prog lays173_ren where
  mixed := by kernel_rfl
  f129 := Tryz.func160.trans (congrArg some (by kernel_rfl))
  f173 := Tryz.func104.trans (congrArg some (by kernel_rfl))
  f246 := Tryz.func127.trans (congrArg some (by kernel_rfl))
  f283 := Tryz.func146.trans (congrArg some (by kernel_rfl))
  f284 := Tryz.func147.trans (congrArg some (by kernel_rfl))
  f285 := Tryz.func148.trans (congrArg some (by kernel_rfl))
  f286 := Tryz.func149.trans (congrArg some (by kernel_rfl))
  f317 := Tryz.func159.trans (congrArg some (by kernel_rfl))
  f318 := Tryz.func161.trans (congrArg some (by kernel_rfl))
  f319 := Tryz.func162.trans (congrArg some (by kernel_rfl))
  f320 := Tryz.func163.trans (congrArg some (by kernel_rfl))
  f337 := Tryz.func166.trans (congrArg some (by kernel_rfl))
  f338 := Tryz.func167.trans (congrArg some (by kernel_rfl))
  t0 := Tryz.underlying0
  a0 := Tryz.isAgg0
  z0 := Tryz.sizeOf0
  v0 := Tryz.zeroValue0
  t2 := Tryz.underlying2
  a2 := Tryz.isAgg2
  z2 := Tryz.sizeOf2
  v2 := Tryz.zeroValue2
  t3 := Tryz.underlying3
  a3 := Tryz.isAgg3
  z3 := Tryz.sizeOf3
  v3 := Tryz.zeroValue3
  t4 := Tryz.underlying4
  a4 := Tryz.isAgg4
  z4 := Tryz.sizeOf4
  v4 := Tryz.zeroValue4
  t5 := Tryz.underlying5
  a5 := Tryz.isAgg5
  z5 := Tryz.sizeOf5
  v5 := Tryz.zeroValue5
  t9 := Tryz.underlying9
  a9 := Tryz.isAgg9
  z9 := Tryz.sizeOf9
  v9 := Tryz.zeroValue9
  t20 := Tryz.underlying20
  a20 := Tryz.isAgg20
  z20 := Tryz.sizeOf20
  v20 := Tryz.zeroValue20
  t37 := Tryz.underlying163
  a37 := Tryz.isAgg163
  z37 := Tryz.sizeOf163
  v37 := Tryz.zeroValue163
  t46 := Tryz.underlying237
  a46 := Tryz.isAgg237
  z46 := Tryz.sizeOf237
  v46 := Tryz.zeroValue237
  t51 := Tryz.underlying255
  a51 := Tryz.isAgg255
  z51 := Tryz.sizeOf255
  v51 := Tryz.zeroValue255
  t53 := Tryz.underlying234
  a53 := Tryz.isAgg234
  z53 := Tryz.sizeOf234
  v53 := Tryz.zeroValue234
  t171 := Tryz.underlying241
  a171 := Tryz.isAgg241
  z171 := Tryz.sizeOf241
  v171 := Tryz.zeroValue241
  t173 := Tryz.underlying244
  a173 := Tryz.isAgg244
  z173 := Tryz.sizeOf244
  v173 := Tryz.zeroValue244
  t212 := Tryz.underlying254
  a212 := Tryz.isAgg254
  z212 := Tryz.sizeOf254
  v212 := Tryz.zeroValue254
  t213 := Tryz.underlying256
  a213 := Tryz.isAgg256
  z213 := Tryz.sizeOf256
  t232 := Tryz.underlying263
  a232 := Tryz.isAgg263
  z232 := Tryz.sizeOf263
  v232 := Tryz.zeroValue263
  t233 := Tryz.underlying264
  a233 := Tryz.isAgg264
  z233 := Tryz.sizeOf264
  v233 := Tryz.zeroValue264
  g17 := by kernel_rfl
  g18 := by kernel_rfl
  g19 := by kernel_rfl
  i0 := by kernel_rfl
  i2 := by kernel_rfl
  i3 := by kernel_rfl
  i4 := by kernel_rfl
  i5 := by kernel_rfl
  i9 := by kernel_rfl
  i20 := by kernel_rfl
  i37 := by kernel_rfl
  i46 := by kernel_rfl
  i51 := by kernel_rfl
  i53 := by kernel_rfl
  i171 := by kernel_rfl
  i173 := by kernel_rfl
  i212 := by kernel_rfl
  i232 := by kernel_rfl
  i233 := by kernel_rfl
  m17 := by kernel_rfl
  m18 := by kernel_rfl
  m19 := by kernel_rfl
def Tab (w : World) : Prop := Lib.TabIs Tryz.prog w "internal/strconv.uint64pow10" .u64 Lib.pow10Tab
theorem tab_glob : Tryz.prog.globalNamed "internal/strconv.uint64pow10" = some 2 := by kernel_rfl
theorem Tab.lt {w : World} (h : Tab w) : 2 < w.heap.size := by
  unfold Tab Lib.TabIs World.var? at h
  rw [tab_glob] at h
  simp only [Option.bind_some] at h
  rcases Nat.lt_or_ge 2 w.heap.size with h0 | h0
  · exact h0
  · rw [Array.getElem?_eq_none (by omega)] at h; simp at h
theorem Tab.ext {w w' : World} (h : Tab w) (hx : Ext w w') : Tab w' := var?_below hx tab_glob h.lt h
theorem grow_ext (w : World) (k : Nat) (os : Array Obj) : Ext w (Sort.grow (w.drewN k) os) := by
  refine ⟨rfl, rfl, rfl, ?_, fun j hj => ?_⟩
  · simp [Sort.grow, World.drewN]
  · show (w.heap ++ os)[j]? = w.heap[j]?
    rw [Array.getElem?_append_left hj]
theorem fi_spec (n : Int) (w : World) (h0 : -9223372036854775808 ≤ n) (h1 : n ≤ 9223372036854775807) (ht : Tab w) : Pu Tryz.prog 104 #[I n, I 10] w (S (Lib.itoa n)) :=
  Calls.mono (Go.Proofs.Any.strconv_FormatInt_10 lays173 n h0 h1 w ht) fun e w' ⟨he, k, os, hw⟩ => ⟨_, he, rfl, by rw [hw]; exact grow_ext w k os⟩
end Go.Proofs.YtdikpaochhacmaaGreatDoor
namespace Go.Proofs.YtdikpaochhacmaaGreatDoor
set_option linter.unusedSimpArgs false
set_option linter.unusedVariables false
open Go.RowKit Go.WideShapes Go.ChangeShapes
theorem tab_of {W : World} {l : List (String × DataW Unit)} (hp : (l.all fun x => x.2.handleName?.isNone) = true) (hl : l.filter (fun x => x.1 == "internal/strconv.uint64pow10") = [("internal/strconv.uint64pow10", Lib.tabData .u64 Lib.pow10Tab)])
    (h : laidMetH Tryz.prog l W) : Tab W := by
  rw [MakeChecks.laidMetH_plain _ _ _ hp] at h
  have h2 := h.filter fun x => x.1 == "internal/strconv.uint64pow10"
  rw [hl] at h2
  exact Lib.tabIs_of_head tab_glob (show (Tryz.prog.globals[2]?).map (·.type) = some 254 by kernel_rfl) Tryz.underlying254 Tryz.underlying234 (by kernel_rfl) (by kernel_rfl) h2
end Go.Proofs.YtdikpaochhacmaaGreatDoor
