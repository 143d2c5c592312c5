/- The library's ParseInt at this program: what the kit's contract asks of the program, and the contract as a rule of the engine. -/
import Derived.Test.YtcphknmkjicpkaaDoorFi
import Derived.Test.YtcphknmkjicpkaaDoorP16
import Derived.Shelf.Strconv.ParseIntPublic10
import Derived.Stop.IfaceNil
namespace Go.Proofs.YtcphknmkjicpkaaDoor
set_option linter.unusedSimpArgs false
set_option linter.unusedVariables false
open Go.RowKit Go.Shelf
def lays174_ren : Go.Shelf.Ren := ⟨fun | 174 => 20 | 247 => 24 | 245 => 25 | 287 => 29 | 279 => 30 | 280 => 31 | 281 => 32 | 282 => 33 | 321 => 39 | 322 => 40 | 316 => 41 | 171 => 43 | 205 => 42 | 243 => 49 | 246 => 27 | 283 => 35 | 284 => 36 | 285 => 37 | 286 => 38 | 129 => 45 | 317 => 44 | 318 => 46 | 319 => 47 | 320 => 48 | 337 => 50 | 338 => 51 | n => n, fun | 9 => 9 | 3 => 3 | 2 => 2 | 75 => 42 | 85 => 43 | 4 => 4 | 167 => 51 | 5 => 5 | 53 => 37 | 175 => 52 | 46 => 40 | 168 => 54 | 37 => 47 | 0 => 0 | 210 => 66 | 21 => 21 | 127 => 75 | 145 => 78 | 143 => 76 | 171 => 58 | 173 => 61 | 212 => 70 | 51 => 71 | 20 => 20 | 213 => 72 | 232 => 80 | 233 => 81 | 80 => 82 | n => n, fun | 15 => 0 | 16 => 1 | 17 => 2 | 18 => 3 | 19 => 4 | n => n⟩
theorem lays174 : LaysC.n174 Tryd.prog lays174_ren where
  mixed := by kernel_rfl
  f129 := Tryd.func45.trans (congrArg some (by kernel_rfl))
  f171 := Tryd.func43.trans (congrArg some (by kernel_rfl))
  f174 := Tryd.func20.trans (congrArg some (by kernel_rfl))
  f205 := Tryd.func42.trans (congrArg some (by kernel_rfl))
  f243 := Tryd.func49.trans (congrArg some (by kernel_rfl))
  f245 := Tryd.func25.trans (congrArg some (by kernel_rfl))
  f246 := Tryd.func27.trans (congrArg some (by kernel_rfl))
  f247 := Tryd.func24.trans (congrArg some (by kernel_rfl))
  f279 := Tryd.func30.trans (congrArg some (by kernel_rfl))
  f280 := Tryd.func31.trans (congrArg some (by kernel_rfl))
  f281 := Tryd.func32.trans (congrArg some (by kernel_rfl))
  f282 := Tryd.func33.trans (congrArg some (by kernel_rfl))
  f283 := Tryd.func35.trans (congrArg some (by kernel_rfl))
  f284 := Tryd.func36.trans (congrArg some (by kernel_rfl))
  f285 := Tryd.func37.trans (congrArg some (by kernel_rfl))
  f286 := Tryd.func38.trans (congrArg some (by kernel_rfl))
  f287 := Tryd.func29.trans (congrArg some (by kernel_rfl))
  f316 := Tryd.func41.trans (congrArg some (by kernel_rfl))
  f317 := Tryd.func44.trans (congrArg some (by kernel_rfl))
  f318 := Tryd.func46.trans (congrArg some (by kernel_rfl))
  f319 := Tryd.func47.trans (congrArg some (by kernel_rfl))
  f320 := Tryd.func48.trans (congrArg some (by kernel_rfl))
  f321 := Tryd.func39.trans (congrArg some (by kernel_rfl))
  f322 := Tryd.func40.trans (congrArg some (by kernel_rfl))
  f337 := Tryd.func50.trans (congrArg some (by kernel_rfl))
  f338 := Tryd.func51.trans (congrArg some (by kernel_rfl))
  t0 := Tryd.underlying0
  a0 := Tryd.isAgg0
  z0 := Tryd.sizeOf0
  v0 := Tryd.zeroValue0
  t2 := Tryd.underlying2
  a2 := Tryd.isAgg2
  z2 := Tryd.sizeOf2
  v2 := Tryd.zeroValue2
  t3 := Tryd.underlying3
  a3 := Tryd.isAgg3
  z3 := Tryd.sizeOf3
  v3 := Tryd.zeroValue3
  t4 := Tryd.underlying4
  a4 := Tryd.isAgg4
  z4 := Tryd.sizeOf4
  v4 := Tryd.zeroValue4
  t5 := Tryd.underlying5
  a5 := Tryd.isAgg5
  z5 := Tryd.sizeOf5
  v5 := Tryd.zeroValue5
  t9 := Tryd.underlying9
  a9 := Tryd.isAgg9
  z9 := Tryd.sizeOf9
  v9 := Tryd.zeroValue9
  t20 := Tryd.underlying20
  a20 := Tryd.isAgg20
  z20 := Tryd.sizeOf20
  v20 := Tryd.zeroValue20
  t21 := Tryd.underlying21
  a21 := Tryd.isAgg21
  z21 := Tryd.sizeOf21
  v21 := Tryd.zeroValue21
  t37 := Tryd.underlying47
  a37 := Tryd.isAgg47
  z37 := Tryd.sizeOf47
  v37 := Tryd.zeroValue47
  t46 := Tryd.underlying40
  a46 := Tryd.isAgg40
  z46 := Tryd.sizeOf40
  v46 := Tryd.zeroValue40
  t51 := Tryd.underlying71
  a51 := Tryd.isAgg71
  z51 := Tryd.sizeOf71
  v51 := Tryd.zeroValue71
  t53 := Tryd.underlying37
  a53 := Tryd.isAgg37
  z53 := Tryd.sizeOf37
  v53 := Tryd.zeroValue37
  t75 := Tryd.underlying42
  a75 := Tryd.isAgg42
  z75 := Tryd.sizeOf42
  v75 := Tryd.zeroValue42
  t85 := Tryd.underlying43
  a85 := Tryd.isAgg43
  z85 := Tryd.sizeOf43
  v85 := Tryd.zeroValue43
  t127 := Tryd.underlying75
  a127 := Tryd.isAgg75
  z127 := Tryd.sizeOf75
  v127 := Tryd.zeroValue75
  t143 := Tryd.underlying76
  a143 := Tryd.isAgg76
  z143 := Tryd.sizeOf76
  v143 := Tryd.zeroValue76
  t145 := Tryd.underlying78
  a145 := Tryd.isAgg78
  z145 := Tryd.sizeOf78
  v145 := Tryd.zeroValue78
  t167 := Tryd.underlying51
  a167 := Tryd.isAgg51
  z167 := Tryd.sizeOf51
  v167 := Tryd.zeroValue51
  t168 := Tryd.underlying54
  a168 := Tryd.isAgg54
  z168 := Tryd.sizeOf54
  v168 := Tryd.zeroValue54
  t171 := Tryd.underlying58
  a171 := Tryd.isAgg58
  z171 := Tryd.sizeOf58
  v171 := Tryd.zeroValue58
  t173 := Tryd.underlying61
  a173 := Tryd.isAgg61
  z173 := Tryd.sizeOf61
  v173 := Tryd.zeroValue61
  t175 := Tryd.underlying52
  a175 := Tryd.isAgg52
  z175 := Tryd.sizeOf52
  v175 := Tryd.zeroValue52
  t210 := Tryd.underlying66
  a210 := Tryd.isAgg66
  z210 := Tryd.sizeOf66
  v210 := Tryd.zeroValue66
  t212 := Tryd.underlying70
  a212 := Tryd.isAgg70
  z212 := Tryd.sizeOf70
  v212 := Tryd.zeroValue70
  t213 := Tryd.underlying72
  a213 := Tryd.isAgg72
  z213 := Tryd.sizeOf72
  t232 := Tryd.underlying80
  a232 := Tryd.isAgg80
  z232 := Tryd.sizeOf80
  v232 := Tryd.zeroValue80
  t233 := Tryd.underlying81
  a233 := Tryd.isAgg81
  z233 := Tryd.sizeOf81
  v233 := Tryd.zeroValue81
  g15 := by kernel_rfl
  g16 := by kernel_rfl
  g17 := by kernel_rfl
  g18 := by kernel_rfl
  g19 := by kernel_rfl
  t80 := Tryd.underlying82
  a80 := Tryd.isAgg82
  z80 := Tryd.sizeOf82
  v80 := Tryd.zeroValue82
  i0 := by kernel_rfl
  i2 := by kernel_rfl
  i3 := by kernel_rfl
  i4 := by kernel_rfl
  i5 := by kernel_rfl
  i9 := by kernel_rfl
  i20 := by kernel_rfl
  i21 := by kernel_rfl
  i37 := by kernel_rfl
  i46 := by kernel_rfl
  i51 := by kernel_rfl
  i53 := by kernel_rfl
  i75 := by kernel_rfl
  i80 := by kernel_rfl
  i85 := by kernel_rfl
  i127 := by kernel_rfl
  i143 := by kernel_rfl
  i145 := by kernel_rfl
  i167 := by kernel_rfl
  i168 := by kernel_rfl
  i171 := by kernel_rfl
  i173 := by kernel_rfl
  i175 := by kernel_rfl
  i210 := by kernel_rfl
  i212 := by kernel_rfl
  i232 := by kernel_rfl
  i233 := by kernel_rfl
  m15 := by kernel_rfl
  m16 := by kernel_rfl
  m17 := by kernel_rfl
  m18 := by kernel_rfl
  m19 := by kernel_rfl
  c0 := by kernel_rfl
  c2 := by kernel_rfl
  c3 := by kernel_rfl
  c4 := by kernel_rfl
  c5 := by kernel_rfl
  c9 := by kernel_rfl
  c20 := by kernel_rfl
  c21 := by kernel_rfl
  c37 := by kernel_rfl
  c46 := by kernel_rfl
  c51 := by kernel_rfl
  c53 := by kernel_rfl
  c75 := by kernel_rfl
  c80 := by kernel_rfl
  c85 := by kernel_rfl
  c127 := by kernel_rfl
  c143 := by kernel_rfl
  c145 := by kernel_rfl
  c167 := by kernel_rfl
  c168 := by kernel_rfl
  c171 := by kernel_rfl
  c173 := by kernel_rfl
  c175 := by kernel_rfl
  c210 := by kernel_rfl
  c212 := by kernel_rfl
  c213 := by kernel_rfl
  c232 := by kernel_rfl
  c233 := by kernel_rfl
/-- strconv's own variable of an error of range lies where it is. -/
def ErrV (w : World) : Prop := ∃ ev, w.cell? ⟨lays174_ren.g 16, 0, none⟩ = some ev ∧ (ev = .nilIface ∨ ∃ te pe, ev = .iface te pe)
theorem ErrV.ext {w w' : World} (h : ErrV w) (hx : Ext w w') : ErrV w' := by
  obtain ⟨ev, h1, h2⟩ := h
  exact ⟨ev, hx.cell h1, h2⟩
def errT : Value → Prop | .nilIface => True | .iface _ _ => True | _ => False
theorem bytes_ext (w : World) (t : TypeId) (s : ByteArray) : Ext w (Lib.bytesWorld w t s) := by
  have h1 : Ext w (w.drew.alloc (.cells (Lib.bytesCells w t s) t)) := ((Ext.refl w).drew).alloc _
  unfold Lib.bytesWorld
  generalize hw : w.drew.alloc (.cells (Lib.bytesCells w t s) t) = w1 at h1
  obtain ⟨a1, a2, a3, a4, a5⟩ := h1
  unfold World.freeze
  split
  · exact ⟨a1, a2, a3, a4, a5⟩
  · refine ⟨a1, a2, a3, by simpa using a4, fun k hk => ?_⟩
    have hne : ¬ w.heap.size = k := by omega
    simp [Array.getElem?_modify, hne, a5 k hk]
theorem pi_ok (s : Str) (w : World) (hl : s.length ≤ 1000000) (h : formM s = true) (hr : -9223372036854775808 ≤ numM s ∧ numM s ≤ 9223372036854775807) :
    Pu Tryd.prog 20 #[S s, I 10, I 64] w (.tuple #[I (numM s), .nilIface]) := by
  have h0 := pint h
  rw [if_pos hr] at h0
  refine Calls.mono (Go.Proofs.Any.strconv_ParseInt_10_at64_ok lays174 ⟨s.toArray⟩ (by simp [ByteArray.size]; omega) (numM s) (by simpa using h0) w) fun e w' ⟨he, hw⟩ => ⟨_, he, rfl, ?_⟩
  rcases hw with rfl | ⟨t, rfl⟩
  · exact Ext.refl _
  · exact bytes_ext w _ t
theorem pi_range (s : Str) (w : World) (hl : s.length ≤ 1000000) (h : formM s = true) (hr : ¬ (-9223372036854775808 ≤ numM s ∧ numM s ≤ 9223372036854775807)) (hv : ErrV w) :
    Ret Tryd.prog 20 #[S s, I 10, I 64] w fun v w' => ∃ n t p, v = .tuple #[I n, .iface t p] ∧ Ext w w' := by
  have h0 := pint h
  rw [if_neg hr] at h0
  obtain ⟨ev, h1, h2⟩ := hv
  refine Calls.mono (Go.Proofs.Any.strconv_ParseInt_10_at64_range lays174 ⟨s.toArray⟩ (by simp [ByteArray.size]; omega) (by simpa using h0) ev w h1 h2) fun e w' ⟨m, he, _, _, hw⟩ => ⟨_, he, _, _, _, rfl, hw⟩
section
variable {P : Program} {ρ : Fr} {w : World} {d : Option Nat} {next : Fr → World → Prop} {t : TypeId} {x : Operand} {c v : Value} {u : TypeId}
theorem znn (h : next (updO ρ d (.bool false)) w) (hi : P.isIface t = true := by kernel_rfl) : SemK P (do eqGuard .neq t x (.const c) .nilIface .nilIface; binOp .neq t .nilIface .nilIface) w d ρ next :=
  ⟨_, w, by simp [eqGuard, run_neq_nil_nil_at w t hi], h⟩
theorem zns {y : Operand} (h : next (updO ρ d (.bool true)) w) (hi : P.isIface t = true := by kernel_rfl) : SemK P (do eqGuard .neq t x y (.iface u v) .nilIface; binOp .neq t (.iface u v) .nilIface) w d ρ next :=
  ⟨_, w, by simp [eqGuard, run_neq_iface_nil w t hi], h⟩
end
end Go.Proofs.YtcphknmkjicpkaaDoor
