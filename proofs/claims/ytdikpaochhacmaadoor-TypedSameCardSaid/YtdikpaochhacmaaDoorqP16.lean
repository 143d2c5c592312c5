/- Texts of the proof, joined. -/
import Derived.Lib.ParseIntB
import Derived.Shelf.Strconv.ParseIntPublic10
import Derived.Stop.IfaceNil
import Derived.Stop.LaidErr
import Derived.LaidLaws
import Derived.LaidSub
import Derived.MakeChecks
import Derived.Test.YtdikpaochhacmaaDoorqPa
import Derived.Test.YtdikpaochhacmaaDoorqMc
namespace Go.Proofs.YtdikpaochhacmaaDoor
set_option linter.unusedSimpArgs false
set_option linter.unusedVariables false
def numM (s : List UInt8) : Int := if negM s = true then -(decV (trM s) : Int) else decV (trM s)
theorem decV_acc (t : List UInt8) : ∀ a : Nat, t.foldl (fun a b => a * 10 + (b.toNat - 48)) a = a * 10 ^ t.length + decV t := by
  induction t with
  | nil => intro a; simp [decV]
  | cons b t ih =>
    intro a
    have h1 := ih (a * 10 + (b.toNat - 48))
    have h2 := ih (0 * 10 + (b.toNat - 48))
    simp only [List.foldl_cons, decV] at h1 h2 ⊢
    rw [h1, h2, List.length_cons, Nat.pow_succ, Nat.add_mul, Nat.zero_mul, Nat.zero_add, Nat.mul_assoc, Nat.mul_comm 10 (10 ^ t.length)]
    omega
theorem decV_cons (b : UInt8) (t : List UInt8) : decV (b :: t) = (b.toNat - 48) * 10 ^ t.length + decV t := by
  have := decV_acc t (b.toNat - 48)
  simpa [decV] using this
theorem bod_cons {t : List UInt8} (h : bodM t = true) : ∃ b r, t = b :: r ∧ 49 ≤ b.toNat ∧ b.toNat ≤ 57 ∧ r.all dgB = true := by
  cases t with
  | nil => simp [bodM] at h
  | cons b r =>
    simp only [bodM, Bool.and_eq_true, decide_eq_true_eq, List.all_cons, dgB] at h
    obtain ⟨⟨_, h2⟩, h3, h4⟩ := h
    refine ⟨b, r, rfl, ?_, by omega, by simpa [dgB] using h4⟩
    have : b.toNat ≠ 48 := fun e => h2 (by simp; exact UInt8.toNat_inj.1 e)
    omega
theorem bod_all {t : List UInt8} (h : bodM t = true) : t.all dgB = true := by
  simp only [bodM, Bool.and_eq_true] at h; exact h.2
theorem decV_ge {t : List UInt8} (h : bodM t = true) : 10 ^ (t.length - 1) ≤ decV t := by
  obtain ⟨b, r, rfl, h1, _, _⟩ := bod_cons h
  rw [decV_cons, List.length_cons, Nat.add_sub_cancel]
  have : 1 * 10 ^ r.length ≤ (b.toNat - 48) * 10 ^ r.length := Nat.mul_le_mul_right _ (by omega)
  omega
theorem can_all {t : List UInt8} (h : canM t = true) : t.all dgB = true := by
  simp only [canM, Bool.or_eq_true, decide_eq_true_eq] at h
  rcases h with rfl | h
  · decide
  · exact bod_all h
theorem can_len {t : List UInt8} (h : canM t = true) : 1 ≤ t.length := by
  simp only [canM, Bool.or_eq_true, decide_eq_true_eq] at h
  rcases h with rfl | h
  · decide
  · obtain ⟨b, r, rfl, _⟩ := bod_cons h; simp
theorem form_can {s : List UInt8} (h : formM s = true) : canM (trM s) = true ∧ (negM s = true → 1 ≤ decV (trM s)) := by
  simp only [formM, Bool.or_eq_true, decide_eq_true_eq] at h
  rcases h with rfl | h
  · exact ⟨by decide, fun h => by simp [negM] at h⟩
  · refine ⟨by simp [canM, h], fun _ => ?_⟩
    have h1 := decV_ge h
    have h2 : 0 < 10 ^ ((trM s).length - 1) := Nat.pos_of_ne_zero (by simp)
    omega
theorem tr_neg {s : List UInt8} (h : negM s = true) : s = 45 :: trM s := by
  have h2 : s.take 1 = [45] := by simpa [negM] using h
  cases s with
  | nil => simp at h2
  | cons b r => simp at h2; subst h2; simp [trM, h]
theorem tr_pos {s : List UInt8} (h : negM s = false) : trM s = s := by simp [trM, h]
def pnM (s : List UInt8) : Int × Int := if formM s = false then (0, 17) else if -9223372036854775808 ≤ numM s ∧ numM s ≤ 9223372036854775807 then (numM s, 0) else (0, 18)
theorem pum (t : List UInt8) (h : t.all dgB = true) : ∀ acc : Nat, acc ≤ 18446744073709551615 → Lib.parseUintM 18446744073709551615 acc t = if acc * 10 ^ t.length + decV t ≤ 18446744073709551615 then .ok (acc * 10 ^ t.length + decV t) else .range := by
  induction t with
  | nil => intro acc ha; simp [Lib.parseUintM, decV, ha]
  | cons b t ih =>
    intro acc ha
    simp only [List.all_cons, Bool.and_eq_true] at h
    have hd : 48 ≤ b.toNat ∧ b.toNat ≤ 57 := by simpa [dgB] using h.1
    have e : acc * 10 ^ (b :: t).length + decV (b :: t) = (acc * 10 + (b.toNat - 48)) * 10 ^ t.length + decV t := by
      rw [decV_cons, List.length_cons, Nat.pow_succ, Nat.add_mul, Nat.mul_assoc, Nat.mul_comm 10 (10 ^ t.length)]; omega
    have hp : 1 ≤ 10 ^ t.length := Nat.pos_of_ne_zero (by simp)
    have hm : acc * 10 + (b.toNat - 48) ≤ (acc * 10 + (b.toNat - 48)) * 10 ^ t.length := by
      have := Nat.mul_le_mul_left (acc * 10 + (b.toNat - 48)) hp
      omega
    rw [e, Lib.parseUintM, if_pos hd]
    by_cases h1 : 1844674407370955162 ≤ acc
    · rw [if_pos h1, if_neg (by omega)]
    · rw [if_neg h1]
      by_cases h2 : 18446744073709551615 < acc * 10 + (b.toNat - 48)
      · rw [if_pos h2, if_neg (by omega)]
      · rw [if_neg h2]; exact ih h.2 _ (by omega)
theorem pint {s : List UInt8} (h : formM s = true) : Lib.parseIntB 64 s = if -9223372036854775808 ≤ numM s ∧ numM s ≤ 9223372036854775807 then .ok (numM s) else .range := by
  obtain ⟨ca, na⟩ := form_can h
  have hl := can_len ca
  have hu : Lib.parseUintB 64 (trM s) = if decV (trM s) ≤ 18446744073709551615 then .ok (decV (trM s)) else .range := by
    unfold Lib.parseUintB
    rw [if_neg (fun e => by rw [e] at hl; simp at hl)]
    have := pum (trM s) (can_all ca) 0 (by omega)
    simpa using this
  cases hn : negM s
  · have ht := tr_pos hn
    rw [ht] at hu ca hl
    have e : numM s = decV s := by unfold numM; rw [hn, ht]; simp
    rw [e]
    cases s with
    | nil => simp at hl
    | cons b r =>
      have hb := can_all ca
      simp only [List.all_cons, Bool.and_eq_true, dgB, decide_eq_true_eq] at hb
      have n45 : ¬ b.toNat = 45 := by omega
      have c1 : ¬ (b.toNat = 43 ∨ b.toNat = 45) := by omega
      simp only [Lib.parseIntB]
      rw [if_neg c1, hu]
      by_cases h1 : decV (b :: r) ≤ 18446744073709551615
      · rw [if_pos h1]
        simp only [n45, not_false_eq_true, true_and, false_and, if_false]
        by_cases h2 : 2 ^ (64 - 1) ≤ decV (b :: r)
        · rw [if_pos h2, if_neg (by omega)]
        · rw [if_neg h2, if_pos (by omega)]
      · rw [if_neg h1, if_neg (by omega)]
  · have ht := tr_neg hn
    have hna := na hn
    have e : numM s = -(decV (trM s) : Int) := by unfold numM; rw [hn]; simp
    rw [e]
    generalize trM s = t at *
    subst ht
    have n45 : (45 : UInt8).toNat = 45 := rfl
    simp only [Lib.parseIntB]
    rw [if_pos (show (45 : UInt8).toNat = 43 ∨ (45 : UInt8).toNat = 45 from Or.inr rfl), hu]
    by_cases h1 : decV t ≤ 18446744073709551615
    · rw [if_pos h1]
      simp only [n45, not_true_eq_false, false_and, if_false, true_and, if_true]
      by_cases h2 : 2 ^ (64 - 1) < decV t
      · rw [if_pos h2, if_neg (by omega)]
      · rw [if_neg h2, if_pos (by omega)]
    · rw [if_neg h1, if_neg (by omega)]
end Go.Proofs.YtdikpaochhacmaaDoor
namespace Go.Proofs.YtdikpaochhacmaaDoor
set_option linter.unusedSimpArgs false
set_option linter.unusedVariables false
open Go.RowKit Go.Shelf
def lays174_ren : Go.Shelf.Ren := ⟨fun | 174 => 51 | 247 => 61 | 245 => 62 | 287 => 66 | 279 => 67 | 280 => 68 | 281 => 69 | 282 => 70 | 321 => 71 | 322 => 72 | 316 => 73 | 171 => 75 | 205 => 74 | 243 => 76 | 246 => 77 | 283 => 78 | 284 => 79 | 285 => 80 | 286 => 81 | 129 => 83 | 317 => 82 | 318 => 84 | 319 => 85 | 320 => 86 | 337 => 87 | 338 => 88 | n => n, fun | 9 => 9 | 3 => 3 | 2 => 2 | 75 => 120 | 85 => 121 | 4 => 4 | 167 => 130 | 5 => 5 | 53 => 131 | 175 => 132 | 46 => 134 | 168 => 135 | 37 => 108 | 0 => 0 | 210 => 141 | 21 => 21 | 127 => 143 | 145 => 146 | 143 => 144 | 171 => 148 | 173 => 151 | 212 => 155 | 51 => 156 | 20 => 20 | 213 => 157 | 232 => 160 | 233 => 161 | 80 => 162 | n => n, fun | 15 => 0 | 16 => 1 | 17 => 2 | 18 => 3 | 19 => 4 | n => n⟩
theorem lays174 : LaysC.n174 Tryd.prog lays174_ren where
  mixed := by kernel_rfl
  f129 := Tryd.func83.trans (congrArg some (by kernel_rfl))
  f171 := Tryd.func75.trans (congrArg some (by kernel_rfl))
  f174 := Tryd.func51.trans (congrArg some (by kernel_rfl))
  f205 := Tryd.func74.trans (congrArg some (by kernel_rfl))
  f243 := Tryd.func76.trans (congrArg some (by kernel_rfl))
  f245 := Tryd.func62.trans (congrArg some (by kernel_rfl))
  f246 := Tryd.func77.trans (congrArg some (by kernel_rfl))
  f247 := Tryd.func61.trans (congrArg some (by kernel_rfl))
  f279 := Tryd.func67.trans (congrArg some (by kernel_rfl))
  f280 := Tryd.func68.trans (congrArg some (by kernel_rfl))
  f281 := Tryd.func69.trans (congrArg some (by kernel_rfl))
  f282 := Tryd.func70.trans (congrArg some (by kernel_rfl))
  f283 := Tryd.func78.trans (congrArg some (by kernel_rfl))
  f284 := Tryd.func79.trans (congrArg some (by kernel_rfl))
  f285 := Tryd.func80.trans (congrArg some (by kernel_rfl))
  f286 := Tryd.func81.trans (congrArg some (by kernel_rfl))
  f287 := Tryd.func66.trans (congrArg some (by kernel_rfl))
  f316 := Tryd.func73.trans (congrArg some (by kernel_rfl))
  f317 := Tryd.func82.trans (congrArg some (by kernel_rfl))
  f318 := Tryd.func84.trans (congrArg some (by kernel_rfl))
  f319 := Tryd.func85.trans (congrArg some (by kernel_rfl))
  f320 := Tryd.func86.trans (congrArg some (by kernel_rfl))
  f321 := Tryd.func71.trans (congrArg some (by kernel_rfl))
  f322 := Tryd.func72.trans (congrArg some (by kernel_rfl))
  f337 := Tryd.func87.trans (congrArg some (by kernel_rfl))
  f338 := Tryd.func88.trans (congrArg some (by kernel_rfl))
  t0 := Tryd.underlying0
  a0 := Tryd.isAgg0
  z0 := Tryd.sizeOf0
  v0 := Tryd.zeroValue0
  t2 := Tryd.underlying2
  a2 := Tryd.isAgg2
  z2 := Tryd.sizeOf2
  v2 := Tryd.zeroValue2
  t3 := Tryd.underlying3
  a3 := Tryd.isAgg3
  z3 := Tryd.sizeOf3
  v3 := Tryd.zeroValue3
  t4 := Tryd.underlying4
  a4 := Tryd.isAgg4
  z4 := Tryd.sizeOf4
  v4 := Tryd.zeroValue4
  t5 := Tryd.underlying5
  a5 := Tryd.isAgg5
  z5 := Tryd.sizeOf5
  v5 := Tryd.zeroValue5
  t9 := Tryd.underlying9
  a9 := Tryd.isAgg9
  z9 := Tryd.sizeOf9
  v9 := Tryd.zeroValue9
  t20 := Tryd.underlying20
  a20 := Tryd.isAgg20
  z20 := Tryd.sizeOf20
  v20 := Tryd.zeroValue20
  t21 := Tryd.underlying21
  a21 := Tryd.isAgg21
  z21 := Tryd.sizeOf21
  v21 := Tryd.zeroValue21
  t37 := Tryd.underlying108
  a37 := Tryd.isAgg108
  z37 := Tryd.sizeOf108
  v37 := Tryd.zeroValue108
  t46 := Tryd.underlying134
  a46 := Tryd.isAgg134
  z46 := Tryd.sizeOf134
  v46 := Tryd.zeroValue134
  t51 := Tryd.underlying156
  a51 := Tryd.isAgg156
  z51 := Tryd.sizeOf156
  v51 := Tryd.zeroValue156
  t53 := Tryd.underlying131
  a53 := Tryd.isAgg131
  z53 := Tryd.sizeOf131
  v53 := Tryd.zeroValue131
  t75 := Tryd.underlying120
  a75 := Tryd.isAgg120
  z75 := Tryd.sizeOf120
  v75 := Tryd.zeroValue120
  t85 := Tryd.underlying121
  a85 := Tryd.isAgg121
  z85 := Tryd.sizeOf121
  v85 := Tryd.zeroValue121
  t127 := Tryd.underlying143
  a127 := Tryd.isAgg143
  z127 := Tryd.sizeOf143
  v127 := Tryd.zeroValue143
  t143 := Tryd.underlying144
  a143 := Tryd.isAgg144
  z143 := Tryd.sizeOf144
  v143 := Tryd.zeroValue144
  t145 := Tryd.underlying146
  a145 := Tryd.isAgg146
  z145 := Tryd.sizeOf146
  v145 := Tryd.zeroValue146
  t167 := Tryd.underlying130
  a167 := Tryd.isAgg130
  z167 := Tryd.sizeOf130
  v167 := Tryd.zeroValue130
  t168 := Tryd.underlying135
  a168 := Tryd.isAgg135
  z168 := Tryd.sizeOf135
  v168 := Tryd.zeroValue135
  t171 := Tryd.underlying148
  a171 := Tryd.isAgg148
  z171 := Tryd.sizeOf148
  v171 := Tryd.zeroValue148
  t173 := Tryd.underlying151
  a173 := Tryd.isAgg151
  z173 := Tryd.sizeOf151
  v173 := Tryd.zeroValue151
  t175 := Tryd.underlying132
  a175 := Tryd.isAgg132
  z175 := Tryd.sizeOf132
  v175 := Tryd.zeroValue132
  t210 := Tryd.underlying141
  a210 := Tryd.isAgg141
  z210 := Tryd.sizeOf141
  v210 := Tryd.zeroValue141
  t212 := Tryd.underlying155
  a212 := Tryd.isAgg155
  z212 := Tryd.sizeOf155
  v212 := Tryd.zeroValue155
  t213 := Tryd.underlying157
  a213 := Tryd.isAgg157
  z213 := Tryd.sizeOf157
  t232 := Tryd.underlying160
  a232 := Tryd.isAgg160
  z232 := Tryd.sizeOf160
  v232 := Tryd.zeroValue160
  t233 := Tryd.underlying161
  a233 := Tryd.isAgg161
  z233 := Tryd.sizeOf161
  v233 := Tryd.zeroValue161
  g15 := by kernel_rfl
  g16 := by kernel_rfl
  g17 := by kernel_rfl
  g18 := by kernel_rfl
  g19 := by kernel_rfl
  t80 := Tryd.underlying162
  a80 := Tryd.isAgg162
  z80 := Tryd.sizeOf162
  v80 := Tryd.zeroValue162
  i0 := by kernel_rfl
  i2 := by kernel_rfl
  i3 := by kernel_rfl
  i4 := by kernel_rfl
  i5 := by kernel_rfl
  i9 := by kernel_rfl
  i20 := by kernel_rfl
  i21 := by kernel_rfl
  i37 := by kernel_rfl
  i46 := by kernel_rfl
  i51 := by kernel_rfl
  i53 := by kernel_rfl
  i75 := by kernel_rfl
  i80 := by kernel_rfl
  i85 := by kernel_rfl
  i127 := by kernel_rfl
  i143 := by kernel_rfl
  i145 := by kernel_rfl
  i167 := by kernel_rfl
  i168 := by kernel_rfl
  i171 := by kernel_rfl
  i173 := by kernel_rfl
  i175 := by kernel_rfl
  i210 := by kernel_rfl
  i212 := by kernel_rfl
  i232 := by kernel_rfl
  i233 := by kernel_rfl
  m15 := by kernel_rfl
  m16 := by kernel_rfl
  m17 := by kernel_rfl
  m18 := by kernel_rfl
  m19 := by kernel_rfl
  c0 := by kernel_rfl
  c2 := by kernel_rfl
  c3 := by kernel_rfl
  c4 := by kernel_rfl
  c5 := by kernel_rfl
  c9 := by kernel_rfl
  c20 := by kernel_rfl
  c21 := by kernel_rfl
  c37 := by kernel_rfl
  c46 := by kernel_rfl
  c51 := by kernel_rfl
  c53 := by kernel_rfl
  c75 := by kernel_rfl
  c80 := by kernel_rfl
  c85 := by kernel_rfl
  c127 := by kernel_rfl
  c143 := by kernel_rfl
  c145 := by kernel_rfl
  c167 := by kernel_rfl
  c168 := by kernel_rfl
  c171 := by kernel_rfl
  c173 := by kernel_rfl
  c175 := by kernel_rfl
  c210 := by kernel_rfl
  c212 := by kernel_rfl
  c213 := by kernel_rfl
  c232 := by kernel_rfl
  c233 := by kernel_rfl
def ErrV (w : World) : Prop := ∃ ev, w.cell? ⟨lays174_ren.g 16, 0, none⟩ = some ev ∧ (ev = .nilIface ∨ ∃ te pe, ev = .iface te pe)
theorem ErrV.ext {w w' : World} (h : ErrV w) (hx : Ext w w') : ErrV w' := by
  obtain ⟨ev, h1, h2⟩ := h
  exact ⟨ev, hx.cell h1, h2⟩
theorem bytes_ext (w : World) (t : TypeId) (s : ByteArray) : Ext w (Lib.bytesWorld w t s) := by
  have h1 : Ext w (w.drew.alloc (.cells (Lib.bytesCells w t s) t)) := ((Ext.refl w).drew).alloc _
  unfold Lib.bytesWorld
  generalize hw : w.drew.alloc (.cells (Lib.bytesCells w t s) t) = w1 at h1
  obtain ⟨a1, a2, a3, a4, a5⟩ := h1
  unfold World.freeze
  split
  · exact ⟨a1, a2, a3, a4, a5⟩
  · refine ⟨a1, a2, a3, by simpa using a4, fun k hk => ?_⟩
    have hne : ¬ w.heap.size = k := by omega
    simp [Array.getElem?_modify, hne, a5 k hk]
theorem pi_ok (s : Str) (w : World) (hl : s.length ≤ 1000000) (h : formM s = true) (hr : -9223372036854775808 ≤ numM s ∧ numM s ≤ 9223372036854775807) :
    Pu Tryd.prog 51 #[S s, I 10, I 64] w (.tuple #[I (numM s), .nilIface]) := by
  have h0 := pint h
  rw [if_pos hr] at h0
  refine Calls.mono (Go.Proofs.Any.strconv_ParseInt_10_at64_ok lays174 ⟨s.toArray⟩ (by simp [ByteArray.size]; omega) (numM s) (by simpa using h0) w) fun e w' ⟨he, hw⟩ => ⟨_, he, rfl, ?_⟩
  rcases hw with rfl | ⟨t, rfl⟩
  · exact Ext.refl _
  · exact bytes_ext w _ t
theorem pi_range (s : Str) (w : World) (hl : s.length ≤ 1000000) (h : formM s = true) (hr : ¬ (-9223372036854775808 ≤ numM s ∧ numM s ≤ 9223372036854775807)) (hv : ErrV w) :
    Ret Tryd.prog 51 #[S s, I 10, I 64] w fun v w' => ∃ n t p, v = .tuple #[I n, .iface t p] ∧ Ext w w' := by
  have h0 := pint h
  rw [if_neg hr] at h0
  obtain ⟨ev, h1, h2⟩ := hv
  refine Calls.mono (Go.Proofs.Any.strconv_ParseInt_10_at64_range lays174 ⟨s.toArray⟩ (by simp [ByteArray.size]; omega) (by simpa using h0) ev w h1 h2) fun e w' ⟨m, he, _, _, hw⟩ => ⟨_, he, _, _, _, rfl, hw⟩
section
variable {P : Program} {ρ : Fr} {w : World} {d : Option Nat} {next : Fr → World → Prop} {t : TypeId} {x : Operand} {c v : Value} {u : TypeId}
theorem znn (h : next (updO ρ d (.bool false)) w) (hi : P.isIface t = true := by kernel_rfl) : SemK P (do eqGuard .neq t x (.const c) .nilIface .nilIface; binOp .neq t .nilIface .nilIface) w d ρ next :=
  ⟨_, w, by simp [eqGuard, run_neq_nil_nil_at w t hi], h⟩
theorem zns {y : Operand} (h : next (updO ρ d (.bool true)) w) (hi : P.isIface t = true := by kernel_rfl) : SemK P (do eqGuard .neq t x y (.iface u v) .nilIface; binOp .neq t (.iface u v) .nilIface) w d ρ next :=
  ⟨_, w, by simp [eqGuard, run_neq_iface_nil w t hi], h⟩
end
end Go.Proofs.YtdikpaochhacmaaDoor
namespace Go.Proofs.YtdikpaochhacmaaDoor
set_option linter.unusedSimpArgs false
set_option linter.unusedVariables false
open Go.RowKit
theorem star_es : "*" ++ "errors.errorString" = "*errors.errorString" := by decide
theorem row_es (u : TypeId) (h : Tryd.prog.typeName? 3 u = some "*errors.errorString") : u = 144 :=
  typeName_ptr_named (nm := "errors.errorString") (by rw [star_es]; kernel_rfl) (by kernel_rfl) (by decide) u (by rw [star_es]; exact h)
theorem glob_er : Tryd.prog.globalNamed "strconv.ErrRange" = some (lays174_ren.g 16) := by kernel_rfl
theorem errv_of {W : World} {l : List (String × DataW Unit)} (hp : (l.all fun x => x.2.handleName?.isNone) = true)
    (hl : l.filter (fun x => x.1 == "strconv.ErrRange") = [("strconv.ErrRange", DataW.iface "*errors.errorString" (DataW.ptr (DataW.agg [DataW.lit (Lit.string [118, 97, 108, 117, 101, 32, 111, 117, 116, 32, 111, 102, 32, 114, 97, 110, 103, 101])])))])
    (h : laidMetH Tryd.prog l W) : ErrV W := by
  rw [MakeChecks.laidMetH_plain _ _ _ hp] at h
  have h2 := h.filter fun x => x.1 == "strconv.ErrRange"
  rw [hl] at h2
  obtain ⟨a, s, hv, _⟩ := laid_sentinel h2 glob_er (show (Tryd.prog.globals[lays174_ren.g 16]?).map (·.type) = some (lays174_ren.t 75) by kernel_rfl) lays174.t75 row_es Tryd.underlying144 Tryd.underlying146 rfl rfl Tryd.underlying9 (by kernel_rfl) (by kernel_rfl)
  exact ⟨_, by simpa using World.var?_cell glob_er hv 0, .inr ⟨_, _, rfl⟩⟩
end Go.Proofs.YtdikpaochhacmaaDoor
