/- Texts of the proof, joined. -/
import Derived.Lib.ItoaLen
import Derived.Test.YtdikpaochhacmaaGreatDoorsW16
namespace Go.Proofs.YtdikpaochhacmaaGreatDoor
set_option linter.unusedSimpArgs false
set_option linter.unusedVariables false
attribute [local irreducible] SemK UnitK StK AlcK BslK CallK CallV Instr.box Builtin.append_ Instr.makeSlice Instr.makeMap Instr.lookup Instr.mapUpdate Instr.sliceAt convert
open Go.RowKit
def c66 : MC := (.seq (.reg [qq 2 (.mv (ki 0)), qq 3 (.mv (ki 0))]) (.seq (.seq (.reg [qm 6 0, qq 7 (.call 96 [(.tmp 6)]), qq 8 (.un .not (.tmp 7))]) (.cond (.tmp 8) (.seq (.reg [qq 2 (.mv (ki 0)), qq 3 (.mv (ki 17))]) .ret) .skip)) (.seq (.reg [qm 10 0, qq 11 (.call 97 [(.tmp 10), (ki 10), (ki 64)]), qm 9 11, qq 12 (.ext 0 (.tmp 9)), qq 13 (.ext 1 (.tmp 9)), qm 4 12, qm 5 13]) (.seq (.seq (.reg [qm 14 5, qq 15 (.raw (.binOp .neq 168 (.tmp 14) (.const .nilIface) 168) 4)]) (.cond (.tmp 15) (.seq (.reg [qq 2 (.mv (ki 0)), qq 3 (.mv (ki 18))]) .ret) .skip)) (.seq (.reg [qm 16 4, qm 2 16, qq 3 (.mv (ki 0))]) .ret)))))
theorem k66 : conv Tryz.prog 17 (Tryz.f66.body.getD .skip) = c66 := by kernel_rfl
theorem in66 {a0 : Value} {w : World} {R : Value → World → Prop} (h : G Tryz.prog Tryz.f66 17 [.c c66] R (frL 0 [a0]) w) : Ret Tryz.prog 66 #[a0] w R := G.enter (args := [a0]) Tryz.func66 (c := Tryz.f66.body.getD .skip) (by kernel_rfl) (by kernel_rfl) (by simp) k66 h
theorem parse16_spec (s : Str) (w : World) (hl : s.length ≤ 1000000) (hv : ErrV w) : Pu Tryz.prog 66 #[S s] w (.tuple #[I (pnM s).1, I (pnM s).2]) := by
  refine in66 ?_
  have hS := Sep.start w
  unfold pnM
  by_cases hf : formM s = true
  · rw [if_neg (by rw [hf]; simp)]
    by_cases hr : -9223372036854775808 ≤ numM s ∧ numM s ≤ 9223372036854775807
    · rw [if_pos hr]
      (have fct := @hf; repeat' (first | ((with_reducible apply G.a); exact rfl) | refine G.reg fun K hK => ?_ | (with_reducible (refine hK _ _ ?_); clear hK K) | (have hk := hK; clear hk; simp (disch := first | exact dis | fail) only [push_cast, ↓reduceIte, Nat.reduceAdd, Nat.reduceLeDiff, Nat.reduceEqDiff, Nat.reduceLT, Int.reduceToNat, fct]) | (refine zcp 96 (form_spec s _ hl) ?_; intro wb hS) | (refine zcp 97 (pi_ok s _ hl hf hr) ?_; intro wb hS) | (refine znn ?_) | (refine G.cn ?_ ?_ <;> intro hc <;> first | (with_reducible exact False.elim hc) | (exfalso; omega) | skip))) <;> (try clear fct)
      (first | refine G.r1 ?_ | refine G.r2 ?_ | refine G.r3 ?_ | refine G.r0 ?_ | refine G.d0 ?_); (try simp (disch := first | exact dis | fail) only [push_cast, ↓reduceIte, Nat.reduceAdd, Nat.reduceLeDiff, Nat.reduceEqDiff, Nat.reduceLT, Int.reduceToNat, fct])
      (first | exact Sep.xt (by assumption) | exact ⟨rfl, Sep.xt (by assumption)⟩)
    · rw [if_neg hr]
      (have fct := @hf; repeat' (first | ((with_reducible apply G.a); exact rfl) | refine G.reg fun K hK => ?_ | (with_reducible (refine hK _ _ ?_); clear hK K) | (have hk := hK; clear hk; simp (disch := first | exact dis | fail) only [push_cast, ↓reduceIte, Nat.reduceAdd, Nat.reduceLeDiff, Nat.reduceEqDiff, Nat.reduceLT, Int.reduceToNat, fct]) | (refine zcp 96 (form_spec s _ hl) ?_; intro wb hS) | (refine zco 97 (pi_range s _ hl hf hr (hv.ext hS.x)) ?_; rintro vb wb ⟨n, t, p, rfl, hx⟩; have hS := Sep.ext hS hx) | (refine zns ?_) | (refine G.cn ?_ ?_ <;> intro hc <;> first | (with_reducible exact False.elim hc) | (exfalso; omega) | skip))) <;> (try clear fct)
      (first | refine G.r1 ?_ | refine G.r2 ?_ | refine G.r3 ?_ | refine G.r0 ?_ | refine G.d0 ?_); (try simp (disch := first | exact dis | fail) only [push_cast, ↓reduceIte, Nat.reduceAdd, Nat.reduceLeDiff, Nat.reduceEqDiff, Nat.reduceLT, Int.reduceToNat, fct])
      (first | exact Sep.xt (by assumption) | exact ⟨rfl, Sep.xt (by assumption)⟩)
  · have hff : formM s = false := by simpa using hf
    rw [if_pos hff]
    (have fct := @hff; repeat' (first | ((with_reducible apply G.a); exact rfl) | refine G.reg fun K hK => ?_ | (with_reducible (refine hK _ _ ?_); clear hK K) | (have hk := hK; clear hk; simp (disch := first | exact dis | fail) only [push_cast, ↓reduceIte, Nat.reduceAdd, Nat.reduceLeDiff, Nat.reduceEqDiff, Nat.reduceLT, Int.reduceToNat, fct]) | (refine zcp 96 (form_spec s _ hl) ?_; intro wb hS) | (refine G.cn ?_ ?_ <;> intro hc <;> first | (with_reducible exact False.elim hc) | (exfalso; omega) | skip))) <;> (try clear fct)
    (first | refine G.r1 ?_ | refine G.r2 ?_ | refine G.r3 ?_ | refine G.r0 ?_ | refine G.d0 ?_); (try simp (disch := first | exact dis | fail) only [push_cast, ↓reduceIte, Nat.reduceAdd, Nat.reduceLeDiff, Nat.reduceEqDiff, Nat.reduceLT, Int.reduceToNat, fct])
    (first | exact Sep.xt (by assumption) | exact ⟨rfl, Sep.xt (by assumption)⟩)
theorem itoa_s0 {n : Int} (h : 0 ≤ n) (h2 : n < 10) : Lib.itoa n = [UInt8.ofNat (48 + n).toNat] := by
  unfold Lib.itoa
  rw [if_neg (by omega), Lib.decDigits, dif_pos (by omega)]
  congr 2; omega
theorem itoa_b0 {n : Int} (h : 10 ≤ n) : Lib.itoa n = Lib.itoa (n / 10) ++ [UInt8.ofNat (48 + n % 10).toNat] := by
  unfold Lib.itoa
  rw [if_neg (by omega), if_neg (by omega), Lib.decDigits, dif_neg (by omega)]
  have e1 : n.toNat / 10 = (n / 10).toNat := by omega
  have e2 : 48 + n.toNat % 10 = (48 + n % 10).toNat := by omega
  rw [e1, e2]
theorem itoa_s1 {n : Int} (h : -10 < n) (h2 : n < 0) : Lib.itoa n = [45] ++ [UInt8.ofNat (48 - n).toNat] := by
  unfold Lib.itoa
  rw [if_pos h2, Lib.decDigits, dif_pos (by omega)]
  have e2 : 48 + n.natAbs = (48 - n).toNat := by omega
  rw [e2]; rfl
theorem itoa_b1 {n : Int} (h : n ≤ -10) : Lib.itoa n = Lib.itoa (-((-n) / 10)) ++ [UInt8.ofNat (48 - -((-n) % 10)).toNat] := by
  unfold Lib.itoa
  rw [if_pos (by omega), if_pos (by omega), Lib.decDigits, dif_neg (by omega)]
  have e1 : n.natAbs / 10 = (-((-n) / 10)).natAbs := by omega
  have e2 : 48 + n.natAbs % 10 = (48 - -((-n) % 10)).toNat := by omega
  rw [e1, e2]; rfl
theorem tdiv_neg {n : Int} (h : n < 0) : n.tdiv 10 = -((-n) / 10) := by
  have : n = -(-n) := by omega
  rw [this, Int.neg_tdiv, Int.neg_neg, Int.tdiv_eq_ediv_of_nonneg (by omega)]
theorem tmod_neg {n : Int} (h : n < 0) : n.tmod 10 = -((-n) % 10) := by
  have : n = -(-n) := by omega
  rw [this, Int.neg_tmod, Int.neg_neg, Int.tmod_eq_emod_of_nonneg (by omega)]
def c100 : MC := (.seq (.reg [qq 2 (.mv (.const (S [])))]) (.seq (.seq (.reg [qm 4 0, qq 5 (.bin .lss (.tmp 4) (ki 0))]) (.cond (.tmp 5) (.seq (.seq (.reg [qm 6 0, qq 7 (.bin .quo (.tmp 6) (ki 10)), qq 8 (.bin .eql (.tmp 7) (ki 0))]) (.cond (.tmp 8) (.seq (.reg [qm 9 0, qq 10 (.bin .rem (.tmp 9) (ki 10)), qq 11 (.bin .sub (ki 48) (.tmp 10)), qq 12 (.cvi .u8 (.tmp 11)), qq 13 (.bsl 5 [(.int .u8 0)] 1 [⟨0, ⟨1, (.tmp 12)⟩⟩]), qq 14 (.b2s (.tmp 13)), qq 15 (.bin .add (.const (S [45])) (.tmp 14)), qm 2 15]) .ret) .skip)) (.seq (.drg [qm 16 0, qq 17 (.bin .quo (.tmp 16) (ki 10)), qq 18 (.call 100 [(.tmp 17)]), qm 19 0, qq 20 (.bin .rem (.tmp 19) (ki 10)), qq 21 (.bin .sub (ki 48) (.tmp 20)), qq 22 (.cvi .u8 (.tmp 21)), qq 23 (.bsl 5 [(.int .u8 0)] 1 [⟨0, ⟨1, (.tmp 22)⟩⟩]), qq 24 (.b2s (.tmp 23)), qq 25 (.bin .add (.tmp 18) (.tmp 24)), qm 2 25] (.some (.br [qm 16 0, qq 17 (.bin .quo (.tmp 16) (ki 10)), qm 19 0, qq 20 (.bin .rem (.tmp 19) (ki 10)), qq 21 (.bin .sub (ki 48) (.tmp 20)), qq 22 (.cvi .u8 (.tmp 21))] (.leaf [qq 18 (.call 100 [(.tmp 17)]), qq 23 (.bsl 5 [(.int .u8 0)] 1 [⟨0, ⟨1, (.tmp 22)⟩⟩]), qq 24 (.b2s (.tmp 23)), qq 25 (.bin .add (.tmp 18) (.tmp 24)), qm 2 25]) (.br [qq 23 (.bsl 5 [(.int .u8 0)] 1 [⟨0, ⟨1, (.tmp 22)⟩⟩])] (.leaf [qq 18 (.call 100 [(.tmp 17)]), qq 24 (.b2s (.tmp 23)), qq 25 (.bin .add (.tmp 18) (.tmp 24)), qm 2 25]) (.leaf [qq 24 (.b2s (.tmp 23)), qq 18 (.call 100 [(.tmp 17)]), qq 25 (.bin .add (.tmp 18) (.tmp 24)), qm 2 25]))))) .ret)) .skip)) (.seq (.reg [qm 26 0, qq 27 (.bin .rem (.tmp 26) (ki 10)), qq 28 (.bin .add (ki 48) (.tmp 27)), qq 29 (.cvi .u8 (.tmp 28)), qq 30 (.bsl 5 [(.int .u8 0)] 1 [⟨0, ⟨1, (.tmp 29)⟩⟩]), qq 31 (.b2s (.tmp 30)), qm 3 31]) (.seq (.seq (.reg [qm 32 0, qq 33 (.bin .lss (.tmp 32) (ki 10))]) (.cond (.tmp 33) (.seq (.reg [qm 34 3, qm 2 34]) .ret) .skip)) (.seq (.reg [qm 35 0, qq 36 (.bin .quo (.tmp 35) (ki 10)), qq 37 (.call 100 [(.tmp 36)]), qm 38 3, qq 39 (.bin .add (.tmp 37) (.tmp 38)), qm 2 39]) .ret)))))
theorem k100 : conv Tryz.prog 40 (Tryz.f100.body.getD .skip) = c100 := by kernel_rfl
theorem in100 {a0 : Value} {w : World} {R : Value → World → Prop} (h : G Tryz.prog Tryz.f100 40 [.c c100] R (frL 0 [a0]) w) : Ret Tryz.prog 100 #[a0] w R := G.enter (args := [a0]) Tryz.func100 (c := Tryz.f100.body.getD .skip) (by kernel_rfl) (by kernel_rfl) (by simp) k100 h
theorem rprint_spec : ∀ (m : Nat) (n : Int) (w : World), n.natAbs < m → i64M n → Pu Tryz.prog 100 #[I n] w (S (Lib.itoa n)) := by
  intro m
  induction m with
  | zero => intro n w h; omega
  | succ m ih =>
    intro n w hm hn
    obtain ⟨n0, n1⟩ := hn
    refine in100 ?_
    have hS := Sep.start w
    by_cases hneg : n < 0
    · have hd := tdiv_neg hneg
      have hr := tmod_neg hneg
      by_cases hs : -10 < n
      · have hq : -((-n) / 10) = 0 := by omega
        have hr2 : -((-n) % 10) = n := by omega
        rw [itoa_s1 hs hneg]
        (have fct := (And.intro @hd (And.intro @hr (And.intro @hq @hr2))); repeat' (first | ((with_reducible apply G.a); exact rfl) | refine G.reg fun K hK => ?_ | (with_reducible (refine hK _ _ ?_); clear hK K) | (with_reducible (refine hK _ ?_); clear hK K; intro wd hxd; have hS := Sep.xx hxd) | ((first | have hk := hK | have hk := hK2); clear hk; simp (disch := first | exact dis | fail) only [push_cast, ↓reduceIte, Nat.reduceAdd, Nat.reduceLeDiff, Nat.reduceEqDiff, Nat.reduceLT, Int.reduceToNat, fct]) | (refine zbsl ?_; intro gb wb hS) | (refine G.drt mixed fun K hK wd hxd => ?_; have hS := Sep.xx hxd) | with_reducible refine OT_leaf ?_ | (with_reducible (refine hK2 _ ?_); clear hK2 K2; intro wd hxd; have hS := Sep.xx hxd) | with_reducible refine OT_br fun K2 hK2 => ?_ | (refine hK2 _ _ ?_ ?_ <;> clear hK2 K2) | refine G.drg mixed fun K hK => ?_ | (refine G.cn ?_ ?_ <;> intro hc <;> first | (with_reducible exact False.elim hc) | (exfalso; omega) | skip))) <;> (try clear fct)
        all_goals
          (first | refine G.r1 ?_ | refine G.r2 ?_ | refine G.r3 ?_ | refine G.r0 ?_ | refine G.d0 ?_); (try simp (disch := first | exact dis | fail) only [push_cast, ↓reduceIte, Nat.reduceAdd, Nat.reduceLeDiff, Nat.reduceEqDiff, Nat.reduceLT, Int.reduceToNat, fct])
          (first | exact Sep.xt (by assumption) | exact ⟨rfl, Sep.xt (by assumption)⟩)
      · have hih := fun w => ih (-((-n) / 10)) w (by omega) ⟨by omega, by omega⟩
        have hlen := Lib.itoa_length_le (-((-n) / 10)) (by omega) (by omega)
        rw [itoa_b1 (show n ≤ -10 by omega)]
        (have fct := (And.intro @hd @hr); repeat' (first | ((with_reducible apply G.a); exact rfl) | refine G.reg fun K hK => ?_ | (with_reducible (refine hK _ _ ?_); clear hK K) | (with_reducible (refine hK _ ?_); clear hK K; intro wd hxd; have hS := Sep.xx hxd) | ((first | have hk := hK | have hk := hK2); clear hk; simp (disch := first | exact dis | fail) only [push_cast, ↓reduceIte, Nat.reduceAdd, Nat.reduceLeDiff, Nat.reduceEqDiff, Nat.reduceLT, Int.reduceToNat, fct]) | (refine zbsl ?_; intro gb wb hS) | (refine zcp 100 (hih _) ?_; intro wb hS) | (refine G.drt mixed fun K hK wd hxd => ?_; have hS := Sep.xx hxd) | with_reducible refine OT_leaf ?_ | (with_reducible (refine hK2 _ ?_); clear hK2 K2; intro wd hxd; have hS := Sep.xx hxd) | with_reducible refine OT_br fun K2 hK2 => ?_ | (refine hK2 _ _ ?_ ?_ <;> clear hK2 K2) | refine G.drg mixed fun K hK => ?_ | (refine G.cn ?_ ?_ <;> intro hc <;> first | (with_reducible exact False.elim hc) | (exfalso; omega) | skip))) <;> (try clear fct)
        all_goals
          (first | refine G.r1 ?_ | refine G.r2 ?_ | refine G.r3 ?_ | refine G.r0 ?_ | refine G.d0 ?_); (try simp (disch := first | exact dis | fail) only [push_cast, ↓reduceIte, Nat.reduceAdd, Nat.reduceLeDiff, Nat.reduceEqDiff, Nat.reduceLT, Int.reduceToNat, fct])
          (first | exact Sep.xt (by assumption) | exact ⟨rfl, Sep.xt (by assumption)⟩)
    · by_cases hs : n < 10
      · rw [itoa_s0 (show 0 ≤ n by omega) hs]
        have hr2 : n % 10 = n := by omega
        (have fct := @hr2; repeat' (first | ((with_reducible apply G.a); exact rfl) | refine G.reg fun K hK => ?_ | (with_reducible (refine hK _ _ ?_); clear hK K) | (with_reducible (refine hK _ ?_); clear hK K; intro wd hxd; have hS := Sep.xx hxd) | ((first | have hk := hK | have hk := hK2); clear hk; simp (disch := first | exact dis | fail) only [push_cast, ↓reduceIte, Nat.reduceAdd, Nat.reduceLeDiff, Nat.reduceEqDiff, Nat.reduceLT, Int.reduceToNat, fct]) | (refine zbsl ?_; intro gb wb hS) | (refine G.drt mixed fun K hK wd hxd => ?_; have hS := Sep.xx hxd) | with_reducible refine OT_leaf ?_ | (with_reducible (refine hK2 _ ?_); clear hK2 K2; intro wd hxd; have hS := Sep.xx hxd) | with_reducible refine OT_br fun K2 hK2 => ?_ | (refine hK2 _ _ ?_ ?_ <;> clear hK2 K2) | refine G.drg mixed fun K hK => ?_ | (refine G.cn ?_ ?_ <;> intro hc <;> first | (with_reducible exact False.elim hc) | (exfalso; omega) | skip))) <;> (try clear fct)
        all_goals
          (first | refine G.r1 ?_ | refine G.r2 ?_ | refine G.r3 ?_ | refine G.r0 ?_ | refine G.d0 ?_); (try simp (disch := first | exact dis | fail) only [push_cast, ↓reduceIte, Nat.reduceAdd, Nat.reduceLeDiff, Nat.reduceEqDiff, Nat.reduceLT, Int.reduceToNat, fct])
          (first | exact Sep.xt (by assumption) | exact ⟨rfl, Sep.xt (by assumption)⟩)
      · have hih := fun w => ih (n / 10) w (by omega) ⟨by omega, by omega⟩
        have hlen := Lib.itoa_length_le (n / 10) (by omega) (by omega)
        rw [itoa_b0 (show 10 ≤ n by omega)]
        repeat' (first | ((with_reducible apply G.a); exact rfl) | refine G.reg fun K hK => ?_ | (with_reducible (refine hK _ _ ?_); clear hK K) | (with_reducible (refine hK _ ?_); clear hK K; intro wd hxd; have hS := Sep.xx hxd) | ((first | have hk := hK | have hk := hK2); clear hk; simp (disch := first | exact dis | fail) only [push_cast, ↓reduceIte, Nat.reduceAdd, Nat.reduceLeDiff, Nat.reduceEqDiff, Nat.reduceLT, Int.reduceToNat, fct]) | (refine zbsl ?_; intro gb wb hS) | (refine zcp 100 (hih _) ?_; intro wb hS) | (refine G.drt mixed fun K hK wd hxd => ?_; have hS := Sep.xx hxd) | with_reducible refine OT_leaf ?_ | (with_reducible (refine hK2 _ ?_); clear hK2 K2; intro wd hxd; have hS := Sep.xx hxd) | with_reducible refine OT_br fun K2 hK2 => ?_ | (refine hK2 _ _ ?_ ?_ <;> clear hK2 K2) | refine G.drg mixed fun K hK => ?_ | (refine G.cn ?_ ?_ <;> intro hc <;> first | (with_reducible exact False.elim hc) | (exfalso; omega) | skip))
        all_goals
          (first | refine G.r1 ?_ | refine G.r2 ?_ | refine G.r3 ?_ | refine G.r0 ?_ | refine G.d0 ?_); (try simp (disch := first | exact dis | fail) only [push_cast, ↓reduceIte, Nat.reduceAdd, Nat.reduceLeDiff, Nat.reduceEqDiff, Nat.reduceLT, Int.reduceToNat, fct])
          (first | exact Sep.xt (by assumption) | exact ⟨rfl, Sep.xt (by assumption)⟩)
end Go.Proofs.YtdikpaochhacmaaGreatDoor
namespace Go.Proofs.YtdikpaochhacmaaGreatDoor
set_option linter.unusedSimpArgs false
set_option linter.unusedVariables false
attribute [local irreducible] SemK UnitK StK AlcK BslK CallK CallV Instr.box Builtin.append_ Instr.makeSlice Instr.makeMap Instr.lookup Instr.mapUpdate Instr.sliceAt convert
open Go.RowKit
end Go.Proofs.YtdikpaochhacmaaGreatDoor
namespace Go.Proofs.YtdikpaochhacmaaGreatDoor
set_option linter.unusedSimpArgs false
set_option linter.unusedVariables false
attribute [local irreducible] SemK UnitK StK AlcK BslK CallK CallV Instr.box Builtin.append_ Instr.makeSlice Instr.makeMap Instr.lookup Instr.mapUpdate Instr.sliceAt convert
open Go.RowKit
end Go.Proofs.YtdikpaochhacmaaGreatDoor
namespace Go.Proofs.YtdikpaochhacmaaGreatDoor
set_option linter.unusedSimpArgs false
set_option linter.unusedVariables false
attribute [local irreducible] SemK UnitK StK AlcK BslK CallK CallV Instr.box Builtin.append_ Instr.makeSlice Instr.makeMap Instr.lookup Instr.mapUpdate Instr.sliceAt convert
open Go.RowKit
def deM (s : Str) (k : Int) (nl : Bool) : Val × Int :=
  if ¬ (1 ≤ k ∧ k ≤ 3) then (⟨0, [], 0, false⟩, 22) else if nl = true ∧ s = [] then (⟨0, [], 0, false⟩, 0)
  else if k = 2 then (if (pnM s).2 ≠ 0 then (⟨0, [], 0, false⟩, (pnM s).2) else (⟨2, [], (pnM s).1, false⟩, 0))
  else if k = 3 then (if s = [116, 114, 117, 101] then (⟨3, [], 0, true⟩, 0) else if s = [102, 97, 108, 115, 101] then (⟨3, [], 0, false⟩, 0) else (⟨0, [], 0, false⟩, 19))
  else if validM s = false then (⟨0, [], 0, false⟩, 14) else if nl = false ∨ ¬ s.take 1 = [92] then (⟨1, s, 0, false⟩, 0)
  else if s.drop 1 ≠ [] ∧ ¬ (s.drop 1).take 1 = [92] then (⟨0, [], 0, false⟩, 23) else (⟨1, s.drop 1, 0, false⟩, 0)
theorem de_fin {v : Val} {n : Int} {p : Val × Int} (h : p = (v, n)) : Value.tuple #[.agg #[I v.kind, S v.s, I v.n, .bool v.b], .int .i64 n] = .tuple #[.agg #[I p.1.kind, S p.1.s, I p.1.n, .bool p.1.b], I p.2] := by rw [h]
def c38 : MC := (.seq (.reg [qq 3 (.raw (.box 76 (.tmp 1)) 0), qq 4 (.alc 78 [(.int .i64 0), (S []), (.int .i64 0), (.bool false)]), qq 5 (.mv (ki 0))]) (.seq (.seq (.reg [qq 10 (.fad 1 (.tmp 3)), qq 11 (.ld none (.tmp 10)), qq 12 (.call 65 [(.tmp 11)]), qq 13 (.un .not (.tmp 12))]) (.cond (.tmp 13) (.seq (.reg [qq 14 (.bld [(.int .i64 0), (S []), (.int .i64 0), (.bool false)] []), qn (.st 4 (.tmp 4) (.tmp 14)), qq 5 (.mv (ki 22))]) .ret) .skip)) (.seq (.seq (.reg [qq 15 (.fad 2 (.tmp 3)), qq 16 (.ld none (.tmp 15)), qm 17 16, qmt 17 18 0, qt 17 19 (.bin .eql (.tmp 18) (.const (S []))), qq 20 (.pick (.tmp 17) (.tmp 19) (kb false))]) (.cond (.tmp 20) (.seq (.reg [qq 21 (.bld [(.int .i64 0), (S []), (.int .i64 0), (.bool false)] []), qn (.st 4 (.tmp 4) (.tmp 21)), qq 5 (.mv (ki 0))]) .ret) .skip)) (.seq (.seq (.reg [qq 22 (.fad 1 (.tmp 3)), qq 23 (.ld none (.tmp 22))]) (.blk 0 (.seq (.reg [qq 25 (.bin .eql (.tmp 23) (ki 2)), qm 24 25]) (.cond (.tmp 24) (.seq (.reg [qm 27 0, qq 28 (.call 66 [(.tmp 27)]), qm 26 28, qq 29 (.ext 0 (.tmp 26)), qq 30 (.ext 1 (.tmp 26)), qm 6 29, qm 7 30]) (.seq (.seq (.reg [qm 31 7, qq 32 (.bin .neq (.tmp 31) (ki 0))]) (.cond (.tmp 32) (.seq (.reg [qq 33 (.bld [(.int .i64 0), (S []), (.int .i64 0), (.bool false)] []), qm 34 7, qn (.st 4 (.tmp 4) (.tmp 33)), qm 5 34]) .ret) .skip)) (.seq (.reg [qm 35 6, qq 36 (.call 67 [(.tmp 35)]), qn (.st 4 (.tmp 4) (.tmp 36)), qq 5 (.mv (ki 0))]) .ret))) (.seq (.reg [qq 38 (.bin .eql (.tmp 23) (ki 3)), qm 37 38]) (.cond (.tmp 37) (.seq (.seq (.reg [qm 39 0, qq 40 (.bin .neq (.tmp 39) (.const (S [116, 114, 117, 101]))), qm 41 40, qmt 41 42 0, qt 41 43 (.bin .neq (.tmp 42) (.const (S [102, 97, 108, 115, 101]))), qq 44 (.pick (.tmp 41) (.tmp 43) (kb false))]) (.cond (.tmp 44) (.seq (.reg [qq 45 (.bld [(.int .i64 0), (S []), (.int .i64 0), (.bool false)] []), qn (.st 4 (.tmp 4) (.tmp 45)), qq 5 (.mv (ki 19))]) .ret) .skip)) (.seq (.reg [qm 46 0, qq 47 (.bin .eql (.tmp 46) (.const (S [116, 114, 117, 101]))), qq 48 (.call 68 [(.tmp 47)]), qn (.st 4 (.tmp 4) (.tmp 48)), qq 5 (.mv (ki 0))]) .ret)) .skip)))))) (.seq (.seq (.reg [qm 49 0, qq 50 (.call 52 [(.tmp 49)]), qq 51 (.un .not (.tmp 50))]) (.cond (.tmp 51) (.seq (.reg [qq 52 (.bld [(.int .i64 0), (S []), (.int .i64 0), (.bool false)] []), qn (.st 4 (.tmp 4) (.tmp 52)), qq 5 (.mv (ki 14))]) .ret) .skip)) (.seq (.reg [qm 54 0, qq 55 (.call 69 [(.tmp 54), (.const (S [92]))]), qm 53 55, qq 56 (.ext 0 (.tmp 53)), qq 57 (.ext 1 (.tmp 53)), qm 8 56, qm 9 57]) (.seq (.seq (.reg [qq 58 (.fad 2 (.tmp 3)), qq 59 (.ld none (.tmp 58)), qq 60 (.un .not (.tmp 59)), qm 61 60, qmf 61 62 9, qf 61 63 (.un .not (.tmp 62)), qq 64 (.pick (.tmp 61) (kb true) (.tmp 63))]) (.cond (.tmp 64) (.seq (.reg [qm 65 0, qq 66 (.call 70 [(.tmp 65)]), qn (.st 4 (.tmp 4) (.tmp 66)), qq 5 (.mv (ki 0))]) .ret) .skip)) (.seq (.seq (.reg [qm 67 8, qq 68 (.bin .neq (.tmp 67) (.const (S []))), qm 69 68, qmt 69 70 8, qt 69 71 (.call 71 [(.tmp 70), (.const (S [92]))]), qt 69 72 (.un .not (.tmp 71)), qq 73 (.pick (.tmp 69) (.tmp 72) (kb false))]) (.cond (.tmp 73) (.seq (.reg [qq 74 (.bld [(.int .i64 0), (S []), (.int .i64 0), (.bool false)] []), qn (.st 4 (.tmp 4) (.tmp 74)), qq 5 (.mv (ki 23))]) .ret) .skip)) (.seq (.reg [qm 75 8, qq 76 (.call 70 [(.tmp 75)]), qn (.st 4 (.tmp 4) (.tmp 76)), qq 5 (.mv (ki 0))]) .ret)))))))))
theorem k38 : conv Tryz.prog 77 (Tryz.f38.body.getD .skip) = c38 := by kernel_rfl
theorem in38 {a0 a1 : Value} {w : World} {R : Value → World → Prop} (h : G Tryz.prog Tryz.f38 77 [.c c38] R (frL 0 [a0, a1]) w) : Ret Tryz.prog 38 #[a0, a1] w R := G.enter (args := [a0, a1]) Tryz.func38 (c := Tryz.f38.body.getD .skip) (by kernel_rfl) (by kernel_rfl) (by simp) k38 h
theorem dec_spec (s : Str) (nm : Str) (k : Int) (nl : Bool) (w : World) (hl : s.length ≤ 1000000) (hv : ErrV w) : Pu Tryz.prog 38 #[S s, .agg #[S nm, I k, .bool nl]] w (.tuple #[(.agg #[I (deM s k nl).1.kind, S (deM s k nl).1.s, I (deM s k nl).1.n, .bool (deM s k nl).1.b]), I (deM s k nl).2]) := by
  refine in38 ?_
  have hS := Sep.start w
  by_cases hk : 1 ≤ k ∧ k ≤ 3
  · repeat' (first | ((with_reducible apply G.a); exact rfl) | refine G.reg fun K hK => ?_ | (with_reducible (refine hK _ _ ?_); clear hK K) | (with_reducible (refine hK _ ?_); clear hK K; intro wd hxd; have hS := Sep.ext (by assumption) hxd) | ((first | have hk := hK | have hk := hK2); clear hk; simp (disch := (first | exact dis | fail)) only [push_cast, ↓reduceIte, Nat.reduceAdd, Nat.reduceLeDiff, Nat.reduceEqDiff, Nat.reduceLT, Int.reduceToNat, decide_eq_true hk]) | ((first | refine brO_mk ?_ ?_ | refine brQ_mk ?_ ?_) <;> intro hb <;> (try simp only [Bool.not_eq_true', Bool.not_eq_false'] at hb) <;> have hc := hb <;> (try simp only [hcs, reduceCtorEq] at hc) <;> (try (exfalso; omega)) <;> simp only [hb] <;> clear hb) | (refine zalc ?_; intro gb wb hS) | (refine zbsl ?_; intro gb wb hS) | ((with_reducible (show SemK _ (Instr.box _ _) _ _ _ _)); refine zbox ?_; intro gb wb hS) | ((with_reducible (show StK _ _ (Value.pointer _) _ _ _ _ _)); refine zst ?_; intro wb hS; (try simp only [sets] at hS)) | (refine zcv ?_) | (refine zcp 65 (known_spec k _) ?_; intro wb hS) | (refine zcp 66 (parse16_spec s _ hl (hv.ext hS.x)) ?_; intro wb hS) | (refine zcp 67 (int17_spec _ _) ?_; intro wb hS) | (refine zcp 68 (bool17_spec _ _) ?_; intro wb hS) | (refine zcp 70 (text17_spec _ _) ?_; intro wb hS) | (refine zcp 52 (valid_spec _ _ (by omega)) ?_; intro wb hS) | (refine zcp 69 (cpre_spec s 92 _ (by omega)) ?_; intro wb hS) | (refine zcp 71 (hpre_spec _ 92 _ (by (try simp only [apply_ite List.length]); (try split) <;> simp <;> omega)) ?_; intro wb hS) | (refine G.drt mixed fun K hK wd hxd => ?_; have hS := Sep.ext (by assumption) hxd) | with_reducible refine OT_leaf ?_ | (with_reducible refine OT_tail fun K2 hK2 => ?_) | (with_reducible (refine hK2 _ ?_); clear hK2 K2; intro wd hxd; have hS := Sep.ext (by assumption) hxd) | with_reducible refine OT_br fun K2 hK2 => ?_ | (refine hK2 _ _ ?_ ?_ <;> clear hK2 K2) | refine G.drg mixed fun K hK => ?_ | (refine G.cond (by simp only [push_cast, ↓reduceIte, Nat.reduceAdd, Nat.reduceLeDiff, Nat.reduceEqDiff, Nat.reduceLT, Int.reduceToNat, decide_eq_true hk]; rfl) ?_ ?_ <;> intro hc <;> (try simp only [hcs, reduceCtorEq] at hc) <;> (try (exfalso; omega))))
    all_goals
      (first | refine G.r1 ?_ | refine G.r2 ?_ | refine G.r3 ?_ | refine G.r0 ?_ | refine G.d0 ?_); (try simp (disch := first | exact dis | fail) only [push_cast, ↓reduceIte, Nat.reduceAdd, Nat.reduceLeDiff, Nat.reduceEqDiff, Nat.reduceLT, Int.reduceToNat, fct])
      refine ⟨?_, Sep.xt (by assumption)⟩
      clear hS
      first
        | refine de_fin (v := ⟨0, [], 0, false⟩) ?_
        | refine de_fin (v := ⟨2, [], (pnM s).1, false⟩) ?_
        | refine de_fin (v := ⟨3, [], 0, s == [116, 114, 117, 101]⟩) ?_
        | refine de_fin (v := ⟨1, s, 0, false⟩) ?_
        | refine de_fin (v := ⟨1, if s.take 1 = [92] then s.drop 1 else s, 0, false⟩) ?_
      unfold deM
      first | (simp_all; done) | grind
  · repeat' (first | ((with_reducible apply G.a); exact rfl) | refine G.reg fun K hK => ?_ | (with_reducible (refine hK _ _ ?_); clear hK K) | (with_reducible (refine hK _ ?_); clear hK K; intro wd hxd; have hS := Sep.ext (by assumption) hxd) | ((first | have hk := hK | have hk := hK2); clear hk; simp (disch := (first | exact dis | fail)) only [push_cast, ↓reduceIte, Nat.reduceAdd, Nat.reduceLeDiff, Nat.reduceEqDiff, Nat.reduceLT, Int.reduceToNat, decide_eq_false hk]) | ((first | refine brO_mk ?_ ?_ | refine brQ_mk ?_ ?_) <;> intro hb <;> (try simp only [Bool.not_eq_true', Bool.not_eq_false'] at hb) <;> have hc := hb <;> (try simp only [hcs, reduceCtorEq] at hc) <;> (try (exfalso; omega)) <;> simp only [hb] <;> clear hb) | (refine zalc ?_; intro gb wb hS) | (refine zbsl ?_; intro gb wb hS) | ((with_reducible (show SemK _ (Instr.box _ _) _ _ _ _)); refine zbox ?_; intro gb wb hS) | ((with_reducible (show StK _ _ (Value.pointer _) _ _ _ _ _)); refine zst ?_; intro wb hS; (try simp only [sets] at hS)) | (refine zcv ?_) | (refine zcp 65 (known_spec k _) ?_; intro wb hS) | (refine G.drt mixed fun K hK wd hxd => ?_; have hS := Sep.ext (by assumption) hxd) | with_reducible refine OT_leaf ?_ | (with_reducible refine OT_tail fun K2 hK2 => ?_) | (with_reducible (refine hK2 _ ?_); clear hK2 K2; intro wd hxd; have hS := Sep.ext (by assumption) hxd) | with_reducible refine OT_br fun K2 hK2 => ?_ | (refine hK2 _ _ ?_ ?_ <;> clear hK2 K2) | refine G.drg mixed fun K hK => ?_ | (refine G.cond (by simp only [push_cast, ↓reduceIte, Nat.reduceAdd, Nat.reduceLeDiff, Nat.reduceEqDiff, Nat.reduceLT, Int.reduceToNat, decide_eq_false hk]; rfl) ?_ ?_ <;> intro hc <;> (try simp only [hcs, reduceCtorEq] at hc) <;> (try (exfalso; omega))))
    (first | refine G.r1 ?_ | refine G.r2 ?_ | refine G.r3 ?_ | refine G.r0 ?_ | refine G.d0 ?_); (try simp (disch := first | exact dis | fail) only [push_cast, ↓reduceIte, Nat.reduceAdd, Nat.reduceLeDiff, Nat.reduceEqDiff, Nat.reduceLT, Int.reduceToNat, fct])
    refine ⟨de_fin (v := ⟨0, [], 0, false⟩) ?_, Sep.xt (by assumption)⟩
    unfold deM; rw [if_pos hk]
end Go.Proofs.YtdikpaochhacmaaGreatDoor
