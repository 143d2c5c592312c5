/- Texts of the proof, joined. -/
import Derived.Test.YtcglgnbeliljoaawRf
namespace Go.Proofs.Ytcglgnbeliljoaa
set_option linter.unusedSimpArgs false
set_option linter.unusedVariables false
attribute [local irreducible] SemK UnitK StK AlcK BslK CallK CallV Instr.box Builtin.append_ Instr.makeSlice Instr.makeMap Instr.lookup Instr.mapUpdate Instr.sliceAt convert
open Go.RowKit
theorem G.d0 {P : Program} {fn : Func} {n : Nat} {R : Value → World → Prop} {ρ : Fr} {w : World} (h : R (.tuple #[]) w) (hf : fn.results = #[] := by rfl) : G P fn n [] R ρ w := G.done0 hf h
def wayK (i : Nat) : Nat → List Int
  | 0 => []
  | k + 1 => if (i / 2 ^ k) % 2 = 1 then wayK i k ++ [(k : Int) + 1] else wayK i k
def wayN (n i : Nat) : List Int := wayK i (n - 1)
theorem wayK_len (i : Nat) : ∀ k, (wayK i k).length ≤ k
  | 0 => Nat.le_refl _
  | k + 1 => by
    have := wayK_len i k
    unfold wayK
    split
    · simp; omega
    · omega
def cntM (n : Int) : Nat := if n < 0 ∨ 16 < n then 0 else 2 ^ (n.toNat - 1)
def bad7M (n : Int) : Int := if n < 0 then 22 else if 16 < n then 26 else 0
theorem pow16 {k : Nat} (h : k ≤ 15) : 1 ≤ 2 ^ k ∧ 2 ^ k ≤ 32768 := ⟨Nat.one_le_two_pow, by
  have := Nat.pow_le_pow_right (n := 2) (by decide) h
  simpa using this⟩
theorem cntM_le (n : Int) : cntM n ≤ 32768 := by
  unfold cntM
  split
  · omega
  · exact (pow16 (by omega)).2
section
variable {w : World} {d : Option Nat} {ρ : Fr} {next : Fr → World → Prop}
theorem zshl {t : TypeId} {x y : Operand} {b : Int} (k : Nat) (h : next (updO ρ d (I ((2 ^ k : Nat) : Int))) w) (hb : b = k := by omega) (hk : k ≤ 15 := by omega) : SemK Try.prog (do eqGuard .shl t x y (I 1) (I b); binOp .shl t (I 1) (I b)) w d ρ next := by
  subst hb
  have hp := pow16 hk
  have h2 : eqGuard .shl t x y (I 1) (I k) = pure () := rfl
  have h3 : binOp .shl t (I 1) (I (k : Int)) = pure (I ((2 ^ k : Nat) : Int)) := by
    show Op.shift .shl .i64 1 .i64 (k : Int) = _
    unfold Op.shift
    rw [if_neg (by omega)]
    have e : min (k : Int).toNat IntKind.i64.bits = k := by show min (k : Int).toNat 64 = k; omega
    rw [e]
    have e2 : (1 : Int) * 2 ^ k = ((2 ^ k : Nat) : Int) := by simp
    show pure (Value.int .i64 (IntKind.i64.wrap (1 * 2 ^ k))) = _
    rw [e2, IntWalk.i64_in _ (by omega)]
  rw [h2, h3]
  exact semK_val (s := do pure (); pure (I ((2 ^ k : Nat) : Int))) (w' := w) rfl ▸ h
theorem zshr0 {t : TypeId} {x y : Operand} {a b : Int} (m k : Nat) (h : next (updO ρ d (I ((m / 2 ^ k : Nat) : Int))) w) (ha : a = m := by omega) (hb : b = k := by omega) (hk : k ≤ 60 := by omega) : SemK Try.prog (do eqGuard .shr t x y (I a) (I b); binOp .shr t (I a) (I b)) w d ρ next := by
  subst ha hb
  have h2 : eqGuard .shr t x y (I m) (I k) = pure () := rfl
  have h3 : binOp .shr t (I (m : Int)) (I (k : Int)) = pure (I ((m / 2 ^ k : Nat) : Int)) := by
    show Op.shift .shr .i64 m .i64 (k : Int) = _
    unfold Op.shift
    rw [if_neg (by omega)]
    have e : min (k : Int).toNat IntKind.i64.bits = k := by show min (k : Int).toNat 64 = k; omega
    rw [e]
    show pure (Value.int .i64 ((m : Int).fdiv (2 ^ k))) = _
    rw [Int.fdiv_eq_ediv_of_nonneg _ (by exact_mod_cast Nat.zero_le (2 ^ k))]
    simp
  rw [h2, h3]
  exact semK_val (s := do pure (); pure (I ((m / 2 ^ k : Nat) : Int))) (w' := w) rfl ▸ h
theorem zand0 {t : TypeId} {x y : Operand} {a : Int} (q : Nat) (h : next (updO ρ d (I ((q % 2 : Nat) : Int))) w) (ha : a = q := by omega) (hq : q < 1000000000 := by omega) : SemK Try.prog (do eqGuard .and t x y (I a) (I 1); binOp .and t (I a) (I 1)) w d ρ next := by
  subst ha
  have h2 : eqGuard .and t x y (I q) (I 1) = pure () := rfl
  have h3 : binOp .and t (I (q : Int)) (I 1) = pure (I ((q % 2 : Nat) : Int)) := by
    show Op.intBits .and .i64 q 1 = _
    unfold Op.intBits
    show pure (Value.int .i64 (IntKind.i64.wrap ((BitVec.ofInt 64 (q : Int) &&& BitVec.ofInt 64 1).toNat : Int))) = _
    have e : (BitVec.ofInt 64 (q : Int) &&& BitVec.ofInt 64 1).toNat = q % 2 := by
      rw [BitVec.toNat_and, BitVec.ofInt_natCast, BitVec.toNat_ofNat, show (BitVec.ofInt 64 1).toNat = 1 from rfl, Nat.and_one_is_mod]
      omega
    rw [e, IntWalk.i64_in _ (by omega)]
  rw [h2, h3]
  exact semK_val (s := do pure (); pure (I ((q % 2 : Nat) : Int))) (w' := w) rfl ▸ h
theorem zshr {t : TypeId} {x y : Operand} {a b : Int} (m k : Nat) {q : Nat} (hq : m / 2 ^ k = q) (h : next (updO ρ d (I (q : Int))) w) (ha : a = m := by omega) (hb : b = k := by omega) (hk : k ≤ 60 := by omega) : SemK Try.prog (do eqGuard .shr t x y (I a) (I b); binOp .shr t (I a) (I b)) w d ρ next := zshr0 m k (hq ▸ h) ha hb hk
theorem zand1 {t : TypeId} {x y : Operand} {a : Int} (q : Nat) (r : Int) (h : next (updO ρ d (I r)) w) (hr : ((q % 2 : Nat) : Int) = r := by omega) (ha : a = q := by omega) (hq : q < 1000000000 := by omega) : SemK Try.prog (do eqGuard .and t x y (I a) (I 1); binOp .and t (I a) (I 1)) w d ρ next := zand0 q (hr ▸ h) ha hq
end
def c6 : MC := (.seq (.reg [qq 2 (.mv (ki 0)), qq 3 (.mv (ki 0))]) (.seq (.blk 0 (.seq (.reg [qm 5 0, qq 6 (.bin .lss (.tmp 5) (ki 0)), qm 4 6]) (.cond (.tmp 4) (.seq (.reg [qq 2 (.mv (ki 0)), qq 3 (.mv (ki 22))]) .ret) (.seq (.reg [qm 8 0, qq 9 (.bin .gtr (.tmp 8) (ki 16)), qm 7 9]) (.cond (.tmp 7) (.seq (.reg [qq 2 (.mv (ki 0)), qq 3 (.mv (ki 26))]) .ret) (.seq (.reg [qm 11 0, qq 12 (.bin .eql (.tmp 11) (ki 0)), qm 10 12]) (.cond (.tmp 10) (.seq (.reg [qq 2 (.mv (ki 1)), qq 3 (.mv (ki 0))]) .ret) .skip))))))) (.seq (.reg [qm 13 0, qq 14 (.bin .sub (.tmp 13) (ki 1)), qq 15 (.raw (.binOp .shl 3 (ki 1) (.tmp 14) 3) 3), qm 2 15, qq 3 (.mv (ki 0))]) .ret)))
theorem k6 : conv Try.prog 16 (Try.f6.body.getD .skip) = c6 := by kernel_rfl
theorem in6 {a0 : Value} {w : World} {R : Value → World → Prop} (h : G Try.prog Try.f6 16 [.c c6] R (frL 0 [a0]) w) : Ret Try.prog 6 #[a0] w R := G.enter (args := [a0]) Try.func6 (c := Try.f6.body.getD .skip) (by kernel_rfl) (by kernel_rfl) (by simp) k6 h
theorem count_spec (n : Int) (w : World) (hn : -9223372036854775808 ≤ n ∧ n ≤ 9223372036854775807) : Pu Try.prog 6 #[I n] w (.tuple #[I (cntM n), I (bad7M n)]) := by
  refine in6 ?_
  have hS := Sep.start w
  unfold cntM bad7M
  by_cases h0 : n < 0
  · repeat' (first | ((with_reducible apply G.a); exact rfl) | refine G.reg fun K hK => ?_ | (with_reducible (refine hK _ _ ?_); clear hK K) | (have hk := hK; clear hk; simp (disch := first | exact dis | fail) only [push_cast, ↓reduceIte, Nat.reduceAdd, Nat.reduceLeDiff, Nat.reduceEqDiff, Nat.reduceLT, Int.reduceToNat, fct]) | (refine G.cn ?_ ?_ <;> intro hc <;> first | (with_reducible exact False.elim hc) | (exfalso; omega) | skip))
    all_goals
      (first | refine G.r1 ?_ | refine G.r2 ?_ | refine G.r3 ?_ | refine G.r0 ?_ | refine G.d0 ?_); (try simp (disch := first | exact dis | fail) only [push_cast, ↓reduceIte, Nat.reduceAdd, Nat.reduceLeDiff, Nat.reduceEqDiff, Nat.reduceLT, Int.reduceToNat, fct])
      exact ⟨by simp [h0], Sep.xt (by assumption)⟩
  · by_cases h16 : 16 < n
    · repeat' (first | ((with_reducible apply G.a); exact rfl) | refine G.reg fun K hK => ?_ | (with_reducible (refine hK _ _ ?_); clear hK K) | (have hk := hK; clear hk; simp (disch := first | exact dis | fail) only [push_cast, ↓reduceIte, Nat.reduceAdd, Nat.reduceLeDiff, Nat.reduceEqDiff, Nat.reduceLT, Int.reduceToNat, fct]) | (refine G.cn ?_ ?_ <;> intro hc <;> first | (with_reducible exact False.elim hc) | (exfalso; omega) | skip))
      all_goals
        (first | refine G.r1 ?_ | refine G.r2 ?_ | refine G.r3 ?_ | refine G.r0 ?_ | refine G.d0 ?_); (try simp (disch := first | exact dis | fail) only [push_cast, ↓reduceIte, Nat.reduceAdd, Nat.reduceLeDiff, Nat.reduceEqDiff, Nat.reduceLT, Int.reduceToNat, fct])
        exact ⟨by simp [h0, h16], Sep.xt (by assumption)⟩
    · by_cases hz : n = 0
      · repeat' (first | ((with_reducible apply G.a); exact rfl) | refine G.reg fun K hK => ?_ | (with_reducible (refine hK _ _ ?_); clear hK K) | (have hk := hK; clear hk; simp (disch := first | exact dis | fail) only [push_cast, ↓reduceIte, Nat.reduceAdd, Nat.reduceLeDiff, Nat.reduceEqDiff, Nat.reduceLT, Int.reduceToNat, fct]) | (refine G.cn ?_ ?_ <;> intro hc <;> first | (with_reducible exact False.elim hc) | (exfalso; omega) | skip))
        all_goals
          (first | refine G.r1 ?_ | refine G.r2 ?_ | refine G.r3 ?_ | refine G.r0 ?_ | refine G.d0 ?_); (try simp (disch := first | exact dis | fail) only [push_cast, ↓reduceIte, Nat.reduceAdd, Nat.reduceLeDiff, Nat.reduceEqDiff, Nat.reduceLT, Int.reduceToNat, fct])
          subst hz
          exact ⟨rfl, Sep.xt (by assumption)⟩
      · repeat' (first | ((with_reducible apply G.a); exact rfl) | refine G.reg fun K hK => ?_ | (with_reducible (refine hK _ _ ?_); clear hK K) | (have hk := hK; clear hk; simp (disch := first | exact dis | fail) only [push_cast, ↓reduceIte, Nat.reduceAdd, Nat.reduceLeDiff, Nat.reduceEqDiff, Nat.reduceLT, Int.reduceToNat, fct]) | (refine zshl (n.toNat - 1) ?_) | (refine G.cn ?_ ?_ <;> intro hc <;> first | (with_reducible exact False.elim hc) | (exfalso; omega) | skip))
        all_goals
          (first | refine G.r1 ?_ | refine G.r2 ?_ | refine G.r3 ?_ | refine G.r0 ?_ | refine G.d0 ?_); (try simp (disch := first | exact dis | fail) only [push_cast, ↓reduceIte, Nat.reduceAdd, Nat.reduceLeDiff, Nat.reduceEqDiff, Nat.reduceLT, Int.reduceToNat, fct])
          exact ⟨by simp [h0, h16], Sep.xt (by assumption)⟩
def c5l1 : MC := (.seq (.seq (.reg [qm 10 5, qm 11 0, qq 12 (.bin .lss (.tmp 10) (.tmp 11))]) (.cond (.tmp 12) .skip (.exit 0))) (.seq (.blk 1 (.reg [qm 15 4, qq 16 (.bin .mul (.tmp 15) (ki 2)), qm 4 16])) (.reg [qm 13 5, qq 14 (.bin .add (.tmp 13) (ki 1)), qm 5 14])))
def c5 : MC := (.seq (.reg [qq 2 (.mv (ki 0)), qq 3 (.mv (ki 0))]) (.seq (.seq (.reg [qm 6 0, qq 7 (.bin .lss (.tmp 6) (ki 0))]) (.cond (.tmp 7) (.seq (.reg [qq 2 (.mv (ki 0)), qq 3 (.mv (ki 22))]) .ret) .skip)) (.seq (.seq (.reg [qm 8 0, qq 9 (.bin .gtr (.tmp 8) (ki 16))]) (.cond (.tmp 9) (.seq (.reg [qq 2 (.mv (ki 0)), qq 3 (.mv (ki 26))]) .ret) .skip)) (.seq (.reg [qq 4 (.mv (ki 1))]) (.seq (.seq (.reg [qq 5 (.mv (ki 1))]) (.blk 0 (.loop c5l1))) (.seq (.reg [qm 17 4, qm 2 17, qq 3 (.mv (ki 0))]) .ret))))))
theorem k5 : conv Try.prog 18 (Try.f5.body.getD .skip) = c5 := by kernel_rfl
theorem in5 {a0 : Value} {w : World} {R : Value → World → Prop} (h : G Try.prog Try.f5 18 [.c c5] R (frL 0 [a0]) w) : Ret Try.prog 5 #[a0] w R := G.enter (args := [a0]) Try.func5 (c := Try.f5.body.getD .skip) (by kernel_rfl) (by kernel_rfl) (by simp) k5 h
theorem rcount_spec (n : Int) (w : World) : Pu Try.prog 5 #[I n] w (.tuple #[I (cntM n), I (bad7M n)]) := by
  refine in5 ?_
  have hS := Sep.start w
  unfold cntM bad7M
  by_cases h0 : n < 0
  · repeat' (first | ((with_reducible apply G.a); exact rfl) | refine G.reg fun K hK => ?_ | (with_reducible (refine hK _ _ ?_); clear hK K) | (have hk := hK; clear hk; simp (disch := first | exact dis | fail) only [push_cast, ↓reduceIte, Nat.reduceAdd, Nat.reduceLeDiff, Nat.reduceEqDiff, Nat.reduceLT, Int.reduceToNat, fct]) | (refine G.cn ?_ ?_ <;> intro hc <;> first | (with_reducible exact False.elim hc) | (exfalso; omega) | skip))
    all_goals
      (first | refine G.r1 ?_ | refine G.r2 ?_ | refine G.r3 ?_ | refine G.r0 ?_ | refine G.d0 ?_); (try simp (disch := first | exact dis | fail) only [push_cast, ↓reduceIte, Nat.reduceAdd, Nat.reduceLeDiff, Nat.reduceEqDiff, Nat.reduceLT, Int.reduceToNat, fct])
      exact ⟨by simp [h0], Sep.xt (by assumption)⟩
  · by_cases h16 : 16 < n
    · repeat' (first | ((with_reducible apply G.a); exact rfl) | refine G.reg fun K hK => ?_ | (with_reducible (refine hK _ _ ?_); clear hK K) | (have hk := hK; clear hk; simp (disch := first | exact dis | fail) only [push_cast, ↓reduceIte, Nat.reduceAdd, Nat.reduceLeDiff, Nat.reduceEqDiff, Nat.reduceLT, Int.reduceToNat, fct]) | (refine G.cn ?_ ?_ <;> intro hc <;> first | (with_reducible exact False.elim hc) | (exfalso; omega) | skip))
      all_goals
        (first | refine G.r1 ?_ | refine G.r2 ?_ | refine G.r3 ?_ | refine G.r0 ?_ | refine G.d0 ?_); (try simp (disch := first | exact dis | fail) only [push_cast, ↓reduceIte, Nat.reduceAdd, Nat.reduceLeDiff, Nat.reduceEqDiff, Nat.reduceLT, Int.reduceToNat, fct])
        exact ⟨by simp [h0, h16], Sep.xt (by assumption)⟩
    · obtain ⟨k, rfl⟩ : ∃ k : Nat, n = k := ⟨n.toNat, by omega⟩
      rw [if_neg (show ¬((k : Int) < 0 ∨ 16 < (k : Int)) by omega), if_neg (show ¬(k : Int) < 0 by omega), if_neg (show ¬16 < (k : Int) by omega)]
      repeat' (first | ((with_reducible apply G.a); exact rfl) | refine G.reg fun K hK => ?_ | (with_reducible (refine hK _ _ ?_); clear hK K) | (have hk := hK; clear hk; simp (disch := first | exact dis | fail) only [push_cast, ↓reduceIte, Nat.reduceAdd, Nat.reduceLeDiff, Nat.reduceEqDiff, Nat.reduceLT, Int.reduceToNat, fct]) | (refine G.cn ?_ ?_ <;> intro hc <;> first | (with_reducible exact False.elim hc) | (exfalso; omega) | skip))
      refine G.loop (fun r w' => ∃ j : Nat, (j = 0 ∨ j + 1 ≤ k) ∧ r 0 = I k ∧ r 4 = I ((2 ^ j : Nat) : Int) ∧ r 5 = I ((j : Int) + 1) ∧ r 3 = I 0 ∧ Sep w w' []) (fun r _ => k - toN (r 5)) ?_ ?_
      · exact ⟨0, .inl rfl, by exact sf, by exact sf, by exact sf, by exact sf, hS⟩
      · clear hS
        rintro u wl ⟨j, hj, q0, q4, q5, q3, hS⟩ ih
        have hp := pow16 (k := j) (by omega)
        have hm : toN (u 5) = j + 1 := by rw [q5]; simp [toN] <;> omega
        have e2 : 2 ^ (j + 1) = 2 ^ j * 2 := Nat.pow_succ ..
        by_cases hlt : (j : Int) + 1 < k
        · have hp2 := pow16 (k := j + 1) (by omega)
          generalize hg : (2 ^ j : Nat) = pj at q4 hp e2
          (have fct := (And.intro @q0 (And.intro @q4 (And.intro @q5 @q3))); repeat' (first | ((with_reducible apply G.a); exact rfl) | refine G.reg fun K hK => ?_ | (with_reducible (refine hK _ _ ?_); clear hK K) | (have hk := hK; clear hk; simp (disch := first | exact dis | fail) only [push_cast, ↓reduceIte, Nat.reduceAdd, Nat.reduceLeDiff, Nat.reduceEqDiff, Nat.reduceLT, Int.reduceToNat, fct]) | (refine G.cn ?_ ?_ <;> intro hc <;> first | (with_reducible exact False.elim hc) | (exfalso; omega) | skip))) <;> (try clear fct)
          all_goals
            have fct := (And.intro @q0 (And.intro @q4 (And.intro @q5 @q3))); refine ih _ _ ⟨j + 1, .inr (by omega), by exact sf, by rw [e2]; simp only [push_cast, ↓reduceIte, Nat.reduceAdd, Nat.reduceLeDiff, Nat.reduceEqDiff, Nat.reduceLT, Int.reduceToNat, q0, q4, q5, q3] <;> rfl, by exact sf, by exact sf, hS⟩ ?_
            rw [hm]; simp only [push_cast, ↓reduceIte, Nat.reduceAdd, Nat.reduceLeDiff, Nat.reduceEqDiff, Nat.reduceLT, Int.reduceToNat, toN_i, q0, q4, q5, q3]; omega
        · have e : ((k : Int).toNat - 1) = j := by omega
          rw [e]
          (have fct := (And.intro @q0 (And.intro @q4 (And.intro @q5 @q3))); repeat' (first | ((with_reducible apply G.a); exact rfl) | refine G.reg fun K hK => ?_ | (with_reducible (refine hK _ _ ?_); clear hK K) | (have hk := hK; clear hk; simp (disch := first | exact dis | fail) only [push_cast, ↓reduceIte, Nat.reduceAdd, Nat.reduceLeDiff, Nat.reduceEqDiff, Nat.reduceLT, Int.reduceToNat, fct]) | (refine G.cn ?_ ?_ <;> intro hc <;> first | (with_reducible exact False.elim hc) | (exfalso; omega) | skip))) <;> (try clear fct)
          all_goals
            (have fct := (And.intro @q0 (And.intro @q4 (And.intro @q5 @q3))); (first | refine G.r1 ?_ | refine G.r2 ?_ | refine G.r3 ?_ | refine G.r0 ?_ | refine G.d0 ?_); (try simp (disch := first | exact dis | fail) only [push_cast, ↓reduceIte, Nat.reduceAdd, Nat.reduceLeDiff, Nat.reduceEqDiff, Nat.reduceLT, Int.reduceToNat, fct]); (try clear fct))
            exact Sep.xt (by assumption)
def c8l1 : MC := (.seq (.seq (.reg [qm 7 6, qm 8 0, qq 9 (.bin .lss (.tmp 7) (.tmp 8))]) (.cond (.tmp 9) .skip (.exit 0))) (.seq (.blk 1 (.seq (.seq (.reg [qm 12 1, qq 13 (.bin .rem (.tmp 12) (ki 2)), qq 14 (.bin .eql (.tmp 13) (ki 1))]) (.cond (.tmp 14) (.reg [qm 15 5, qm 16 6, qq 17 (.bsl 3 [(.int .i64 0)] 1 [⟨0, ⟨1, (.tmp 16)⟩⟩]), qq 18 (.raw (.call ⟨(.builtin .append), #[(.tmp 15), (.tmp 17)], #[30, 30]⟩) 30), qm 5 18]) .skip)) (.reg [qm 19 1, qq 20 (.bin .quo (.tmp 19) (ki 2)), qm 1 20]))) (.reg [qm 10 6, qq 11 (.bin .add (.tmp 10) (ki 1)), qm 6 11])))
def c8 : MC := (.seq (.reg [qq 4 (.mv (.const (.slice none 0 0)))]) (.seq (.reg [qq 5 (.mv (.const (.slice none 0 0)))]) (.seq (.seq (.reg [qq 6 (.mv (ki 1))]) (.blk 0 (.loop c8l1))) (.seq (.reg [qm 21 5, qm 4 21]) .ret))))
theorem k8 : conv Try.prog 22 (Try.f8.body.getD .skip) = c8 := by kernel_rfl
theorem in8 {a0 a1 : Value} {w : World} {R : Value → World → Prop} (h : G Try.prog Try.f8 22 [.c c8] R (frL 0 [a0, a1]) w) : Ret Try.prog 8 #[a0, a1] w R := G.enter (args := [a0, a1]) Try.func8 (c := Try.f8.body.getD .skip) (by kernel_rfl) (by kernel_rfl) (by simp) k8 h
theorem way_spec (n i : Nat) (w : World) (hn : n ≤ 16) (hi : i ≤ 32768) : Ret Try.prog 8 #[I n, I i] w fun res w' => Sep w w' [accC res 3 eI (wayN n i)] := by
  refine in8 ?_
  have hS := Sep.start w
  repeat' (first | ((with_reducible apply G.a); exact rfl) | refine G.reg fun K hK => ?_ | (with_reducible (refine hK _ _ ?_); clear hK K) | (have hk := hK; clear hk; simp (disch := first | exact dis | fail) only [push_cast, ↓reduceIte, Nat.reduceAdd, Nat.reduceLeDiff, Nat.reduceEqDiff, Nat.reduceLT, Int.reduceToNat, fct]) | (refine zbsl ?_; intro gb wb hS) | (refine G.cn ?_ ?_ <;> intro hc <;> first | (with_reducible exact False.elim hc) | (exfalso; omega) | skip))
  have hS := hS.nil 3 eI
  refine G.loop (fun r w' => ∃ (j : Nat) (lv : Value), (j = 0 ∨ j + 1 ≤ n) ∧ r 0 = I n ∧ r 1 = I ((i / 2 ^ j : Nat) : Int) ∧ r 5 = lv ∧ r 6 = I ((j : Int) + 1) ∧ Sep w w' [accC lv 3 eI (wayK i j)]) (fun r _ => n - toN (r 6)) ?_ ?_
  · exact ⟨0, _, .inl rfl, by exact sf, by simp only [push_cast, ↓reduceIte, Nat.reduceAdd, Nat.reduceLeDiff, Nat.reduceEqDiff, Nat.reduceLT, Int.reduceToNat] <;> simp, by exact sf, by exact sf, hS⟩
  · clear hS
    rintro u wl ⟨j, lv, hj, q0, q1, q5, q6, hS⟩ ih
    have hm : toN (u 6) = j + 1 := by rw [q6]; simp [toN] <;> omega
    have hwl := wayK_len i j
    have hdv : i / 2 ^ j ≤ 32768 := Nat.le_trans (Nat.div_le_self _ _) hi
    have hds : i / 2 ^ (j + 1) = i / 2 ^ j / 2 := by rw [Nat.pow_succ, Nat.div_div_eq_div_mul]
    have hws : wayK i (j + 1) = if (i / 2 ^ j) % 2 = 1 then wayK i j ++ [(j : Int) + 1] else wayK i j := rfl
    generalize i / 2 ^ j = q at *
    by_cases hlt : (j : Int) + 1 < n
    · by_cases hb : q % 2 = 1
      · rw [if_pos hb] at hws
        (have fct := (And.intro @q0 (And.intro @q1 (And.intro @q5 @q6))); repeat' (first | ((with_reducible apply G.a); exact rfl) | refine G.reg fun K hK => ?_ | (with_reducible (refine hK _ _ ?_); clear hK K) | (have hk := hK; clear hk; simp (disch := first | exact dis | fail) only [push_cast, ↓reduceIte, Nat.reduceAdd, Nat.reduceLeDiff, Nat.reduceEqDiff, Nat.reduceLT, Int.reduceToNat, fct]) | (refine zbsl ?_; intro gb wb hS) | (refine zap (y := (j : Int) + 1) ?_ (hy := by rfl); intro vb wb hS) | (refine G.cn ?_ ?_ <;> intro hc <;> first | (with_reducible exact False.elim hc) | (exfalso; omega) | skip))) <;> (try clear fct)
        all_goals
          have fct := (And.intro @q0 (And.intro @q1 (And.intro @q5 @q6))); refine ih _ _ ⟨j + 1, _, .inr (by omega), by exact sf, by simp only [push_cast, ↓reduceIte, Nat.reduceAdd, Nat.reduceLeDiff, Nat.reduceEqDiff, Nat.reduceLT, Int.reduceToNat, q0, q1, q5, q6, hds] <;> simp, by exact sf, by exact sf, by rw [hws]; exact hS⟩ ?_
          rw [hm]; simp only [push_cast, ↓reduceIte, Nat.reduceAdd, Nat.reduceLeDiff, Nat.reduceEqDiff, Nat.reduceLT, Int.reduceToNat, toN_i, q0, q1, q5, q6]; omega
      · rw [if_neg hb] at hws
        (have fct := (And.intro @q0 (And.intro @q1 (And.intro @q5 @q6))); repeat' (first | ((with_reducible apply G.a); exact rfl) | refine G.reg fun K hK => ?_ | (with_reducible (refine hK _ _ ?_); clear hK K) | (have hk := hK; clear hk; simp (disch := first | exact dis | fail) only [push_cast, ↓reduceIte, Nat.reduceAdd, Nat.reduceLeDiff, Nat.reduceEqDiff, Nat.reduceLT, Int.reduceToNat, fct]) | (refine zbsl ?_; intro gb wb hS) | (refine G.cn ?_ ?_ <;> intro hc <;> first | (with_reducible exact False.elim hc) | (exfalso; omega) | skip))) <;> (try clear fct)
        all_goals
          have fct := (And.intro @q0 (And.intro @q1 (And.intro @q5 @q6))); refine ih _ _ ⟨j + 1, _, .inr (by omega), by exact sf, by simp only [push_cast, ↓reduceIte, Nat.reduceAdd, Nat.reduceLeDiff, Nat.reduceEqDiff, Nat.reduceLT, Int.reduceToNat, q0, q1, q5, q6, hds] <;> simp, by exact sf, by exact sf, by rw [hws]; exact hS⟩ ?_
          rw [hm]; simp only [push_cast, ↓reduceIte, Nat.reduceAdd, Nat.reduceLeDiff, Nat.reduceEqDiff, Nat.reduceLT, Int.reduceToNat, toN_i, q0, q1, q5, q6]; omega
    · have e : wayN n i = wayK i j := by unfold wayN; congr 1; omega
      rw [e]
      (have fct := (And.intro @q0 (And.intro @q1 (And.intro @q5 @q6))); repeat' (first | ((with_reducible apply G.a); exact rfl) | refine G.reg fun K hK => ?_ | (with_reducible (refine hK _ _ ?_); clear hK K) | (have hk := hK; clear hk; simp (disch := first | exact dis | fail) only [push_cast, ↓reduceIte, Nat.reduceAdd, Nat.reduceLeDiff, Nat.reduceEqDiff, Nat.reduceLT, Int.reduceToNat, fct]) | (refine zbsl ?_; intro gb wb hS) | (refine G.cn ?_ ?_ <;> intro hc <;> first | (with_reducible exact False.elim hc) | (exfalso; omega) | skip))) <;> (try clear fct)
      all_goals
        (have fct := (And.intro @q0 (And.intro @q1 (And.intro @q5 @q6))); (first | refine G.r1 ?_ | refine G.r2 ?_ | refine G.r3 ?_ | refine G.r0 ?_ | refine G.d0 ?_); (try simp (disch := first | exact dis | fail) only [push_cast, ↓reduceIte, Nat.reduceAdd, Nat.reduceLeDiff, Nat.reduceEqDiff, Nat.reduceLT, Int.reduceToNat, fct]); (try clear fct))
        exact hS
end Go.Proofs.Ytcglgnbeliljoaa
