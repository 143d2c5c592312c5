/- Chapter 07: Held, By, joined, walked. -/
import Derived.Test.YtdhieolfdlkeaaaP07
import Derived.Test.YtdhieolfdlkeaaaW02
import Derived.Test.YtdhieolfdlkeaaaV15
namespace Go.Proofs.Ytdhieolfdlkeaaa
set_option linter.unusedSimpArgs false
set_option linter.unusedVariables false
attribute [local irreducible] SemK UnitK StK AlcK BslK CallK CallV Instr.box Builtin.append_ Instr.makeSlice Instr.makeMap Instr.lookup Instr.mapUpdate Instr.sliceAt convert
open Go.RowKit
section
variable {v : Value} {w : World} {sz : List Int} {s : Str}
def c69 : MC := (.seq (.reg [qq 2 (.mv (kb false))]) (.seq (.reg [qm 3 0, qq 4 (.bin .gtr (.tmp 3) (ki 0)), qm 2 4]) .ret))
theorem k69 : conv Try.prog 5 (Try.f69.body.getD .skip) = c69 := by kernel_rfl
theorem in69 {a0 : Value} {w : World} {R : Value → World → Prop} (h : G Try.prog Try.f69 5 [.c c69] R (frL 0 [a0]) w) : Ret Try.prog 69 #[a0] w R := G.enter (args := [a0]) Try.func69 (c := Try.f69.body.getD .skip) (by kernel_rfl) (by kernel_rfl) (by simp) k69 h
theorem by1_spec (n : Int) (w : World) : Pu Try.prog 69 #[I n] w (.bool (decide (0 < n))) := by
  refine in69 ?_
  have hS := Sep.start w
  repeat' (first | ((with_reducible apply G.a); exact rfl) | refine G.reg fun K hK => ?_ | (with_reducible (refine hK _ _ ?_); clear hK K) | (have hk := hK; clear hk; simp (disch := first | exact dis | fail) only [push_cast, ↓reduceIte, Nat.reduceAdd, Nat.reduceLeDiff, Nat.reduceEqDiff, Nat.reduceLT, Int.reduceToNat, fct]))
  all_goals
    (first | refine G.r1 ?_ | refine G.r2 ?_ | refine G.r3 ?_ | refine G.r0 ?_ | refine G.d0 ?_); (try simp (disch := first | exact dis | fail) only [push_cast, ↓reduceIte, Nat.reduceAdd, Nat.reduceLeDiff, Nat.reduceEqDiff, Nat.reduceLT, Int.reduceToNat, fct])
    exact Sep.xt (by assumption)
def c96l1 : MC := (.seq (.reg [qq 9 (.bin .lss (.tmp 8) (.tmp 7))]) (.seq (.cond (.tmp 9) .skip (.exit 0)) (.seq (.blk 1 (.seq (.reg [qm 10 8, qm 5 10]) (.seq (.reg [qm 11 1, qm 12 0, qm 13 5, qq 14 (.adr 1 (.tmp 12) (.tmp 13)), qq 15 (.ld none (.tmp 14)), qq 16 (.raw (.call ⟨(.value (.tmp 11)), #[(.tmp 15)], #[3]⟩) 4)]) (.cond (.tmp 16) (.seq (.reg [qm 17 5, qm 4 17]) .ret) .skip)))) (.reg [qq 18 (.bin .add (.tmp 8) (ki 1)), qm 8 18]))))
def c96 : MC := (.seq (.reg [qq 4 (.mv (ki 0))]) (.seq (.seq (.reg [qm 6 0, qq 7 (.len (.tmp 6)), qq 8 (.mv (ki 0))]) (.blk 0 (.loop c96l1))) (.seq (.reg [qq 4 (.mv (ki (-1)))]) .ret)))
theorem k96 : conv Try.prog 19 (Try.f96.body.getD .skip) = c96 := by kernel_rfl
theorem in96 {a0 a1 : Value} {w : World} {R : Value → World → Prop} (h : G Try.prog Try.f96 19 [.c c96] R (frL 0 [a0, a1]) w) : Ret Try.prog 96 #[a0, a1] w R := G.enter (args := [a0, a1]) Try.func96 (c := Try.f96.body.getD .skip) (by kernel_rfl) (by kernel_rfl) (by simp) k96 h
theorem idxf_spec (hr : Rd w eI v sz) : Pu Try.prog 96 #[v, (.func (.func 69) #[] #[])] w (I (posF sz 0)) := by
  refine in96 ?_
  have hS := Sep.start w
  have hbd := hr.bd
  repeat' (first | ((with_reducible apply G.a); exact rfl) | refine G.reg fun K hK => ?_ | (with_reducible (refine hK _ _ ?_); clear hK K) | (have hk := hK; clear hk; simp (disch := first | exact dis | fail) only [push_cast, ↓reduceIte, Nat.reduceAdd, Nat.reduceLeDiff, Nat.reduceEqDiff, Nat.reduceLT, Int.reduceToNat, fct]) | (refine zcv ?_) | (refine G.cn ?_ ?_ <;> intro hc <;> first | (with_reducible exact False.elim hc) | (exfalso; omega) | skip))
  refine G.loop (fun r w' => ∃ k : Nat, k ≤ sz.length ∧ r 0 = v ∧ r 1 = (.func (.func 69) #[] #[]) ∧ r 7 = I sz.length ∧ r 8 = I k ∧ posF sz 0 = posF (sz.drop k) k ∧ Sep w w' []) (fun r _ => sz.length - toN (r 8)) ?_ ?_
  · exact ⟨0, Nat.zero_le _, by exact sf, by exact sf, by exact sf, by exact sf, rfl, hS⟩
  · rintro u wl ⟨k, hk, q0, q1, q7, q8, e, hS⟩ ih
    have hm : toN (u 8) = k := by rw [q8]; simp [toN]
    by_cases hkk : (k : Int) < sz.length
    · have hst := posF_step sz k hkk
      rw [← e] at hst
      by_cases hp : 0 < sz.getD k default
      · rw [if_pos hp] at hst
        (have fct := (And.intro @q0 (And.intro @q1 (And.intro @q7 @q8))); repeat' (first | ((with_reducible apply G.a); exact rfl) | refine G.reg fun K hK => ?_ | (with_reducible (refine hK _ _ ?_); clear hK K) | (have hk := hK; clear hk; simp (disch := first | exact dis | fail) only [push_cast, ↓reduceIte, Nat.reduceAdd, Nat.reduceLeDiff, Nat.reduceEqDiff, Nat.reduceLT, Int.reduceToNat, fct]) | (refine zcv ?_) | (refine zcp 69 (by1_spec _ _) ?_; intro wb hS) | (refine G.cn ?_ ?_ <;> intro hc <;> first | (with_reducible exact False.elim hc) | (exfalso; omega) | skip))) <;> (try clear fct)
        all_goals
          (have fct := (And.intro @q0 (And.intro @q1 (And.intro @q7 @q8))); (first | refine G.r1 ?_ | refine G.r2 ?_ | refine G.r3 ?_ | refine G.r0 ?_ | refine G.d0 ?_); (try simp (disch := first | exact dis | fail) only [push_cast, ↓reduceIte, Nat.reduceAdd, Nat.reduceLeDiff, Nat.reduceEqDiff, Nat.reduceLT, Int.reduceToNat, fct]); (try clear fct))
          exact ⟨by rw [hst], Sep.xt (by assumption)⟩
      · rw [if_neg hp] at hst
        (have fct := (And.intro @q0 (And.intro @q1 (And.intro @q7 @q8))); repeat' (first | ((with_reducible apply G.a); exact rfl) | refine G.reg fun K hK => ?_ | (with_reducible (refine hK _ _ ?_); clear hK K) | (have hk := hK; clear hk; simp (disch := first | exact dis | fail) only [push_cast, ↓reduceIte, Nat.reduceAdd, Nat.reduceLeDiff, Nat.reduceEqDiff, Nat.reduceLT, Int.reduceToNat, fct]) | (refine zcv ?_) | (refine zcp 69 (by1_spec _ _) ?_; intro wb hS) | (refine G.cn ?_ ?_ <;> intro hc <;> first | (with_reducible exact False.elim hc) | (exfalso; omega) | skip))) <;> (try clear fct)
        all_goals
          have fct := (And.intro @q0 (And.intro @q1 (And.intro @q7 @q8))); refine ih _ _ ⟨k + 1, by omega, by exact sf, by exact sf, by exact sf, by exact sf, hst, (Sep.sub hS (by repeat first | exact Sub.rfl' | exact Sub.n | (refine Sub.c (by repeat constructor) ?_) | refine Sub.skip ?_))⟩ ?_
          rw [hm]; simp only [push_cast, ↓reduceIte, Nat.reduceAdd, Nat.reduceLeDiff, Nat.reduceEqDiff, Nat.reduceLT, Int.reduceToNat, toN_i, q0, q1, q7, q8]; omega
    · (have fct := (And.intro @q0 (And.intro @q1 (And.intro @q7 @q8))); repeat' (first | ((with_reducible apply G.a); exact rfl) | refine G.reg fun K hK => ?_ | (with_reducible (refine hK _ _ ?_); clear hK K) | (have hk := hK; clear hk; simp (disch := first | exact dis | fail) only [push_cast, ↓reduceIte, Nat.reduceAdd, Nat.reduceLeDiff, Nat.reduceEqDiff, Nat.reduceLT, Int.reduceToNat, fct]) | (refine zcv ?_) | (refine G.cn ?_ ?_ <;> intro hc <;> first | (with_reducible exact False.elim hc) | (exfalso; omega) | skip))) <;> (try clear fct)
      all_goals
        (first | refine G.r1 ?_ | refine G.r2 ?_ | refine G.r3 ?_ | refine G.r0 ?_ | refine G.d0 ?_); (try simp (disch := first | exact dis | fail) only [push_cast, ↓reduceIte, Nat.reduceAdd, Nat.reduceLeDiff, Nat.reduceEqDiff, Nat.reduceLT, Int.reduceToNat, fct])
        rw [e, List.drop_eq_nil_of_le (by omega)]
        exact ⟨rfl, Sep.xt (by assumption)⟩
def c68 : MC := (.seq (.reg [qq 4 (.mv (kb false))]) (.seq (.reg [qm 5 0, qm 6 1, qq 7 (.call 96 [(.tmp 5), (.tmp 6)]), qq 8 (.bin .geq (.tmp 7) (ki 0)), qm 4 8]) .ret))
theorem k68 : conv Try.prog 9 (Try.f68.body.getD .skip) = c68 := by kernel_rfl
theorem in68 {a0 a1 : Value} {w : World} {R : Value → World → Prop} (h : G Try.prog Try.f68 9 [.c c68] R (frL 0 [a0, a1]) w) : Ret Try.prog 68 #[a0, a1] w R := G.enter (args := [a0, a1]) Try.func68 (c := Try.f68.body.getD .skip) (by kernel_rfl) (by kernel_rfl) (by simp) k68 h
theorem contf_spec (hr : Rd w eI v sz) : Pu Try.prog 68 #[v, (.func (.func 69) #[] #[])] w (.bool (anyP sz)) := by
  refine in68 ?_
  have hS := Sep.start w
  repeat' (first | ((with_reducible apply G.a); exact rfl) | refine G.reg fun K hK => ?_ | (with_reducible (refine hK _ _ ?_); clear hK K) | (have hk := hK; clear hk; simp (disch := first | exact dis | fail) only [push_cast, ↓reduceIte, Nat.reduceAdd, Nat.reduceLeDiff, Nat.reduceEqDiff, Nat.reduceLT, Int.reduceToNat, fct]) | (refine zcp 96 (idxf_spec (Rd.old hr hS)) ?_; intro wb hS))
  (first | refine G.r1 ?_ | refine G.r2 ?_ | refine G.r3 ?_ | refine G.r0 ?_ | refine G.d0 ?_); (try simp (disch := first | exact dis | fail) only [push_cast, ↓reduceIte, Nat.reduceAdd, Nat.reduceLeDiff, Nat.reduceEqDiff, Nat.reduceLT, Int.reduceToNat, fct])
  exact ⟨by rw [posF_any], Sep.xt (by assumption)⟩
/-- What pieces by sizes are. -/
def ByOut (s : Str) (sz : List Int) (out : List Str) : Prop := if s ≠ [] ∧ anyP sz = true then ∃ J, EndJ sz s.length J ∧ out = byL s sz J else out = [s]
theorem ByOut.one {a b : List Str} (ha : ByOut s sz a) (hb : ByOut s sz b) : a = b := by
  unfold ByOut at ha hb
  split at ha
  · rename_i h
    rw [if_pos h] at hb
    obtain ⟨i, h1, rfl⟩ := ha
    obtain ⟨j, h2, rfl⟩ := hb
    rw [h1.one h2]
  · rename_i h
    rw [if_neg h] at hb
    rw [ha, hb]
theorem ByOut.flat {a : List Str} (ha : ByOut s sz a) : a.flatten = s := by
  unfold ByOut at ha
  split at ha
  · obtain ⟨j, h1, rfl⟩ := ha
    rw [byL_flat, h1.1]; simp
  · rw [ha]; simp
theorem drop_nil_iff {n : Int} (h : 0 ≤ n ∧ n ≤ s.length) : ((s.drop n.toNat == ([] : Str)) = true) ↔ n = s.length := by
  rw [beq_iff_eq, List.drop_eq_nil_iff]; omega
/-- The measure of By's loop. -/
def mesV (v0 v6 : Value) (L q : Nat) : Nat := match v0 with
  | .string b => b.size * (2 * L) + (if toN v6 ≤ q then q - toN v6 else L - toN v6 + q)
  | _ => 0
theorem mesV_S (s : Str) (i L q : Nat) : mesV (S s) (I i) L q = s.length * (2 * L) + (if i ≤ q then q - i else L - i + q) := by
  simp only [mesV, S, sizeS, toN, Int.toNat_natCast]; rfl
def c40l1 : MC := (.seq (.seq (.reg [qm 17 0, qq 18 (.bin .neq (.tmp 17) (.const (S [])))]) (.cond (.tmp 18) .skip (.exit 0))) (.seq (.blk 1 (.seq (.reg [qm 24 1, qm 25 6, qq 26 (.adr 1 (.tmp 24) (.tmp 25)), qq 27 (.ld none (.tmp 26)), qq 28 (.raw (.call ⟨(.builtin .max), #[(.tmp 27), (ki 0)], #[3, 3]⟩) 3), qm 29 0, qq 30 (.lenS (.tmp 29)), qq 31 (.raw (.call ⟨(.builtin .min), #[(.tmp 28), (.tmp 30)], #[3, 3]⟩) 3), qm 7 31]) (.seq (.reg [qm 32 5, qm 33 0, qm 34 7, qq 35 (.slS (.tmp 33) none (.some (.tmp 34))), qq 36 (.bsl 9 [(S [])] 1 [⟨0, ⟨1, (.tmp 35)⟩⟩]), qq 37 (.raw (.call ⟨(.builtin .append), #[(.tmp 32), (.tmp 36)], #[47, 47]⟩) 47), qm 5 37]) (.reg [qm 38 0, qm 39 7, qq 40 (.slS (.tmp 38) (.some (.tmp 39)) none), qm 0 40])))) (.reg [qm 19 6, qq 20 (.bin .add (.tmp 19) (ki 1)), qm 21 1, qq 22 (.len (.tmp 21)), qq 23 (.bin .rem (.tmp 20) (.tmp 22)), qm 6 23])))
def c40 : MC := (.seq (.reg [qq 4 (.mv (.const (.slice none 0 0)))]) (.seq (.seq (.reg [qm 8 0, qq 9 (.bin .eql (.tmp 8) (.const (S []))), qm 10 9, qmf 10 11 1, qf 10 12 (.call 68 [(.tmp 11), (.func 69)]), qf 10 13 (.un .not (.tmp 12)), qq 14 (.pick (.tmp 10) (kb true) (.tmp 13))]) (.cond (.tmp 14) (.seq (.reg [qm 15 0, qq 16 (.bsl 9 [(S [])] 1 [⟨0, ⟨1, (.tmp 15)⟩⟩]), qm 4 16]) .ret) .skip)) (.seq (.reg [qq 5 (.mv (.const (.slice none 0 0)))]) (.seq (.seq (.reg [qq 6 (.mv (ki 0))]) (.blk 0 (.loop c40l1))) (.seq (.reg [qm 41 5, qm 4 41]) .ret)))))
theorem k40 : conv Try.prog 42 (Try.f40.body.getD .skip) = c40 := by kernel_rfl
theorem in40 {a0 a1 : Value} {w : World} {R : Value → World → Prop} (h : G Try.prog Try.f40 42 [.c c40] R (frL 0 [a0, a1]) w) : Ret Try.prog 40 #[a0, a1] w R := G.enter (args := [a0, a1]) Try.func40 (c := Try.f40.body.getD .skip) (by kernel_rfl) (by kernel_rfl) (by simp) k40 h
set_option maxHeartbeats 1000000 in
theorem by_spec (hr : Rd w eI v sz) (hs : s.length ≤ 100000) (hl : sz.length ≤ 1000) : Ret Try.prog 40 #[S s, v] w fun res w' => ∃ out, ByOut s sz out ∧ Sep w w' [accC res 9 eS out] := by
  refine in40 ?_
  have hS := Sep.start w
  by_cases h : s ≠ [] ∧ anyP sz = true
  · obtain ⟨h1, h2⟩ := h
    have hne : (s == ([] : Str)) = false := by simpa using h1
    obtain ⟨q, hq, hp⟩ := anyP_ex h2
    have hM := muJ_zero hq hs hl
    simp only [Nat.reduceMul, Nat.reduceAdd] at hM
    (have fct := (And.intro @hne @h2); repeat' (first | ((with_reducible apply G.a); exact rfl) | refine G.reg fun K hK => ?_ | (with_reducible (refine hK _ _ ?_); clear hK K) | (have hk := hK; clear hk; simp (disch := first | exact dis | fail) only [push_cast, ↓reduceIte, Nat.reduceAdd, Nat.reduceLeDiff, Nat.reduceEqDiff, Nat.reduceLT, Int.reduceToNat, fct]) | (refine brO_n ?_ ?_ <;> intro hb hc <;> first | (with_reducible exact False.elim hc) | (exfalso; omega) | (simp only [hb]; clear hb)) | (refine zbsl ?_; intro gb wb hS) | (refine zcp 68 (contf_spec (Rd.old hr hS)) ?_; intro wb hS) | (refine G.cn ?_ ?_ <;> intro hc <;> first | (with_reducible exact False.elim hc) | (exfalso; omega) | skip))) <;> (try clear fct)
    have hS := hS.nil 9 eS
    refine G.loop (fun r w' => ∃ (j : Nat) (lv : Value), r 0 = S (s.drop (atJ sz s.length j).toNat) ∧ r 1 = v ∧ r 5 = lv ∧ r 6 = I (j % sz.length : Nat) ∧ (∀ i, i < j → atJ sz s.length i < s.length) ∧ j + muJ sz s.length q j ≤ muJ sz s.length q 0 ∧ Sep w w' [accC lv 9 eS (byL s sz j)])
      (fun r _ => mesV (r 0) (r 6) sz.length q) ?_ ?_
    · exact ⟨0, _, by simp only [push_cast, ↓reduceIte, Nat.reduceAdd, Nat.reduceLeDiff, Nat.reduceEqDiff, Nat.reduceLT, Int.reduceToNat]; simp [atJ], by simp only [push_cast, ↓reduceIte, Nat.reduceAdd, Nat.reduceLeDiff, Nat.reduceEqDiff, Nat.reduceLT, Int.reduceToNat], by simp only [push_cast, ↓reduceIte, Nat.reduceAdd, Nat.reduceLeDiff, Nat.reduceEqDiff, Nat.reduceLT, Int.reduceToNat] <;> rfl, by simp only [push_cast, ↓reduceIte, Nat.reduceAdd, Nat.reduceLeDiff, Nat.reduceEqDiff, Nat.reduceLT, Int.reduceToNat, Nat.zero_mod] <;> rfl, by omega, by omega, hS⟩
    · clear hS
      rintro u wl ⟨j, lv, q0, q1, q5, q6, hlt, hmu, hS⟩ ih
      have hb := atJ_bd sz s.length (by omega) j
      have hdn := drop_nil_iff (s := s) hb
      have hj : j ≤ 1000000000 := by omega
      have hbl := byL_len s sz j
      by_cases he : atJ sz s.length j = s.length
      · have hz : (s.drop (atJ sz s.length j).toNat == ([] : Str)) = true := hdn.2 he
        (have fct := (And.intro @q0 (And.intro @q1 (And.intro @q5 (And.intro @q6 @hz)))); repeat' (first | ((with_reducible apply G.a); exact rfl) | refine G.reg fun K hK => ?_ | (with_reducible (refine hK _ _ ?_); clear hK K) | (have hk := hK; clear hk; simp (disch := first | exact dis | fail) only [push_cast, ↓reduceIte, Nat.reduceAdd, Nat.reduceLeDiff, Nat.reduceEqDiff, Nat.reduceLT, Int.reduceToNat, fct]) | (refine brO_n ?_ ?_ <;> intro hb hc <;> first | (with_reducible exact False.elim hc) | (exfalso; omega) | (simp only [hb]; clear hb)) | (refine zbsl ?_; intro gb wb hS) | (refine G.cn ?_ ?_ <;> intro hc <;> first | (with_reducible exact False.elim hc) | (exfalso; omega) | skip))) <;> (try clear fct)
        all_goals
          (have fct := (And.intro @q0 (And.intro @q1 (And.intro @q5 @q6))); (first | refine G.r1 ?_ | refine G.r2 ?_ | refine G.r3 ?_ | refine G.r0 ?_ | refine G.d0 ?_); (try simp (disch := first | exact dis | fail) only [push_cast, ↓reduceIte, Nat.reduceAdd, Nat.reduceLeDiff, Nat.reduceEqDiff, Nat.reduceLT, Int.reduceToNat, fct]); (try clear fct))
          refine ⟨_, ?_, hS⟩
          unfold ByOut
          rw [if_pos ⟨h1, h2⟩]
          exact ⟨j, ⟨he, hlt⟩, rfl⟩
      · have hz : (s.drop (atJ sz s.length j).toNat == ([] : Str)) = false := by cases h : (s.drop (atJ sz s.length j).toNat == ([] : Str)); rfl; exact absurd (hdn.1 h) he
        have hmj := muJ_step (by omega) hq hp (show atJ sz s.length j < s.length by omega)
        obtain ⟨g1, g2, g3, g4⟩ := by_step s sz j
        have hil : j % sz.length < sz.length := Nat.mod_lt _ (by omega)
        have hmod : (((j % sz.length : Nat) : Int) + 1) % (sz.length : Int) = (((j + 1) % sz.length : Nat) : Int) := by
          rw [← Nat.mod_add_mod]; rfl
        have hbs := byL_succ s sz j
        have hlt2 : ∀ i, i < j + 1 → atJ sz s.length i < s.length := fun i hi => by
          rcases Nat.lt_or_ge i j with h | h
          · exact hlt i h
          · rw [show i = j by omega]; omega
        have hmes : ∀ j, muJ sz s.length q j = (s.drop (atJ sz s.length j).toNat).length * (2 * sz.length) + (if j % sz.length ≤ q then q - j % sz.length else sz.length - j % sz.length + q) := fun j => by
          have := atJ_bd sz s.length (by omega) j
          unfold muJ; rw [List.length_drop]; congr 2; omega
        have hm1 := hmes j
        have hm2 := hmes (j + 1)
        generalize hsc : s.drop (atJ sz s.length j).toNat = sc at *
        generalize hsn : s.drop (atJ sz s.length (j + 1)).toNat = sn at *
        generalize (heldI (sz.getD (j % sz.length) default) (s.length - atJ sz s.length j)).toNat = c at *
        generalize j % sz.length = i at *
        generalize hi2 : (j + 1) % sz.length = i2 at *
        (have fct := (And.intro @q0 (And.intro @q1 (And.intro @q5 (And.intro @q6 (And.intro @hz (And.intro @g1 (And.intro @g3 @hmod))))))); repeat' (first | ((with_reducible apply G.a); exact rfl) | refine G.reg fun K hK => ?_ | (with_reducible (refine hK _ _ ?_); clear hK K) | (have hk := hK; clear hk; simp (disch := first | exact dis | fail) only [push_cast, ↓reduceIte, Nat.reduceAdd, Nat.reduceLeDiff, Nat.reduceEqDiff, Nat.reduceLT, Int.reduceToNat, fct]) | (refine brO_n ?_ ?_ <;> intro hb hc <;> first | (with_reducible exact False.elim hc) | (exfalso; omega) | (simp only [hb]; clear hb)) | (refine zbsl ?_; intro gb wb hS) | (refine zap (y := pcJ s sz j) ?_ (hy := by (rw [g2]; rfl)); intro vb wb hS) | (refine G.cn ?_ ?_ <;> intro hc <;> first | (with_reducible exact False.elim hc) | (exfalso; omega) | skip))) <;> (try clear fct)
        all_goals
          have fct := (And.intro @q0 (And.intro @q1 (And.intro @q5 @q6))); refine ih _ _ ⟨j + 1, _, by rw [hsn]; simp only [push_cast, ↓reduceIte, Nat.reduceAdd, Nat.reduceLeDiff, Nat.reduceEqDiff, Nat.reduceLT, Int.reduceToNat, q0, q1, q5, q6, g3], by exact sf, by exact sf, by rw [hi2]; simp only [push_cast, ↓reduceIte, Nat.reduceAdd, Nat.reduceLeDiff, Nat.reduceEqDiff, Nat.reduceLT, Int.reduceToNat, q0, q1, q5, q6, hmod], hlt2, by omega, by rw [hbs]; exact hS⟩ ?_
          simp only [push_cast, ↓reduceIte, Nat.reduceAdd, Nat.reduceLeDiff, Nat.reduceEqDiff, Nat.reduceLT, Int.reduceToNat, q0, q1, q5, q6, g3, hmod, mesV_S]
          omega
  · have hc0 : (s == ([] : Str)) = true ∨ anyP sz = false := by
      by_cases h1 : s = []
      · exact .inl (by simp [h1])
      · right; cases ha : anyP sz; rfl; exact absurd ⟨h1, ha⟩ h
    rcases hc0 with hc0 | hc0
    all_goals
      (have fct := @hc0; repeat' (first | ((with_reducible apply G.a); exact rfl) | refine G.reg fun K hK => ?_ | (with_reducible (refine hK _ _ ?_); clear hK K) | (have hk := hK; clear hk; simp (disch := first | exact dis | fail) only [push_cast, ↓reduceIte, Nat.reduceAdd, Nat.reduceLeDiff, Nat.reduceEqDiff, Nat.reduceLT, Int.reduceToNat, fct]) | (refine brO_n ?_ ?_ <;> intro hb hc <;> first | (with_reducible exact False.elim hc) | (exfalso; omega) | (simp only [hb]; clear hb)) | (refine zbsl ?_; intro gb wb hS) | (refine zcp 68 (contf_spec (Rd.old hr hS)) ?_; intro wb hS) | (refine G.cn ?_ ?_ <;> intro hc <;> first | (with_reducible exact False.elim hc) | (exfalso; omega) | skip))) <;> (try clear fct)
      all_goals
        have hS := Sep.toAcc (E := eS) [s] hS Up.h rfl rfl (by simp [eS, one_s]) (by simp)
        (first | refine G.r1 ?_ | refine G.r2 ?_ | refine G.r3 ?_ | refine G.r0 ?_ | refine G.d0 ?_); (try simp (disch := first | exact dis | fail) only [push_cast, ↓reduceIte, Nat.reduceAdd, Nat.reduceLeDiff, Nat.reduceEqDiff, Nat.reduceLT, Int.reduceToNat, fct])
        exact ⟨[s], by unfold ByOut; rw [if_neg h], hS⟩
def c70 : MC := (.seq (.reg [qq 4 (.mv (ki 0))]) (.seq (.seq (.reg [qm 5 0, qq 6 (.bin .lss (.tmp 5) (ki 0))]) (.cond (.tmp 6) (.seq (.reg [qq 4 (.mv (ki 0))]) .ret) .skip)) (.seq (.seq (.reg [qm 7 0, qm 8 1, qq 9 (.bin .gtr (.tmp 7) (.tmp 8))]) (.cond (.tmp 9) (.seq (.reg [qm 10 1, qm 4 10]) .ret) .skip)) (.seq (.reg [qm 11 0, qm 4 11]) .ret))))
theorem k70 : conv Try.prog 12 (Try.f70.body.getD .skip) = c70 := by kernel_rfl
theorem in70 {a0 a1 : Value} {w : World} {R : Value → World → Prop} (h : G Try.prog Try.f70 12 [.c c70] R (frL 0 [a0, a1]) w) : Ret Try.prog 70 #[a0, a1] w R := G.enter (args := [a0, a1]) Try.func70 (c := Try.f70.body.getD .skip) (by kernel_rfl) (by kernel_rfl) (by simp) k70 h
theorem held_spec (n m : Int) (w : World) : Pu Try.prog 70 #[I n, I m] w (I (heldI n m)) := by
  refine in70 ?_
  have hS := Sep.start w
  unfold heldI
  repeat' (first | ((with_reducible apply G.a); exact rfl) | refine G.reg fun K hK => ?_ | (with_reducible (refine hK _ _ ?_); clear hK K) | (have hk := hK; clear hk; simp (disch := first | exact dis | fail) only [push_cast, ↓reduceIte, Nat.reduceAdd, Nat.reduceLeDiff, Nat.reduceEqDiff, Nat.reduceLT, Int.reduceToNat, fct]) | (refine G.cn ?_ ?_ <;> intro hc <;> first | (with_reducible exact False.elim hc) | (exfalso; omega) | skip))
  all_goals
    (first | refine G.r1 ?_ | refine G.r2 ?_ | refine G.r3 ?_ | refine G.r0 ?_ | refine G.d0 ?_); (try simp (disch := first | exact dis | fail) only [push_cast, ↓reduceIte, Nat.reduceAdd, Nat.reduceLeDiff, Nat.reduceEqDiff, Nat.reduceLT, Int.reduceToNat, fct])
    first
    | (rw [if_pos (by omega)]; exact ⟨rfl, Sep.xt (by assumption)⟩)
    | (rw [if_neg (by omega), if_pos (by omega)]; exact ⟨rfl, Sep.xt (by assumption)⟩)
    | (rw [if_neg (by omega), if_neg (by omega)]; exact ⟨rfl, Sep.xt (by assumption)⟩)
def c42l1 : MC := (.seq (.reg [qq 9 (.bin .lss (.tmp 8) (.tmp 7))]) (.seq (.cond (.tmp 9) .skip (.exit 0)) (.seq (.blk 1 (.seq (.reg [qq 10 (.adr 1 (.tmp 6) (.tmp 8)), qq 11 (.ld none (.tmp 10)), qm 5 11]) (.reg [qm 12 3, qm 13 5, qq 14 (.bin .add (.tmp 12) (.tmp 13)), qm 3 14]))) (.reg [qq 15 (.bin .add (.tmp 8) (ki 1)), qm 8 15]))))
def c42 : MC := (.seq (.reg [qq 2 (.mv (.const (S [])))]) (.seq (.reg [qq 3 (.mv (.const (S [])))]) (.seq (.seq (.reg [qm 6 0, qq 7 (.len (.tmp 6)), qq 8 (.mv (ki 0))]) (.blk 0 (.loop c42l1))) (.seq (.reg [qm 16 3, qm 2 16]) .ret))))
theorem k42 : conv Try.prog 17 (Try.f42.body.getD .skip) = c42 := by kernel_rfl
theorem in42 {a0 : Value} {w : World} {R : Value → World → Prop} (h : G Try.prog Try.f42 17 [.c c42] R (frL 0 [a0]) w) : Ret Try.prog 42 #[a0] w R := G.enter (args := [a0]) Try.func42 (c := Try.f42.body.getD .skip) (by kernel_rfl) (by kernel_rfl) (by simp) k42 h
theorem joined_spec {l : List Str} (hr : Rd w eS v l) (hl : l.flatten.length ≤ 9223372036854775807) : Pu Try.prog 42 #[v] w (S l.flatten) := by
  refine in42 ?_
  have hS := Sep.start w
  have hbd := hr.bd
  repeat' (first | ((with_reducible apply G.a); exact rfl) | refine G.reg fun K hK => ?_ | (with_reducible (refine hK _ _ ?_); clear hK K) | (have hk := hK; clear hk; simp (disch := first | exact dis | fail) only [push_cast, ↓reduceIte, Nat.reduceAdd, Nat.reduceLeDiff, Nat.reduceEqDiff, Nat.reduceLT, Int.reduceToNat, fct]) | (refine brO_n ?_ ?_ <;> intro hb hc <;> first | (with_reducible exact False.elim hc) | (exfalso; omega) | (simp only [hb]; clear hb)) | (refine zbsl ?_; intro gb wb hS) | (refine G.cn ?_ ?_ <;> intro hc <;> first | (with_reducible exact False.elim hc) | (exfalso; omega) | skip))
  refine G.loop (fun r w' => ∃ k : Nat, k ≤ l.length ∧ r 3 = S (l.take k).flatten ∧ r 6 = v ∧ r 7 = I l.length ∧ r 8 = I k ∧ Sep w w' []) (fun r _ => l.length - toN (r 8)) ?_ ?_
  · exact ⟨0, Nat.zero_le _, by simp only [push_cast, ↓reduceIte, Nat.reduceAdd, Nat.reduceLeDiff, Nat.reduceEqDiff, Nat.reduceLT, Int.reduceToNat]; rfl, by exact sf, by exact sf, by exact sf, hS⟩
  · rintro u wl ⟨k, hk, q3, q6, q7, q8, hS⟩ ih
    have hm : toN (u 8) = k := by rw [q8]; simp [toN]
    by_cases hkk : (k : Int) < l.length
    · have hst : (l.take k).flatten ++ l.getD k default = (l.take (k + 1)).flatten := by rw [takeD l k hkk]; simp
      have hln : (l.take k).flatten.length + (l.getD k default).length ≤ l.flatten.length := by
        rw [← List.length_append, hst]
        have := List.take_append_drop (k + 1) l
        conv => rhs; rw [← this]
        rw [List.flatten_append, List.length_append]; omega
      (have fct := (And.intro @q3 (And.intro @q6 (And.intro @q7 (And.intro @q8 @hst)))); repeat' (first | ((with_reducible apply G.a); exact rfl) | refine G.reg fun K hK => ?_ | (with_reducible (refine hK _ _ ?_); clear hK K) | (have hk := hK; clear hk; simp (disch := first | exact dis | fail) only [push_cast, ↓reduceIte, Nat.reduceAdd, Nat.reduceLeDiff, Nat.reduceEqDiff, Nat.reduceLT, Int.reduceToNat, fct]) | (refine brO_n ?_ ?_ <;> intro hb hc <;> first | (with_reducible exact False.elim hc) | (exfalso; omega) | (simp only [hb]; clear hb)) | (refine zbsl ?_; intro gb wb hS) | (refine G.cn ?_ ?_ <;> intro hc <;> first | (with_reducible exact False.elim hc) | (exfalso; omega) | skip))) <;> (try clear fct)
      all_goals
        have fct := (And.intro @q3 (And.intro @q6 (And.intro @q7 (And.intro @q8 @hst)))); refine ih _ _ ⟨k + 1, by omega, by exact sf, by exact sf, by exact sf, by exact sf, (Sep.sub hS (by repeat first | exact Sub.rfl' | exact Sub.n | (refine Sub.c (by repeat constructor) ?_) | refine Sub.skip ?_))⟩ ?_
        rw [hm]; simp only [push_cast, ↓reduceIte, Nat.reduceAdd, Nat.reduceLeDiff, Nat.reduceEqDiff, Nat.reduceLT, Int.reduceToNat, toN_i, q3, q6, q7, q8]; omega
    · (have fct := (And.intro @q3 (And.intro @q6 (And.intro @q7 @q8))); repeat' (first | ((with_reducible apply G.a); exact rfl) | refine G.reg fun K hK => ?_ | (with_reducible (refine hK _ _ ?_); clear hK K) | (have hk := hK; clear hk; simp (disch := first | exact dis | fail) only [push_cast, ↓reduceIte, Nat.reduceAdd, Nat.reduceLeDiff, Nat.reduceEqDiff, Nat.reduceLT, Int.reduceToNat, fct]) | (refine brO_n ?_ ?_ <;> intro hb hc <;> first | (with_reducible exact False.elim hc) | (exfalso; omega) | (simp only [hb]; clear hb)) | (refine zbsl ?_; intro gb wb hS) | (refine G.cn ?_ ?_ <;> intro hc <;> first | (with_reducible exact False.elim hc) | (exfalso; omega) | skip))) <;> (try clear fct)
      all_goals
        (have fct := (And.intro @q3 (And.intro @q6 (And.intro @q7 @q8))); (first | refine G.r1 ?_ | refine G.r2 ?_ | refine G.r3 ?_ | refine G.r0 ?_ | refine G.d0 ?_); (try simp (disch := first | exact dis | fail) only [push_cast, ↓reduceIte, Nat.reduceAdd, Nat.reduceLeDiff, Nat.reduceEqDiff, Nat.reduceLT, Int.reduceToNat, fct]); (try clear fct))
        rw [List.take_of_length_le (by omega)]
        exact ⟨rfl, Sep.xt (by assumption)⟩
def c41l1 : MC := (.seq (.reg [qq 16 (.bin .lss (.tmp 15) (.tmp 14))]) (.seq (.cond (.tmp 16) .skip (.exit 0)) (.seq (.blk 1 (.seq (.reg [qq 17 (.adr 1 (.tmp 13) (.tmp 15)), qq 18 (.ld none (.tmp 17)), qm 7 18]) (.reg [qm 19 5, qm 20 19, qmf 20 21 7, qf 20 22 (.bin .gtr (.tmp 21) (ki 0)), qq 23 (.pick (.tmp 20) (kb true) (.tmp 22)), qm 5 23]))) (.reg [qq 24 (.bin .add (.tmp 15) (ki 1)), qm 15 24]))))
def c41l2 : MC := (.seq (.reg [qq 40 (.bin .lss (.tmp 39) (.tmp 38))]) (.seq (.cond (.tmp 40) .skip (.exit 4)) (.seq (.blk 5 (.seq (.reg [qq 41 (.adr 1 (.tmp 37) (.tmp 39)), qq 42 (.ld none (.tmp 41)), qm 11 42]) (.seq (.reg [qm 43 9, qm 44 0, qq 45 (.lenS (.tmp 44)), qq 46 (.bin .lss (.tmp 43) (.tmp 45))]) (.cond (.tmp 46) (.seq (.reg [qm 47 9, qm 48 11, qm 49 0, qq 50 (.lenS (.tmp 49)), qm 51 9, qq 52 (.bin .sub (.tmp 50) (.tmp 51)), qq 53 (.call 70 [(.tmp 48), (.tmp 52)]), qq 54 (.bin .add (.tmp 47) (.tmp 53)), qm 12 54]) (.seq (.reg [qm 55 8, qm 56 0, qm 57 9, qm 58 12, qq 59 (.slS (.tmp 56) (.some (.tmp 57)) (.some (.tmp 58))), qq 60 (.bsl 9 [(S [])] 1 [⟨0, ⟨1, (.tmp 59)⟩⟩]), qq 61 (.raw (.call ⟨(.builtin .append), #[(.tmp 55), (.tmp 60)], #[47, 47]⟩) 47), qm 8 61]) (.reg [qm 62 12, qm 9 62]))) .skip)))) (.reg [qq 63 (.bin .add (.tmp 39) (ki 1)), qm 39 63]))))
def c41l3 : MC := (.seq (.seq (.reg [qm 33 9, qm 34 0, qq 35 (.lenS (.tmp 34)), qq 36 (.bin .lss (.tmp 33) (.tmp 35))]) (.cond (.tmp 36) .skip (.exit 2))) (.blk 3 (.seq (.reg [qm 37 1, qq 38 (.len (.tmp 37)), qq 39 (.mv (ki 0))]) (.blk 4 (.loop c41l2)))))
def c41 : MC := (.seq (.reg [qq 4 (.mv (.const (.slice none 0 0)))]) (.seq (.reg [qq 5 (.mv (kb false))]) (.seq (.seq (.reg [qm 13 1, qq 14 (.len (.tmp 13)), qq 15 (.mv (ki 0))]) (.blk 0 (.loop c41l1))) (.seq (.seq (.reg [qm 25 0, qq 26 (.bin .eql (.tmp 25) (.const (S []))), qm 27 26, qmf 27 28 5, qf 27 29 (.un .not (.tmp 28)), qq 30 (.pick (.tmp 27) (kb true) (.tmp 29))]) (.cond (.tmp 30) (.seq (.reg [qm 31 0, qq 32 (.bsl 9 [(S [])] 1 [⟨0, ⟨1, (.tmp 31)⟩⟩]), qm 4 32]) .ret) .skip)) (.seq (.reg [qq 8 (.mv (.const (.slice none 0 0)))]) (.seq (.reg [qq 9 (.mv (ki 0))]) (.seq (.blk 2 (.loop c41l3)) (.seq (.reg [qm 64 8, qm 4 64]) .ret))))))))
theorem k41 : conv Try.prog 65 (Try.f41.body.getD .skip) = c41 := by kernel_rfl
theorem in41 {a0 a1 : Value} {w : World} {R : Value → World → Prop} (h : G Try.prog Try.f41 65 [.c c41] R (frL 0 [a0, a1]) w) : Ret Try.prog 41 #[a0, a1] w R := G.enter (args := [a0, a1]) Try.func41 (c := Try.f41.body.getD .skip) (by kernel_rfl) (by kernel_rfl) (by simp) k41 h
def rbyV (T : MC) : MC := match c41 with
  | .seq a (.seq b (.seq c (.seq d _))) => .seq a (.seq b (.seq c (.seq d T)))
  | _ => .skip
def rbyT : MC := match c41 with
  | .seq _ (.seq _ (.seq _ (.seq _ T))) => T
  | _ => .skip
theorem rby_pre {n : Nat} {TT : MC} {R : Value → World → Prop} (hr : Rd w eI v sz)
    (ht : ∀ {ρ : Fr} {w' : World}, (s ≠ [] ∧ anyP sz = true) → ρ 0 = S s → ρ 1 = v → Sep w w' [] → G Try.prog Try.f41 n [.c TT] R ρ w')
    (hR : ∀ {res : Value} {w' : World}, ¬ (s ≠ [] ∧ anyP sz = true) → Sep w w' [accC res 9 eS [s]] → R res w') :
    G Try.prog Try.f41 n [.c (rbyV TT)] R (frL 0 [S s, v]) w := by
  unfold rbyV c41
  dsimp only
  have hS := Sep.start w
  have hbd := hr.bd
  repeat' (first | ((with_reducible apply G.a); exact rfl) | refine G.reg fun K hK => ?_ | (with_reducible (refine hK _ _ ?_); clear hK K) | (have hk := hK; clear hk; simp (disch := first | exact dis | fail) only [push_cast, ↓reduceIte, Nat.reduceAdd, Nat.reduceLeDiff, Nat.reduceEqDiff, Nat.reduceLT, Int.reduceToNat, fct]) | (refine brO_n ?_ ?_ <;> intro hb hc <;> first | (with_reducible exact False.elim hc) | (exfalso; omega) | (simp only [hb]; clear hb)) | (refine zbsl ?_; intro gb wb hS) | (refine G.cn ?_ ?_ <;> intro hc <;> first | (with_reducible exact False.elim hc) | (exfalso; omega) | skip))
  refine G.loop (fun r w' => ∃ k : Nat, k ≤ sz.length ∧ r 0 = S s ∧ r 1 = v ∧ r 5 = .bool (anyP (sz.take k)) ∧ r 13 = v ∧ r 14 = I sz.length ∧ r 15 = I k ∧ Sep w w' []) (fun r _ => sz.length - toN (r 15)) ?_ ?_
  · exact ⟨0, Nat.zero_le _, by exact sf, by exact sf, by simp only [push_cast, ↓reduceIte, Nat.reduceAdd, Nat.reduceLeDiff, Nat.reduceEqDiff, Nat.reduceLT, Int.reduceToNat]; rfl, by exact sf, by exact sf, by exact sf, hS⟩
  · clear hS
    rintro u wl ⟨k, hk, q0, q1, q5, q13, q14, q15, hS⟩ ih
    have hm : toN (u 15) = k := by rw [q15]; simp [toN]
    by_cases hkk : (k : Int) < sz.length
    · have hst := anyP_step sz k hkk
      cases ha : anyP (sz.take k) <;> cases hd : decide (0 < sz.getD k default) <;> rw [ha, hd] at hst <;> simp only [Bool.or_true, Bool.or_false, Bool.true_or] at hst
      all_goals
        simp only [decide_eq_true_eq, decide_eq_false_iff_not] at hd
        (have fct := (And.intro @q0 (And.intro @q1 (And.intro @q5 (And.intro @q13 (And.intro @q14 (And.intro @q15 @ha)))))); repeat' (first | ((with_reducible apply G.a); exact rfl) | refine G.reg fun K hK => ?_ | (with_reducible (refine hK _ _ ?_); clear hK K) | (have hk := hK; clear hk; simp (disch := first | exact dis | fail) only [push_cast, ↓reduceIte, Nat.reduceAdd, Nat.reduceLeDiff, Nat.reduceEqDiff, Nat.reduceLT, Int.reduceToNat, fct]) | (refine brO_n ?_ ?_ <;> intro hb hc <;> first | (with_reducible exact False.elim hc) | (exfalso; omega) | (simp only [hb]; clear hb)) | (refine zbsl ?_; intro gb wb hS) | (refine G.cn ?_ ?_ <;> intro hc <;> first | (with_reducible exact False.elim hc) | (exfalso; omega) | skip))) <;> (try clear fct)
        all_goals
          have fct := (And.intro @q0 (And.intro @q1 (And.intro @q5 (And.intro @q13 (And.intro @q14 @q15))))); refine ih _ _ ⟨k + 1, by omega, by exact sf, by exact sf, by rw [hst]; simp only [push_cast, ↓reduceIte, Nat.reduceAdd, Nat.reduceLeDiff, Nat.reduceEqDiff, Nat.reduceLT, Int.reduceToNat, q0, q1, q5, q13, q14, q15, ha, hd] <;> rfl, by exact sf, by exact sf, by exact sf, (Sep.sub hS (by repeat first | exact Sub.rfl' | exact Sub.n | (refine Sub.c (by repeat constructor) ?_) | refine Sub.skip ?_))⟩ ?_
          rw [hm]; simp only [push_cast, ↓reduceIte, Nat.reduceAdd, Nat.reduceLeDiff, Nat.reduceEqDiff, Nat.reduceLT, Int.reduceToNat, toN_i, q0, q1, q5, q13, q14, q15]; omega
    · have hkl : sz.take k = sz := List.take_of_length_le (by omega)
      rw [hkl] at q5
      by_cases h : s ≠ [] ∧ anyP sz = true
      · obtain ⟨h1, h2⟩ := h
        have hne : (s == ([] : Str)) = false := by simpa using h1
        (have fct := (And.intro @q0 (And.intro @q1 (And.intro @q5 (And.intro @q13 (And.intro @q14 (And.intro @q15 (And.intro @hne @h2))))))); repeat' (first | ((with_reducible apply G.a); exact rfl) | refine G.reg fun K hK => ?_ | (with_reducible (refine hK _ _ ?_); clear hK K) | (have hk := hK; clear hk; simp (disch := first | exact dis | fail) only [push_cast, ↓reduceIte, Nat.reduceAdd, Nat.reduceLeDiff, Nat.reduceEqDiff, Nat.reduceLT, Int.reduceToNat, fct]) | (refine brO_n ?_ ?_ <;> intro hb hc <;> first | (with_reducible exact False.elim hc) | (exfalso; omega) | (simp only [hb]; clear hb)) | (refine zbsl ?_; intro gb wb hS) | (refine G.cn ?_ ?_ <;> intro hc <;> first | (with_reducible exact False.elim hc) | (exfalso; omega) | skip))) <;> (try clear fct)
        all_goals exact ht ⟨h1, h2⟩ (by simp only [push_cast, ↓reduceIte, Nat.reduceAdd, Nat.reduceLeDiff, Nat.reduceEqDiff, Nat.reduceLT, Int.reduceToNat, q0, q1, q5, q13, q14, q15]) (by simp only [push_cast, ↓reduceIte, Nat.reduceAdd, Nat.reduceLeDiff, Nat.reduceEqDiff, Nat.reduceLT, Int.reduceToNat, q0, q1, q5, q13, q14, q15]) hS
      · have hc0 : (s == ([] : Str)) = true ∨ anyP sz = false := by
          by_cases h1 : s = []
          · exact .inl (by simp [h1])
          · right; cases ha : anyP sz; rfl; exact absurd ⟨h1, ha⟩ h
        rcases hc0 with hc0 | hc0
        all_goals
          (have fct := (And.intro @q0 (And.intro @q1 (And.intro @q5 (And.intro @q13 (And.intro @q14 (And.intro @q15 @hc0)))))); repeat' (first | ((with_reducible apply G.a); exact rfl) | refine G.reg fun K hK => ?_ | (with_reducible (refine hK _ _ ?_); clear hK K) | (have hk := hK; clear hk; simp (disch := first | exact dis | fail) only [push_cast, ↓reduceIte, Nat.reduceAdd, Nat.reduceLeDiff, Nat.reduceEqDiff, Nat.reduceLT, Int.reduceToNat, fct]) | (refine brO_n ?_ ?_ <;> intro hb hc <;> first | (with_reducible exact False.elim hc) | (exfalso; omega) | (simp only [hb]; clear hb)) | (refine zbsl ?_; intro gb wb hS) | (refine G.cn ?_ ?_ <;> intro hc <;> first | (with_reducible exact False.elim hc) | (exfalso; omega) | skip))) <;> (try clear fct)
          all_goals
            have hS := Sep.toAcc (E := eS) [s] hS Up.h rfl rfl (by simp [eS, one_s]) (by simp)
            (have fct := (And.intro @q0 (And.intro @q1 (And.intro @q5 (And.intro @q13 (And.intro @q14 @q15))))); (first | refine G.r1 ?_ | refine G.r2 ?_ | refine G.r3 ?_ | refine G.r0 ?_ | refine G.d0 ?_); (try simp (disch := first | exact dis | fail) only [push_cast, ↓reduceIte, Nat.reduceAdd, Nat.reduceLeDiff, Nat.reduceEqDiff, Nat.reduceLT, Int.reduceToNat, fct]); (try clear fct))
            exact hR h hS
set_option maxHeartbeats 1000000 in
theorem rby_tail {n : Nat} {ρ : Fr} {w' : World} (hr : Rd w eI v sz) (hs : s.length ≤ 100000) (hl : sz.length ≤ 1000) (h : s ≠ [] ∧ anyP sz = true) (q0 : ρ 0 = S s) (q1 : ρ 1 = v) (hS : Sep w w' []) :
    G Try.prog Try.f41 n [.c rbyT] (fun res w' => ∃ out, ByOut s sz out ∧ Sep w w' [accC res 9 eS out]) ρ w' := by
  unfold rbyT c41
  dsimp only
  obtain ⟨h1, h2⟩ := h
  obtain ⟨q, hq, hp⟩ := anyP_ex h2
  have hM := muJ_zero hq hs hl
  simp only [Nat.reduceMul, Nat.reduceAdd] at hM
  (have fct := (And.intro @q0 @q1); repeat' (first | ((with_reducible apply G.a); exact rfl) | refine G.reg fun K hK => ?_ | (with_reducible (refine hK _ _ ?_); clear hK K) | (have hk := hK; clear hk; simp (disch := first | exact dis | fail) only [push_cast, ↓reduceIte, Nat.reduceAdd, Nat.reduceLeDiff, Nat.reduceEqDiff, Nat.reduceLT, Int.reduceToNat, fct]) | (refine brO_n ?_ ?_ <;> intro hb hc <;> first | (with_reducible exact False.elim hc) | (exfalso; omega) | (simp only [hb]; clear hb)) | (refine zbsl ?_; intro gb wb hS) | (refine G.cn ?_ ?_ <;> intro hc <;> first | (with_reducible exact False.elim hc) | (exfalso; omega) | skip))) <;> (try clear fct)
  have hS := hS.nil 9 eS
  refine G.loop (fun r w' => ∃ (j : Nat) (lv : Value), r 0 = S s ∧ r 1 = v ∧ r 8 = lv ∧ r 9 = I (atJ sz s.length j) ∧ (atJ sz s.length j < s.length → j % sz.length = 0) ∧ (∀ i, i < j → atJ sz s.length i < s.length) ∧ j + muJ sz s.length q j ≤ muJ sz s.length q 0 ∧ Sep w w' [accC lv 9 eS (byL s sz j)])
    (fun r _ => s.length - toN (r 9)) ?_ ?_
  · exact ⟨0, _, by simp only [push_cast, ↓reduceIte, Nat.reduceAdd, Nat.reduceLeDiff, Nat.reduceEqDiff, Nat.reduceLT, Int.reduceToNat, q0], by simp only [push_cast, ↓reduceIte, Nat.reduceAdd, Nat.reduceLeDiff, Nat.reduceEqDiff, Nat.reduceLT, Int.reduceToNat, q1], by simp only [push_cast, ↓reduceIte, Nat.reduceAdd, Nat.reduceLeDiff, Nat.reduceEqDiff, Nat.reduceLT, Int.reduceToNat] <;> rfl, by simp only [push_cast, ↓reduceIte, Nat.reduceAdd, Nat.reduceLeDiff, Nat.reduceEqDiff, Nat.reduceLT, Int.reduceToNat] <;> rfl, fun _ => Nat.zero_mod _, by omega, by omega, hS⟩
  · clear hS q0 q1
    rintro u wl ⟨j, lv, q0, q1, q8, q9, hz, hlt, hmu, hS⟩ ih
    have hb := atJ_bd sz s.length (by omega) j
    have hm : toN (u 9) = (atJ sz s.length j).toNat := by rw [q9]; rfl
    by_cases he : atJ sz s.length j < s.length
    · (have fct := (And.intro @q0 (And.intro @q1 (And.intro @q8 @q9))); repeat' (first | ((with_reducible apply G.a); exact rfl) | refine G.reg fun K hK => ?_ | (with_reducible (refine hK _ _ ?_); clear hK K) | (have hk := hK; clear hk; simp (disch := first | exact dis | fail) only [push_cast, ↓reduceIte, Nat.reduceAdd, Nat.reduceLeDiff, Nat.reduceEqDiff, Nat.reduceLT, Int.reduceToNat, fct]) | (refine brO_n ?_ ?_ <;> intro hb hc <;> first | (with_reducible exact False.elim hc) | (exfalso; omega) | (simp only [hb]; clear hb)) | (refine zbsl ?_; intro gb wb hS) | (refine G.cn ?_ ?_ <;> intro hc <;> first | (with_reducible exact False.elim hc) | (exfalso; omega) | skip))) <;> (try clear fct)
      refine G.loop (fun r w' => ∃ (j' : Nat) (i : Nat) (lv : Value), i ≤ sz.length ∧ r 0 = S s ∧ r 1 = v ∧ r 8 = lv ∧ r 9 = I (atJ sz s.length j') ∧ r 37 = v ∧ r 38 = I sz.length ∧ r 39 = I i ∧ (atJ sz s.length j' < s.length → j' % sz.length = if i = sz.length then 0 else i) ∧ (∀ i, i < j' → atJ sz s.length i < s.length) ∧ j' + muJ sz s.length q j' ≤ muJ sz s.length q 0 ∧ (atJ sz s.length j ≤ atJ sz s.length j') ∧ (q < i → atJ sz s.length j < atJ sz s.length j') ∧ Sep w w' [accC lv 9 eS (byL s sz j')])
        (fun r _ => sz.length - toN (r 39)) ?_ ?_
      · have fct := (And.intro @q0 (And.intro @q1 (And.intro @q8 @q9))); exact ⟨j, 0, _, Nat.zero_le _, by exact sf, by exact sf, by exact sf, by exact sf, by exact sf, by exact sf, by exact sf, fun h => by rw [hz h]; simp, hlt, hmu, Int.le_refl _, by omega, hS⟩
      · clear hS hz hlt hmu
        rintro u2 wl2 ⟨j', i, lv, hi, q0, q1, q8, q9, q37, q38, q39, hz, hlt, hmu, hge, hgq, hS⟩ ih2
        have hm2 : toN (u2 39) = i := by rw [q39]; simp [toN]
        have hb2 := atJ_bd sz s.length (by omega) j'
        have hj' : j' ≤ 1000000000 := by omega
        have hbl := byL_len s sz j'
        by_cases hii : (i : Int) < sz.length
        · by_cases he2 : atJ sz s.length j' < s.length
          · have hmj := muJ_step (by omega) hq hp he2
            have hji : j' % sz.length = i := by rw [hz he2, if_neg (by omega)]
            have hat : atJ sz s.length j' + heldI (sz.getD i default) (s.length - atJ sz s.length j') = atJ sz s.length (j' + 1) := by rw [← hji]; rfl
            have hle := atJ_le sz s.length (by omega) j'
            have hb3 := atJ_bd sz s.length (by omega) (j' + 1)
            have hhb := held_bd (sz.getD i default) (s.length - atJ sz s.length j') (by omega)
            have hlt2 : ∀ i, i < j' + 1 → atJ sz s.length i < s.length := fun i hi => by
              rcases Nat.lt_or_ge i j' with h | h
              · exact hlt i h
              · rw [show i = j' by omega]; exact he2
            have hmod : (j' + 1) % sz.length = if i + 1 = sz.length then 0 else i + 1 := by
              rw [← Nat.mod_add_mod, hji]
              split
              · rename_i h; rw [h, Nat.mod_self]
              · exact Nat.mod_eq_of_lt (by omega)
            have hgt : q < i + 1 → atJ sz s.length j < atJ sz s.length (j' + 1) := fun h => by
              rcases Nat.lt_or_ge q i with h3 | h3
              · have := hgq h3; omega
              · have hqi : i = q := by omega
                subst hqi
                have : 1 ≤ heldI (sz.getD i default) (s.length - atJ sz s.length j') := by
                  unfold heldI; rw [if_neg (by omega)]; split <;> omega
                omega
            have hbs := byL_succ s sz j'
            (have fct := (And.intro @q0 (And.intro @q1 (And.intro @q8 (And.intro @q9 (And.intro @q37 (And.intro @q38 (And.intro @q39 @hat))))))); repeat' (first | ((with_reducible apply G.a); exact rfl) | refine G.reg fun K hK => ?_ | (with_reducible (refine hK _ _ ?_); clear hK K) | (have hk := hK; clear hk; simp (disch := first | exact dis | fail) only [push_cast, ↓reduceIte, Nat.reduceAdd, Nat.reduceLeDiff, Nat.reduceEqDiff, Nat.reduceLT, Int.reduceToNat, fct]) | (refine brO_n ?_ ?_ <;> intro hb hc <;> first | (with_reducible exact False.elim hc) | (exfalso; omega) | (simp only [hb]; clear hb)) | (refine zbsl ?_; intro gb wb hS) | (refine zcp 70 (held_spec _ _ _) ?_; intro wb hS) | (refine zap (y := pcJ s sz j') ?_ (hy := by rfl); intro vb wb hS) | (refine G.cn ?_ ?_ <;> intro hc <;> first | (with_reducible exact False.elim hc) | (exfalso; omega) | skip))) <;> (try clear fct)
            all_goals
              have fct := (And.intro @q0 (And.intro @q1 (And.intro @q8 (And.intro @q9 (And.intro @q37 (And.intro @q38 (And.intro @q39 @hat))))))); refine ih2 _ _ ⟨j' + 1, i + 1, _, by omega, by exact sf, by exact sf, by exact sf, by exact sf, by exact sf, by exact sf, by exact sf, fun _ => hmod, hlt2, by omega, by omega, hgt, by rw [hbs]; exact hS⟩ ?_
              rw [hm2]; simp only [push_cast, ↓reduceIte, Nat.reduceAdd, Nat.reduceLeDiff, Nat.reduceEqDiff, Nat.reduceLT, Int.reduceToNat, toN_i, q0, q1, q8, q9, q37, q38, q39]; omega
          · (have fct := (And.intro @q0 (And.intro @q1 (And.intro @q8 (And.intro @q9 (And.intro @q37 (And.intro @q38 @q39)))))); repeat' (first | ((with_reducible apply G.a); exact rfl) | refine G.reg fun K hK => ?_ | (with_reducible (refine hK _ _ ?_); clear hK K) | (have hk := hK; clear hk; simp (disch := first | exact dis | fail) only [push_cast, ↓reduceIte, Nat.reduceAdd, Nat.reduceLeDiff, Nat.reduceEqDiff, Nat.reduceLT, Int.reduceToNat, fct]) | (refine brO_n ?_ ?_ <;> intro hb hc <;> first | (with_reducible exact False.elim hc) | (exfalso; omega) | (simp only [hb]; clear hb)) | (refine zbsl ?_; intro gb wb hS) | (refine G.cn ?_ ?_ <;> intro hc <;> first | (with_reducible exact False.elim hc) | (exfalso; omega) | skip))) <;> (try clear fct)
            all_goals
              have fct := (And.intro @q0 (And.intro @q1 (And.intro @q8 (And.intro @q9 (And.intro @q37 (And.intro @q38 @q39)))))); refine ih2 _ _ ⟨j', i + 1, _, by omega, by exact sf, by exact sf, by exact sf, by exact sf, by exact sf, by exact sf, by exact sf, fun h => absurd h he2, hlt, hmu, hge, fun _ => by omega, hS⟩ ?_
              rw [hm2]; simp only [push_cast, ↓reduceIte, Nat.reduceAdd, Nat.reduceLeDiff, Nat.reduceEqDiff, Nat.reduceLT, Int.reduceToNat, toN_i, q0, q1, q8, q9, q37, q38, q39]; omega
        · have hil : i = sz.length := by omega
          have := hgq (by omega)
          (have fct := (And.intro @q0 (And.intro @q1 (And.intro @q8 (And.intro @q9 (And.intro @q37 (And.intro @q38 @q39)))))); repeat' (first | ((with_reducible apply G.a); exact rfl) | refine G.reg fun K hK => ?_ | (with_reducible (refine hK _ _ ?_); clear hK K) | (have hk := hK; clear hk; simp (disch := first | exact dis | fail) only [push_cast, ↓reduceIte, Nat.reduceAdd, Nat.reduceLeDiff, Nat.reduceEqDiff, Nat.reduceLT, Int.reduceToNat, fct]) | (refine brO_n ?_ ?_ <;> intro hb hc <;> first | (with_reducible exact False.elim hc) | (exfalso; omega) | (simp only [hb]; clear hb)) | (refine zbsl ?_; intro gb wb hS) | (refine G.cn ?_ ?_ <;> intro hc <;> first | (with_reducible exact False.elim hc) | (exfalso; omega) | skip))) <;> (try clear fct)
          all_goals
            have fct := (And.intro @q0 (And.intro @q1 (And.intro @q8 (And.intro @q9 (And.intro @q37 (And.intro @q38 @q39)))))); refine ih _ _ ⟨j', _, by exact sf, by exact sf, by exact sf, by exact sf, fun h => by rw [hz h, if_pos hil], hlt, hmu, hS⟩ ?_
            rw [hm]; simp only [push_cast, ↓reduceIte, Nat.reduceAdd, Nat.reduceLeDiff, Nat.reduceEqDiff, Nat.reduceLT, Int.reduceToNat, toN, q0, q1, q8, q9, q37, q38, q39]; omega
    · (have fct := (And.intro @q0 (And.intro @q1 (And.intro @q8 @q9))); repeat' (first | ((with_reducible apply G.a); exact rfl) | refine G.reg fun K hK => ?_ | (with_reducible (refine hK _ _ ?_); clear hK K) | (have hk := hK; clear hk; simp (disch := first | exact dis | fail) only [push_cast, ↓reduceIte, Nat.reduceAdd, Nat.reduceLeDiff, Nat.reduceEqDiff, Nat.reduceLT, Int.reduceToNat, fct]) | (refine brO_n ?_ ?_ <;> intro hb hc <;> first | (with_reducible exact False.elim hc) | (exfalso; omega) | (simp only [hb]; clear hb)) | (refine zbsl ?_; intro gb wb hS) | (refine G.cn ?_ ?_ <;> intro hc <;> first | (with_reducible exact False.elim hc) | (exfalso; omega) | skip))) <;> (try clear fct)
      all_goals
        (have fct := (And.intro @q0 (And.intro @q1 (And.intro @q8 @q9))); (first | refine G.r1 ?_ | refine G.r2 ?_ | refine G.r3 ?_ | refine G.r0 ?_ | refine G.d0 ?_); (try simp (disch := first | exact dis | fail) only [push_cast, ↓reduceIte, Nat.reduceAdd, Nat.reduceLeDiff, Nat.reduceEqDiff, Nat.reduceLT, Int.reduceToNat, fct]); (try clear fct))
        refine ⟨_, ?_, hS⟩
        unfold ByOut
        rw [if_pos ⟨h1, h2⟩]
        exact ⟨j, ⟨by omega, hlt⟩, rfl⟩
theorem rby_spec (hr : Rd w eI v sz) (hs : s.length ≤ 100000) (hl : sz.length ≤ 1000) : Ret Try.prog 41 #[S s, v] w fun res w' => ∃ out, ByOut s sz out ∧ Sep w w' [accC res 9 eS out] := by
  refine in41 ?_
  change G _ _ _ [.c (rbyV rbyT)] _ _ _
  exact rby_pre hr (fun h q0 q1 hS => rby_tail hr hs hl h q0 q1 hS) fun h hS => ⟨_, by unfold ByOut; rw [if_neg h], hS⟩
end
end Go.Proofs.Ytdhieolfdlkeaaa
