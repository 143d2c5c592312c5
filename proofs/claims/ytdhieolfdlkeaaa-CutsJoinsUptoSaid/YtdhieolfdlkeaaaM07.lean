/- Chapter 07: the laws CutsAt, CutsJoins, walked. -/
import Derived.Test.YtdhieolfdlkeaaaL07
import Derived.Test.YtdhieolfdlkeaaaJn
namespace Go.Proofs.Ytdhieolfdlkeaaa
set_option linter.unusedSimpArgs false
set_option linter.unusedVariables false
attribute [local irreducible] SemK UnitK StK AlcK BslK CallK CallV Instr.box Builtin.append_ Instr.makeSlice Instr.makeMap Instr.lookup Instr.mapUpdate Instr.sliceAt convert
open Go.RowKit
def c50 : MC := (.seq (.reg [qq 2 (.mv (.const (S [])))]) (.seq (.reg [qm 3 0, qq 4 (.call 74 [(.tmp 3), (.const (S []))]), qm 2 4]) .ret))
theorem k50 : conv Try.prog 5 (Try.f50.body.getD .skip) = c50 := by kernel_rfl
theorem in50 {a0 : Value} {w : World} {R : Value → World → Prop} (h : G Try.prog Try.f50 5 [.c c50] R (frL 0 [a0]) w) : Ret Try.prog 50 #[a0] w R := G.enter (args := [a0]) Try.func50 (c := Try.f50.body.getD .skip) (by kernel_rfl) (by kernel_rfl) (by simp) k50 h
theorem cjoin_spec {v : Value} {xs : List Str} {w : World} (hr : Rd w eS v xs) (hb : xs.flatten.length ≤ 140737488355328) (hl : xs.length ≤ 1000000) : Pu Try.prog 50 #[v] w (S xs.flatten) := by
  refine in50 ?_
  have hS := Sep.start w
  repeat' (first | ((with_reducible apply G.a); exact rfl) | refine G.reg fun K hK => ?_ | (with_reducible (refine hK _ _ ?_); clear hK K) | (have hk := hK; clear hk; simp (disch := first | exact dis | fail) only [push_cast, ↓reduceIte, Nat.reduceAdd, Nat.reduceLeDiff, Nat.reduceEqDiff, Nat.reduceLT, Int.reduceToNat, fct]) | (refine zcp 74 (join_spec (hr.ext hS.x) hb hl) ?_; intro wb hS))
  (first | refine G.r1 ?_ | refine G.r2 ?_ | refine G.r3 ?_ | refine G.r0 ?_ | refine G.d0 ?_); (try simp (disch := first | exact dis | fail) only [push_cast, ↓reduceIte, Nat.reduceAdd, Nat.reduceLeDiff, Nat.reduceEqDiff, Nat.reduceLT, Int.reduceToNat, fct])
  exact Sep.xt (by assumption)
def c14 : MC := (.seq (.reg [qq 2 (.mv (kb false))]) (.seq (.seq (.reg [qm 3 0, qq 4 (.len (.tmp 3)), qq 5 (.bin .gtr (.tmp 4) (ki 60))]) (.cond (.tmp 5) (.seq (.reg [qq 6 (.call 39 []), qm 2 6]) .ret) .skip)) (.seq (.reg [qm 7 0, qq 8 (.call 50 [(.tmp 7)]), qm 9 0, qq 10 (.call 42 [(.tmp 9)]), qq 11 (.bin .eql (.tmp 8) (.tmp 10)), qm 12 11, qt 12 13 (.call 39 []), qq 14 (.pick (.tmp 12) (.tmp 13) (kb false)), qm 2 14]) .ret)))
theorem k14 : conv Try.prog 15 (Try.f14.body.getD .skip) = c14 := by kernel_rfl
theorem in14 {a0 : Value} {w : World} {R : Value → World → Prop} (h : G Try.prog Try.f14 15 [.c c14] R (frL 0 [a0]) w) : Ret Try.prog 14 #[a0] w R := G.enter (args := [a0]) Try.func14 (c := Try.f14.body.getD .skip) (by kernel_rfl) (by kernel_rfl) (by simp) k14 h
theorem law_cutsjoins {v : Value} {xs : List Str} {w : World} (hr : Rd w eS v xs) (hb : xs.flatten.length ≤ 140737488355328) : Pu Try.prog 14 #[v] w (.bool true) := by
  refine in14 ?_
  have hS := Sep.start w
  by_cases hl : (xs.length : Int) ≤ 60
  · have h3 : ∀ {w : World}, Rd w eS v xs → Pu Try.prog 42 #[v] w (S xs.flatten) := fun h => joined_spec h (by omega)
    repeat' (first | ((with_reducible apply G.a); exact rfl) | refine G.reg fun K hK => ?_ | (with_reducible (refine hK _ _ ?_); clear hK K) | (have hk := hK; clear hk; simp (disch := first | exact dis | fail) only [push_cast, ↓reduceIte, Nat.reduceAdd, Nat.reduceLeDiff, Nat.reduceEqDiff, Nat.reduceLT, Int.reduceToNat, fct]) | (refine brO_n ?_ ?_ <;> intro hb hc <;> first | (with_reducible exact False.elim hc) | (exfalso; omega) | (simp only [hb]; clear hb)) | (refine zcp 39 (awake7_spec _) ?_; intro wb hS) | (refine zcp 50 (cjoin_spec (hr.ext hS.x) hb (by omega)) ?_; intro wb hS) | (refine zcp 42 (h3 (hr.ext hS.x)) ?_; intro wb hS) | (refine G.cn ?_ ?_ <;> intro hc <;> first | (with_reducible exact False.elim hc) | (exfalso; omega) | skip))
    all_goals
      (first | refine G.r1 ?_ | refine G.r2 ?_ | refine G.r3 ?_ | refine G.r0 ?_ | refine G.d0 ?_); (try simp (disch := first | exact dis | fail) only [push_cast, ↓reduceIte, Nat.reduceAdd, Nat.reduceLeDiff, Nat.reduceEqDiff, Nat.reduceLT, Int.reduceToNat, fct])
      exact Sep.xt (by assumption)
  · repeat' (first | ((with_reducible apply G.a); exact rfl) | refine G.reg fun K hK => ?_ | (with_reducible (refine hK _ _ ?_); clear hK K) | (have hk := hK; clear hk; simp (disch := first | exact dis | fail) only [push_cast, ↓reduceIte, Nat.reduceAdd, Nat.reduceLeDiff, Nat.reduceEqDiff, Nat.reduceLT, Int.reduceToNat, fct]) | (refine brO_n ?_ ?_ <;> intro hb hc <;> first | (with_reducible exact False.elim hc) | (exfalso; omega) | (simp only [hb]; clear hb)) | (refine zcp 39 (awake7_spec _) ?_; intro wb hS) | (refine G.cn ?_ ?_ <;> intro hc <;> first | (with_reducible exact False.elim hc) | (exfalso; omega) | skip))
    all_goals
      (first | refine G.r1 ?_ | refine G.r2 ?_ | refine G.r3 ?_ | refine G.r0 ?_ | refine G.d0 ?_); (try simp (disch := first | exact dis | fail) only [push_cast, ↓reduceIte, Nat.reduceAdd, Nat.reduceLeDiff, Nat.reduceEqDiff, Nat.reduceLT, Int.reduceToNat, fct])
      exact Sep.xt (by assumption)
def c13l1 : MC := (.seq (.reg [qq 26 (.bin .lss (.tmp 25) (.tmp 24))]) (.seq (.cond (.tmp 26) .skip (.exit 0)) (.seq (.blk 1 (.seq (.reg [qm 27 25, qm 7 27]) (.seq (.drg [qm 28 5, qm 29 7, qq 30 (.adr 1 (.tmp 28) (.tmp 29)), qq 31 (.ld none (.tmp 30)), qm 32 1, qm 33 7, qq 34 (.adr 1 (.tmp 32) (.tmp 33)), qq 35 (.ld none (.tmp 34)), qq 36 (.bin .neq (.tmp 31) (.tmp 35))] none) (.cond (.tmp 36) (.seq (.reg [qq 4 (.mv (kb false))]) .ret) .skip)))) (.reg [qq 37 (.bin .add (.tmp 25) (ki 1)), qm 25 37]))))
def c13 : MC := (.seq (.reg [qq 4 (.mv (kb false))]) (.seq (.seq (.reg [qm 8 0, qq 9 (.lenS (.tmp 8)), qq 10 (.bin .gtr (.tmp 9) (ki 200)), qm 11 10, qmf 11 12 1, qf 11 13 (.len (.tmp 12)), qf 11 14 (.bin .gtr (.tmp 13) (ki 40)), qq 15 (.pick (.tmp 11) (kb true) (.tmp 14))]) (.cond (.tmp 15) (.seq (.reg [qq 16 (.call 39 []), qm 4 16]) .ret) .skip)) (.seq (.reg [qq 17 (.bsl 3 [] 0 []), qm 18 1, qq 19 (.raw (.call ⟨(.builtin .append), #[(.tmp 17), (.tmp 18)], #[58, 58]⟩) 58), qm 5 19]) (.seq (.reg [qm 20 0, qm 21 5, qq 22 (.call 49 [(.tmp 20), (.tmp 21)]), qm 6 22]) (.seq (.seq (.reg [qm 23 5, qq 24 (.len (.tmp 23)), qq 25 (.mv (ki 0))]) (.blk 0 (.loop c13l1))) (.seq (.reg [qm 38 6, qm 39 0, qm 40 1, qq 41 (.call 48 [(.tmp 39), (.tmp 40)]), qq 42 (.call 24 [(.tmp 38), (.tmp 41)]), qm 43 42, qmt 43 44 6, qt 43 45 (.call 42 [(.tmp 44)]), qmt 43 46 0, qt 43 47 (.bin .eql (.tmp 45) (.tmp 46)), qq 48 (.pick (.tmp 43) (.tmp 47) (kb false)), qm 49 48, qmt 49 50 6, qt 49 51 (.call 50 [(.tmp 50)]), qmt 49 52 0, qt 49 53 (.bin .eql (.tmp 51) (.tmp 52)), qq 54 (.pick (.tmp 49) (.tmp 53) (kb false)), qm 55 54, qt 55 56 (.call 39 []), qq 57 (.pick (.tmp 55) (.tmp 56) (kb false)), qm 4 57]) .ret))))))
theorem k13 : conv Try.prog 58 (Try.f13.body.getD .skip) = c13 := by kernel_rfl
theorem in13 {a0 a1 : Value} {w : World} {R : Value → World → Prop} (h : G Try.prog Try.f13 58 [.c c13] R (frL 0 [a0, a1]) w) : Ret Try.prog 13 #[a0, a1] w R := G.enter (args := [a0, a1]) Try.func13 (c := Try.f13.body.getD .skip) (by kernel_rfl) (by kernel_rfl) (by simp) k13 h
set_option maxHeartbeats 1000000 in
theorem law_cutsat {v : Value} (s : Str) (sz : List Int) (w : World) (hr : Rd w eI v sz) (hs : s.length ≤ 9223372036854775807) : Pu Try.prog 13 #[S s, v] w (.bool true) := by
  refine in13 ?_
  have hS := Sep.start w
  by_cases hb : (s.length : Int) ≤ 200 ∧ (sz.length : Int) ≤ 40
  · obtain ⟨hb1, hb2⟩ := hb
    have h1 : ∀ {w : World} {v : Value}, Rd w eI v sz → _ := fun {w v} h => at_spec7 (w := w) (v := v) (s := s) h (by omega) (by omega)
    have h2 : ∀ {w : World}, Rd w eI v sz → _ := fun {w} h => rat7_spec (w := w) (v := v) (s := s) h (by omega) (by omega)
    have hfl := atP_flat s sz
    have hal : (atP s sz).length ≤ 1000 := by
      have e0 : atP s sz = cutL s 0 (srt (heldL sz s.length)) ++ [s.drop (lastI 0 (srt (heldL sz s.length))).toNat] := rfl
      rw [e0, List.length_append, cutL_len, srt_len, heldL_len]; simp; omega
    generalize hat : atP s sz = out at *
    have h3 : ∀ {w : World} {v2 : Value}, Rd w eS v2 out → Pu Try.prog 42 #[v2] w (S s) := fun {w v2} h => by
      have := joined_spec h (by rw [hfl]; omega)
      rwa [hfl] at this
    have h4 : ∀ {w : World} {v2 : Value}, Rd w eS v2 out → Pu Try.prog 50 #[v2] w (S s) := fun {w v2} h => by
      have := cjoin_spec h (by rw [hfl]; omega) (by omega)
      rwa [hfl] at this
    repeat' (first | ((with_reducible apply G.a); exact rfl) | refine G.reg fun K hK => ?_ | (with_reducible (refine hK _ _ ?_); clear hK K) | (with_reducible (refine hK _ ?_); clear hK K; intro wd hxd; have hS := Sep.xx hxd) | (have hk := hK; clear hk; simp (disch := first | exact dis | fail) only [push_cast, ↓reduceIte, Nat.reduceAdd, Nat.reduceLeDiff, Nat.reduceEqDiff, Nat.reduceLT, Int.reduceToNat, fct]) | ((first | refine brO_n ?_ ?_ | refine brQ_n ?_ ?_) <;> intro hb hc <;> first | (with_reducible exact False.elim hc) | (exfalso; omega) | (simp only [hb]; clear hb)) | (refine zbsl ?_; intro gb wb hS) | (refine zcp 39 (awake7_spec _) ?_; intro wb hS) | refine G.drg mixed fun K hK => ?_ | (refine G.cn ?_ ?_ <;> intro hc <;> first | (with_reducible exact False.elim hc) | (exfalso; omega) | skip))
    have hS := Sep.toAcc (E := eI) ([] : List Int) hS Up.h rfl rfl (by simp) (by simp)
    ((refine zan ?_; intro vb wb hS))
    simp only [List.nil_append] at hS
    obtain ⟨vo, rfl⟩ : ∃ vo, vo = vb := ⟨_, rfl⟩
    repeat' (first | ((with_reducible apply G.a); exact rfl) | refine G.reg fun K hK => ?_ | (with_reducible (refine hK _ _ ?_); clear hK K) | (with_reducible (refine hK _ ?_); clear hK K; intro wd hxd; have hS := Sep.xx hxd) | (have hk := hK; clear hk; simp (disch := first | exact dis | fail) only [push_cast, ↓reduceIte, Nat.reduceAdd, Nat.reduceLeDiff, Nat.reduceEqDiff, Nat.reduceLT, Int.reduceToNat, fct]) | ((first | refine brO_n ?_ ?_ | refine brQ_n ?_ ?_) <;> intro hb hc <;> first | (with_reducible exact False.elim hc) | (exfalso; omega) | (simp only [hb]; clear hb)) | (refine zbsl ?_; intro gb wb hS) | (refine zcp 39 (awake7_spec _) ?_; intro wb hS) | (refine zco 49 (h1 (Sep.rd hS (by repeat constructor))) ?_; rintro vb wb hS2; have hS := hS2.ap; simp only [apps] at hS) | refine G.drg mixed fun K hK => ?_ | (refine G.cn ?_ ?_ <;> intro hc <;> first | (with_reducible exact False.elim hc) | (exfalso; omega) | skip))
    refine G.loop (fun r w' => ∃ k : Nat, k ≤ sz.length ∧ r 0 = S s ∧ r 1 = v ∧ r 5 = vo ∧ r 6 = vb ∧ r 24 = I sz.length ∧ r 25 = I k ∧ Sep w w' [accC vb 9 eS out, accC vo 3 eI sz]) (fun r _ => sz.length - toN (r 25)) ?_ ?_
    · exact ⟨0, Nat.zero_le _, by exact sf, by exact sf, by exact sf, by exact sf, by exact sf, by exact sf, hS⟩
    · clear hS
      rintro u wl ⟨k, hk, q0, q1, q5, q6, q24, q25, hS⟩ ih
      have hm : toN (u 25) = k := by rw [q25]; simp [toN]
      by_cases hkk : (k : Int) < sz.length
      · (have fct := (And.intro @q0 (And.intro @q1 (And.intro @q5 (And.intro @q6 (And.intro @q24 @q25))))); repeat' (first | ((with_reducible apply G.a); exact rfl) | refine G.reg fun K hK => ?_ | (with_reducible (refine hK _ _ ?_); clear hK K) | (with_reducible (refine hK _ ?_); clear hK K; intro wd hxd; have hS := Sep.xx hxd) | (have hk := hK; clear hk; simp (disch := first | exact dis | fail) only [push_cast, ↓reduceIte, Nat.reduceAdd, Nat.reduceLeDiff, Nat.reduceEqDiff, Nat.reduceLT, Int.reduceToNat, fct]) | ((first | refine brO_n ?_ ?_ | refine brQ_n ?_ ?_) <;> intro hb hc <;> first | (with_reducible exact False.elim hc) | (exfalso; omega) | (simp only [hb]; clear hb)) | (refine zbsl ?_; intro gb wb hS) | refine G.drg mixed fun K hK => ?_ | (refine G.cn ?_ ?_ <;> intro hc <;> first | (with_reducible exact False.elim hc) | (exfalso; omega) | skip))) <;> (try clear fct)
        all_goals
          have fct := (And.intro @q0 (And.intro @q1 (And.intro @q5 (And.intro @q6 (And.intro @q24 @q25))))); refine ih _ _ ⟨k + 1, by omega, by exact sf, by exact sf, by exact sf, by exact sf, by exact sf, by exact sf, hS⟩ ?_
          rw [hm]; simp only [push_cast, ↓reduceIte, Nat.reduceAdd, Nat.reduceLeDiff, Nat.reduceEqDiff, Nat.reduceLT, Int.reduceToNat, toN_i, q0, q1, q5, q6, q24, q25]; omega
      · (have fct := (And.intro @q0 (And.intro @q1 (And.intro @q5 (And.intro @q6 (And.intro @q24 @q25))))); repeat' (first | ((with_reducible apply G.a); exact rfl) | refine G.reg fun K hK => ?_ | (with_reducible (refine hK _ _ ?_); clear hK K) | (with_reducible (refine hK _ ?_); clear hK K; intro wd hxd; have hS := Sep.xx hxd) | (have hk := hK; clear hk; simp (disch := first | exact dis | fail) only [push_cast, ↓reduceIte, Nat.reduceAdd, Nat.reduceLeDiff, Nat.reduceEqDiff, Nat.reduceLT, Int.reduceToNat, fct]) | ((first | refine brO_n ?_ ?_ | refine brQ_n ?_ ?_) <;> intro hb hc <;> first | (with_reducible exact False.elim hc) | (exfalso; omega) | (simp only [hb]; clear hb)) | (refine zbsl ?_; intro gb wb hS) | (refine zcp 39 (awake7_spec _) ?_; intro wb hS) | (refine zco 48 (h2 (Rd.old hr hS)) ?_; rintro vb wb hS2; have hS := hS2.ap; simp only [apps] at hS) | (refine zcp 24 (same05_spec (a := out) (b := out) (Sep.rd hS (by repeat constructor)) (Sep.rd hS (by repeat constructor))) ?_; intro wb hS) | (refine zcp 42 (h3 (Sep.rd hS (by repeat constructor))) ?_; intro wb hS) | (refine zcp 50 (h4 (Sep.rd hS (by repeat constructor))) ?_; intro wb hS) | refine G.drg mixed fun K hK => ?_ | (refine G.cn ?_ ?_ <;> intro hc <;> first | (with_reducible exact False.elim hc) | (exfalso; omega) | skip))) <;> (try clear fct)
        all_goals
          (first | refine G.r1 ?_ | refine G.r2 ?_ | refine G.r3 ?_ | refine G.r0 ?_ | refine G.d0 ?_); (try simp (disch := first | exact dis | fail) only [push_cast, ↓reduceIte, Nat.reduceAdd, Nat.reduceLeDiff, Nat.reduceEqDiff, Nat.reduceLT, Int.reduceToNat, fct])
          exact Sep.xt (by assumption)
  · repeat' (first | ((with_reducible apply G.a); exact rfl) | refine G.reg fun K hK => ?_ | (with_reducible (refine hK _ _ ?_); clear hK K) | (with_reducible (refine hK _ ?_); clear hK K; intro wd hxd; have hS := Sep.xx hxd) | (have hk := hK; clear hk; simp (disch := first | exact dis | fail) only [push_cast, ↓reduceIte, Nat.reduceAdd, Nat.reduceLeDiff, Nat.reduceEqDiff, Nat.reduceLT, Int.reduceToNat, fct]) | ((first | refine brO_n ?_ ?_ | refine brQ_n ?_ ?_) <;> intro hb hc <;> first | (with_reducible exact False.elim hc) | (exfalso; omega) | (simp only [hb]; clear hb)) | (refine zbsl ?_; intro gb wb hS) | (refine zcp 39 (awake7_spec _) ?_; intro wb hS) | refine G.drg mixed fun K hK => ?_ | (refine G.cn ?_ ?_ <;> intro hc <;> first | (with_reducible exact False.elim hc) | (exfalso; omega) | skip))
    all_goals
      (first | refine G.r1 ?_ | refine G.r2 ?_ | refine G.r3 ?_ | refine G.r0 ?_ | refine G.d0 ?_); (try simp (disch := first | exact dis | fail) only [push_cast, ↓reduceIte, Nat.reduceAdd, Nat.reduceLeDiff, Nat.reduceEqDiff, Nat.reduceLT, Int.reduceToNat, fct])
      exact Sep.xt (by assumption)
end Go.Proofs.Ytdhieolfdlkeaaa
