/- Texts of the proof, joined. -/
import Derived.Test.YtdikpaochhacmaaGreatDoorsX16
import Derived.Test.YtdikpaochhacmaaGreatDoorsWe
namespace Go.Proofs.YtdikpaochhacmaaGreatDoor
set_option linter.unusedSimpArgs false
set_option linter.unusedVariables false
open Go.RowKit
theorem valid_92 (s : Str) : validM (92 :: s) = validM s := (valid_app [92] s (by decide +kernel)).1
theorem mkd_iff (s : Str) : mkdM s = true ↔ s = [] ∨ ∃ r, s = 92 :: r := by
  simp only [mkdM, decide_eq_true_eq]
  cases s with
  | nil => simp
  | cons b r => simp
theorem dec_enc (v : Val) (k : Int) (nl : Bool) (hn : i64M v.n) (h : (encM v k nl).2 = 0) : deM (encM v k nl).1 k nl = (v, 0) := by
  unfold encM at h ⊢
  by_cases hk : ¬ (1 ≤ k ∧ k ≤ 3)
  · rw [if_pos hk] at h; simp at h
  rw [if_neg hk] at h ⊢
  by_cases hr : ¬ (rightM v = true ∧ (v.kind = 0 ∨ v.kind = k))
  · rw [if_pos hr] at h; simp at h
  rw [if_neg hr] at h ⊢
  simp only [Decidable.not_not] at hk hr
  have hri := (right_iff v).1 hr.1
  unfold deM
  rw [if_neg (not_not_intro hk)]
  by_cases h0 : v.kind = 0
  · rw [if_pos h0] at h ⊢
    have hnl : nl = true := by
      cases nl with
      | true => rfl
      | false => simp at h
    have hz : v = ⟨0, [], 0, false⟩ := by
      rcases hri with ⟨a, b, c, d⟩ | ⟨a, _⟩ | ⟨a, _⟩ | ⟨a, _⟩
      · exact val_ext a b c d
      · omega
      · omega
      · omega
    subst hnl
    simp [hz]
  · rw [if_neg h0] at h ⊢
    have hvk : v.kind = k := hr.2.resolve_left h0
    by_cases h2 : v.kind = 2
    · rw [if_pos h2]
      have e : v = ⟨2, [], v.n, false⟩ := by
        rcases hri with ⟨a, _⟩ | ⟨a, _⟩ | ⟨a, b, c⟩ | ⟨a, _⟩
        · omega
        · omega
        · exact val_ext a b rfl c
        · omega
      have hp := par_itoa hn.1 hn.2
      have hne := itoa_ne v.n
      simp only [hne, and_false, if_false]
      rw [if_pos (by omega), hp]
      simp [← e]
    · rw [if_neg h2] at h ⊢
      by_cases h3 : v.kind = 3
      · rw [if_pos h3]
        have e : v = ⟨3, [], 0, v.b⟩ := by
          rcases hri with ⟨a, _⟩ | ⟨a, _⟩ | ⟨a, _⟩ | ⟨a, b, c⟩
          · omega
          · omega
          · omega
          · exact val_ext a b c rfl
        have k2 : ¬ k = 2 := by omega
        have k3 : k = 3 := by omega
        cases hb : v.b <;> rw [hb] at e <;> simp [k3, e]
      · rw [if_neg h3] at h ⊢
        have k2 : ¬ k = 2 := by omega
        have k3 : ¬ k = 3 := by omega
        obtain ⟨hv1, e⟩ : validM v.s = true ∧ v = ⟨1, v.s, 0, false⟩ := by
          rcases hri with ⟨a, _⟩ | ⟨a, b, c, d⟩ | ⟨a, _⟩ | ⟨a, _⟩
          · omega
          · exact ⟨b, val_ext a rfl c d⟩
          · omega
          · omega
        by_cases hm : nl = true ∧ mkdM v.s = true
        · rw [if_pos hm]
          have h92 : validM (92 :: v.s) = true := by rw [valid_92]; exact hv1
          have hq : ¬ (v.s ≠ [] ∧ ¬ v.s.take 1 = [92]) := by
            intro hq
            have := hm.2
            simp only [mkdM, decide_eq_true_eq] at this
            rcases this with h | h
            · exact hq.1 h
            · exact hq.2 h
          simp only [reduceCtorEq, and_false, if_false, k2, k3, h92, Bool.true_eq_false, hm.1, List.take_succ_cons, List.take_zero, not_true_eq_false, or_self, List.drop_succ_cons, List.drop_zero, hq]
          rw [← e]
        · rw [if_neg hm]
          have hs0 : ¬ (nl = true ∧ v.s = []) := fun hq => hm ⟨hq.1, by simp [mkdM, hq.2]⟩
          have hs1 : nl = false ∨ ¬ v.s.take 1 = [92] := by
            cases nl with
            | false => exact .inl rfl
            | true => exact .inr fun hq => hm ⟨rfl, by simp [mkdM, hq]⟩
          simp only [hs0, if_false, k2, k3, hv1, Bool.true_eq_false, if_pos hs1]
          rw [← e]
end Go.Proofs.YtdikpaochhacmaaGreatDoor
namespace Go.Proofs.YtdikpaochhacmaaGreatDoor
set_option linter.unusedSimpArgs false
set_option linter.unusedVariables false
attribute [local irreducible] SemK UnitK StK AlcK BslK CallK CallV Instr.box Builtin.append_ Instr.makeSlice Instr.makeMap Instr.lookup Instr.mapUpdate Instr.sliceAt convert
open Go.RowKit
def fieM (v : Val) (nl : Bool) : Str := if v.kind = 2 then Lib.itoa v.n else if v.kind = 3 then (if v.b = true then [116, 114, 117, 101] else [102, 97, 108, 115, 101]) else if v.kind = 1 ∧ nl = true ∧ mkdM v.s = true then 92 :: v.s else v.s
theorem n01b {b : Bool} : (if b = true then (1 : Int) else 0) = 1 ↔ b = true := by cases b <;> simp
theorem n00b {b : Bool} : (if b = true then (1 : Int) else 0) = 0 ↔ b = false := by cases b <;> simp
def c101 : MC := (.seq (.reg [qq 2 (.mv (kb false))]) (.seq (.reg [qm 3 0, qq 4 (.bin .eql (.tmp 3) (.const (S []))), qm 5 4, qmf 5 6 0, qf 5 7 (.idxS (.tmp 6) (ki 0)), qf 5 8 (.bin .eql (.tmp 7) (.const (.int .u8 92))), qq 9 (.pick (.tmp 5) (kb true) (.tmp 8)), qm 2 9]) .ret))
theorem k101 : conv Tryz.prog 10 (Tryz.f101.body.getD .skip) = c101 := by kernel_rfl
theorem in101 {a0 : Value} {w : World} {R : Value → World → Prop} (h : G Tryz.prog Tryz.f101 10 [.c c101] R (frL 0 [a0]) w) : Ret Tryz.prog 101 #[a0] w R := G.enter (args := [a0]) Tryz.func101 (c := Tryz.f101.body.getD .skip) (by kernel_rfl) (by kernel_rfl) (by simp) k101 h
theorem marked_spec (s : Str) (w : World) (hl : s.length ≤ 1000000) : Pu Tryz.prog 101 #[S s] w (.bool (mkdM s)) := by
  refine in101 ?_
  have hS := Sep.start w
  cases s with
  | nil =>
    have hz : (([] : Str) == []) = true := rfl
    (have fct := @hz; repeat' (first | ((with_reducible apply G.a); exact rfl) | refine G.reg fun K hK => ?_ | (with_reducible (refine hK _ _ ?_); clear hK K) | (have hk := hK; clear hk; simp (disch := first | exact dis | fail) only [push_cast, ↓reduceIte, Nat.reduceAdd, Nat.reduceLeDiff, Nat.reduceEqDiff, Nat.reduceLT, Int.reduceToNat, fct]) | (refine brO_n ?_ ?_ <;> intro hb hc <;> first | (with_reducible exact False.elim hc) | (exfalso; omega) | (simp only [hb]; clear hb)))) <;> (try clear fct)
    (have fct := @hz; (first | refine G.r1 ?_ | refine G.r2 ?_ | refine G.r3 ?_ | refine G.r0 ?_ | refine G.d0 ?_); (try simp (disch := first | exact dis | fail) only [push_cast, ↓reduceIte, Nat.reduceAdd, Nat.reduceLeDiff, Nat.reduceEqDiff, Nat.reduceLT, Int.reduceToNat, fct]); (try clear fct))
    exact ⟨rfl, Sep.xt (by assumption)⟩
  | cons b r =>
    have hz : (b :: r == []) = false := by simp
    have e : mkdM (b :: r) = ((b.toNat : Int) == 92) := by
      rw [Bool.eq_iff_iff, mkd_iff]
      simp only [reduceCtorEq, false_or, beq_iff_eq, List.cons.injEq]
      exact ⟨fun ⟨_, h, _⟩ => by rw [h]; rfl, fun h => ⟨r, u8eq16 (c := 92) (n := 92) rfl h, rfl⟩⟩
    rw [e]
    (have fct := @hz; repeat' (first | ((with_reducible apply G.a); exact rfl) | refine G.reg fun K hK => ?_ | (with_reducible (refine hK _ _ ?_); clear hK K) | (have hk := hK; clear hk; simp (disch := first | exact dis | fail) only [push_cast, ↓reduceIte, Nat.reduceAdd, Nat.reduceLeDiff, Nat.reduceEqDiff, Nat.reduceLT, Int.reduceToNat, fct]) | (refine brO_n ?_ ?_ <;> intro hb hc <;> first | (with_reducible exact False.elim hc) | (exfalso; omega) | (simp only [hb]; clear hb)))) <;> (try clear fct)
    (have fct := @hz; (first | refine G.r1 ?_ | refine G.r2 ?_ | refine G.r3 ?_ | refine G.r0 ?_ | refine G.d0 ?_); (try simp (disch := first | exact dis | fail) only [push_cast, ↓reduceIte, Nat.reduceAdd, Nat.reduceLeDiff, Nat.reduceEqDiff, Nat.reduceLT, Int.reduceToNat, fct]); (try clear fct))
    (first | exact Sep.xt (by assumption) | exact ⟨rfl, Sep.xt (by assumption)⟩)
def c72 : MC := (.seq (.reg [qq 2 (.raw (.box 110 (.tmp 0)) 0), qq 3 (.raw (.box 114 (.tmp 1)) 0), qq 4 (.mv (.const (S [])))]) (.seq (.seq (.reg [qq 5 (.fad 0 (.tmp 2)), qq 6 (.ld none (.tmp 5)), qq 7 (.bin .eql (.tmp 6) (ki 2))]) (.cond (.tmp 7) (.seq (.reg [qq 8 (.fad 2 (.tmp 2)), qq 9 (.ld none (.tmp 8)), qq 10 (.call 100 [(.tmp 9)]), qm 4 10]) .ret) .skip)) (.seq (.seq (.reg [qq 11 (.fad 0 (.tmp 2)), qq 12 (.ld none (.tmp 11)), qq 13 (.bin .eql (.tmp 12) (ki 3)), qm 14 13, qt 14 15 (.fad 3 (.tmp 2)), qt 14 16 (.ld none (.tmp 15)), qt 14 17 (.bin .eql (.tmp 16) (ki 1)), qq 18 (.pick (.tmp 14) (.tmp 17) (kb false))]) (.cond (.tmp 18) (.seq (.reg [qq 4 (.mv (.const (S [116, 114, 117, 101])))]) .ret) .skip)) (.seq (.seq (.reg [qq 19 (.fad 0 (.tmp 2)), qq 20 (.ld none (.tmp 19)), qq 21 (.bin .eql (.tmp 20) (ki 3))]) (.cond (.tmp 21) (.seq (.reg [qq 4 (.mv (.const (S [102, 97, 108, 115, 101])))]) .ret) .skip)) (.seq (.seq (.reg [qq 22 (.fad 0 (.tmp 2)), qq 23 (.ld none (.tmp 22)), qq 24 (.bin .eql (.tmp 23) (ki 1)), qm 25 24, qt 25 26 (.fad 1 (.tmp 3)), qt 25 27 (.ld none (.tmp 26)), qt 25 28 (.bin .eql (.tmp 27) (ki 1)), qq 29 (.pick (.tmp 25) (.tmp 28) (kb false)), qm 30 29, qt 30 31 (.fad 1 (.tmp 2)), qt 30 32 (.ld none (.tmp 31)), qt 30 33 (.call 101 [(.tmp 32)]), qq 34 (.pick (.tmp 30) (.tmp 33) (kb false))]) (.cond (.tmp 34) (.seq (.reg [qq 35 (.bsl 5 [(.int .u8 0)] 1 [⟨0, ⟨1, (.const (.int .u8 92))⟩⟩]), qq 36 (.b2s (.tmp 35)), qq 37 (.fad 1 (.tmp 2)), qq 38 (.ld none (.tmp 37)), qq 39 (.bin .add (.tmp 36) (.tmp 38)), qm 4 39]) .ret) .skip)) (.seq (.reg [qq 40 (.fad 1 (.tmp 2)), qq 41 (.ld none (.tmp 40)), qm 4 41]) .ret))))))
theorem k72 : conv Tryz.prog 42 (Tryz.f72.body.getD .skip) = c72 := by kernel_rfl
theorem in72 {a0 a1 : Value} {w : World} {R : Value → World → Prop} (h : G Tryz.prog Tryz.f72 42 [.c c72] R (frL 0 [a0, a1]) w) : Ret Tryz.prog 72 #[a0, a1] w R := G.enter (args := [a0, a1]) Tryz.func72 (c := Tryz.f72.body.getD .skip) (by kernel_rfl) (by kernel_rfl) (by simp) k72 h
theorem field_spec (v : Val) (k : Int) (nl : Bool) (w : World) (hl : v.s.length ≤ 1000000) (hn : i64M v.n) : Pu Tryz.prog 72 #[(.agg #[I v.kind, S v.s, I v.n, I (if v.b = true then 1 else 0)]), (.agg #[I k, I (if nl = true then 1 else 0)])] w (S (fieM v nl)) := by
  refine in72 ?_
  have hS := Sep.start w
  unfold fieM
  repeat' (first | ((with_reducible apply G.a); exact rfl) | refine G.reg fun K hK => ?_ | (with_reducible (refine hK _ _ ?_); clear hK K) | (have hk := hK; clear hk; simp (disch := first | exact dis | fail) only [push_cast, ↓reduceIte, Nat.reduceAdd, Nat.reduceLeDiff, Nat.reduceEqDiff, Nat.reduceLT, Int.reduceToNat, fct]) | (refine brO_n ?_ ?_ <;> intro hb hc <;> first | (with_reducible exact False.elim hc) | (exfalso; omega) | (simp only [hb]; clear hb)) | ((first | refine zbsl ?_ | ((with_reducible refine gBox ?_); refine zbox ?_)); intro gb wb hS) | (refine zcp 100 (rprint_spec (v.n.natAbs + 1) v.n _ (by omega) hn) ?_; intro wb hS) | (refine zcp 101 (marked_spec v.s _ hl) ?_; intro wb hS) | (refine G.cn ?_ ?_ <;> intro hc <;> first | (with_reducible exact False.elim hc) | (exfalso; omega) | skip))
  all_goals
    (first | refine G.r1 ?_ | refine G.r2 ?_ | refine G.r3 ?_ | refine G.r0 ?_ | refine G.d0 ?_); (try simp (disch := first | exact dis | fail) only [push_cast, ↓reduceIte, Nat.reduceAdd, Nat.reduceLeDiff, Nat.reduceEqDiff, Nat.reduceLT, Int.reduceToNat, fct])
    refine ⟨?_, Sep.xt (by assumption)⟩
    clear hS
    congr 1
    (try simp only [n01b, n00b] at *)
    first | (simp_all; done) | grind
theorem enc_fie {v : Val} {k : Int} {nl : Bool} (hk : 1 ≤ k ∧ k ≤ 3) (hr : rightM v = true) (h2 : v.kind = 0 ∨ v.kind = k) (h3 : ¬ (v.kind = 0 ∧ nl = false)) : encM v k nl = (fieM v nl, 0) := by
  have hri := (right_iff v).1 hr
  unfold encM fieM
  rw [if_neg (not_not_intro hk), if_neg (not_not_intro ⟨hr, h2⟩)]
  by_cases h0 : v.kind = 0
  · have hnl : nl = true := by
      cases nl with
      | true => rfl
      | false => exact absurd ⟨h0, rfl⟩ h3
    have hs : v.s = [] := by
      rcases hri with ⟨_, b, _⟩ | ⟨a, _⟩ | ⟨a, _⟩ | ⟨a, _⟩
      · exact b
      · omega
      · omega
      · omega
    rw [if_pos h0, if_pos hnl, if_neg (by omega), if_neg (by omega), if_neg (by omega), hs]
  · rw [if_neg h0]
    by_cases h4 : v.kind = 2
    · rw [if_pos h4, if_pos h4]
    · rw [if_neg h4, if_neg h4]
      by_cases h5 : v.kind = 3
      · rw [if_pos h5, if_pos h5]
      · rw [if_neg h5, if_neg h5]
        have h1 : v.kind = 1 := by omega
        by_cases hm : nl = true ∧ mkdM v.s = true
        · rw [if_pos hm, if_pos ⟨h1, hm⟩]
        · rw [if_neg hm, if_neg (fun h => hm h.2)]
def c42 : MC := (.seq (.reg [qq 2 (.raw (.box 110 (.tmp 0)) 0), qq 3 (.raw (.box 114 (.tmp 1)) 0), qq 4 (.mv (.const (S []))), qq 5 (.mv (ki 0))]) (.seq (.seq (.reg [qq 6 (.fad 0 (.tmp 3)), qq 7 (.ld none (.tmp 6)), qq 8 (.bin .lss (.tmp 7) (ki 1)), qm 9 8, qf 9 10 (.fad 0 (.tmp 3)), qf 9 11 (.ld none (.tmp 10)), qf 9 12 (.bin .gtr (.tmp 11) (ki 3)), qq 13 (.pick (.tmp 9) (kb true) (.tmp 12))]) (.cond (.tmp 13) (.seq (.reg [qq 4 (.mv (.const (S []))), qq 5 (.mv (ki 22))]) .ret) .skip)) (.seq (.seq (.reg [qq 14 (.ld (.some 4) (.tmp 2)), qq 15 (.call 76 [(.tmp 14)]), qq 16 (.un .not (.tmp 15)), qm 17 16, qf 17 18 (.fad 0 (.tmp 2)), qf 17 19 (.ld none (.tmp 18)), qf 17 20 (.bin .neq (.tmp 19) (ki 0)), qmf 17 21 20, qt 21 22 (.fad 0 (.tmp 2)), qt 21 23 (.ld none (.tmp 22)), qt 21 24 (.fad 0 (.tmp 3)), qt 21 25 (.ld none (.tmp 24)), qt 21 26 (.bin .neq (.tmp 23) (.tmp 25)), qf 17 27 (.pick (.tmp 21) (.tmp 26) (kb false)), qq 28 (.pick (.tmp 17) (kb true) (.tmp 27))]) (.cond (.tmp 28) (.seq (.reg [qq 4 (.mv (.const (S []))), qq 5 (.mv (ki 21))]) .ret) .skip)) (.seq (.seq (.reg [qq 29 (.fad 0 (.tmp 2)), qq 30 (.ld none (.tmp 29)), qq 31 (.bin .eql (.tmp 30) (ki 0)), qm 32 31, qt 32 33 (.fad 1 (.tmp 3)), qt 32 34 (.ld none (.tmp 33)), qt 32 35 (.bin .eql (.tmp 34) (ki 0)), qq 36 (.pick (.tmp 32) (.tmp 35) (kb false))]) (.cond (.tmp 36) (.seq (.reg [qq 4 (.mv (.const (S []))), qq 5 (.mv (ki 20))]) .ret) .skip)) (.seq (.reg [qq 37 (.ld (.some 4) (.tmp 2)), qq 38 (.ld (.some 2) (.tmp 3)), qq 39 (.call 72 [(.tmp 37), (.tmp 38)]), qm 4 39, qq 5 (.mv (ki 0))]) .ret)))))
theorem k42 : conv Tryz.prog 40 (Tryz.f42.body.getD .skip) = c42 := by kernel_rfl
theorem in42 {a0 a1 : Value} {w : World} {R : Value → World → Prop} (h : G Tryz.prog Tryz.f42 40 [.c c42] R (frL 0 [a0, a1]) w) : Ret Tryz.prog 42 #[a0, a1] w R := G.enter (args := [a0, a1]) Tryz.func42 (c := Tryz.f42.body.getD .skip) (by kernel_rfl) (by kernel_rfl) (by simp) k42 h
theorem renc_spec (v : Val) (k : Int) (nl : Bool) (w : World) (hl : v.s.length ≤ 1000000) (hn : i64M v.n) : Pu Tryz.prog 42 #[(.agg #[I v.kind, S v.s, I v.n, I (if v.b = true then 1 else 0)]), (.agg #[I k, I (if nl = true then 1 else 0)])] w (.tuple #[S (encM v k nl).1, I (encM v k nl).2]) := by
  refine in42 ?_
  have hS := Sep.start w
  repeat' (first | ((with_reducible apply G.a); exact rfl) | refine G.reg fun K hK => ?_ | (with_reducible (refine hK _ _ ?_); clear hK K) | (have hk := hK; clear hk; simp (disch := first | exact dis | fail) only [push_cast, ↓reduceIte, Nat.reduceAdd, Nat.reduceLeDiff, Nat.reduceEqDiff, Nat.reduceLT, Int.reduceToNat, fct]) | (refine brO_n ?_ ?_ <;> intro hb hc <;> first | (with_reducible exact False.elim hc) | (exfalso; omega) | (simp only [hb]; clear hb)) | (((with_reducible refine gBox ?_); refine zbox ?_); intro gb wb hS) | (refine zcp 76 (rright17_spec v _ hl) ?_; intro wb hS) | (refine zcp 72 (field_spec v k nl _ hl hn) ?_; intro wb hS) | (refine G.cn ?_ ?_ <;> intro hc <;> first | (with_reducible exact False.elim hc) | (exfalso; omega) | skip))
  all_goals
    (first | refine G.r1 ?_ | refine G.r2 ?_ | refine G.r3 ?_ | refine G.r0 ?_ | refine G.d0 ?_); (try simp (disch := first | exact dis | fail) only [push_cast, ↓reduceIte, Nat.reduceAdd, Nat.reduceLeDiff, Nat.reduceEqDiff, Nat.reduceLT, Int.reduceToNat, fct])
    refine ⟨enc_fin ?_, Sep.xt (by assumption)⟩
    clear hS
    (try simp only [n01b, n00b] at *)
    first
      | (rw [enc_fie (by constructor <;> assumption) (by assumption) (by first | exact .inl (by assumption) | exact .inr (by assumption)) (by simp_all)]; done)
      | (unfold encM; simp_all; done)
      | (unfold encM; grind)
end Go.Proofs.YtdikpaochhacmaaGreatDoor
