/- Texts of the proof, joined. -/
import Derived.Test.YtdikpaochhacmaaGreatDoorqA20
import Derived.Test.YtdikpaochhacmaaGreatDoorqD20
namespace Go.Proofs.YtdikpaochhacmaaGreatDoor
set_option linter.unusedSimpArgs false
set_option linter.unusedVariables false
attribute [local irreducible] SemK UnitK StK AlcK BslK CallK CallV Instr.box Builtin.append_ Instr.makeSlice Instr.makeMap Instr.lookup Instr.mapUpdate Instr.sliceAt convert
open Go.RowKit
theorem fewC_len {l : List Col} (h : fewC l = true) : l.length ≤ 12 ∧ ∀ c ∈ l, c.name.length ≤ 40 := by
  unfold fewC at h
  rw [Bool.and_eq_true, decide_eq_true_eq, List.all_eq_true] at h
  exact ⟨h.2, fun c hc => of_decide_eq_true (h.1 c hc)⟩
theorem shortR_len {l : List Val} (h : shortR l = true) : l.length ≤ 12 ∧ ∀ v ∈ l, v.s.length ≤ 40 := by
  unfold shortR at h
  rw [Bool.and_eq_true, decide_eq_true_eq, List.all_eq_true] at h
  exact ⟨h.1, fun c hc => of_decide_eq_true (h.2 c hc)⟩
theorem rdT_one {w : World} {g n : Nat} {t : TypeId} {v : Value} {l : List Val} (h : Blk w g t #[v]) (hn : n = 1) (h1 : Rd w eVal v l) : RdT w eVal (.slice (some ⟨g, 0, none⟩) n n) [l] := by
  subst hn
  refine ⟨[v], blk_rd (ys := [v]) (E := eV) (by simpa [eV] using h) rfl (Nat.le_refl _) (by simp) (fun u hu => ?_), rfl, fun i hi => ?_⟩
  · simp [eV] at hu; subst hu; exact h1.one
  · have h0 : i = 0 := by simpa using hi
    subst h0; exact h1
def c4l1 : MC := (.seq (.reg [qq 39 (.bin .lss (.tmp 38) (.tmp 37))]) (.seq (.cond (.tmp 39) .skip (.exit 0)) (.seq (.blk 1 (.seq (.reg [qq 40 (.adr 1 (.tmp 36) (.tmp 38)), qq 41 (.ld none (.tmp 40)), qm 8 41]) (.seq (.reg [qm 42 8, qq 43 (.lenS (.tmp 42)), qq 44 (.bin .gtr (.tmp 43) (ki 60))]) (.cond (.tmp 44) (.seq (.reg [qq 45 (.call 8 []), qm 6 45]) .ret) .skip)))) (.reg [qq 46 (.bin .add (.tmp 38) (ki 1)), qm 38 46]))))
def c4 : MC := (.seq (.reg [qq 6 (.mv (kb false))]) (.seq (.seq (.reg [qm 21 2, qq 22 (.call 7 [(.tmp 21)]), qq 23 (.un .not (.tmp 22)), qm 24 23, qmf 24 25 0, qf 24 26 (.len (.tmp 25)), qf 24 27 (.bin .gtr (.tmp 26) (ki 12)), qq 28 (.pick (.tmp 24) (kb true) (.tmp 27)), qm 29 28, qmf 29 30 1, qf 29 31 (.bsl 50 [(.slice none 0 0)] 1 [⟨0, ⟨1, (.tmp 30)⟩⟩]), qf 29 32 (.call 16 [(.tmp 31)]), qf 29 33 (.un .not (.tmp 32)), qq 34 (.pick (.tmp 29) (kb true) (.tmp 33))]) (.cond (.tmp 34) (.seq (.reg [qq 35 (.call 8 []), qm 6 35]) .ret) .skip)) (.seq (.seq (.reg [qm 36 0, qq 37 (.len (.tmp 36)), qq 38 (.mv (ki 0))]) (.blk 0 (.loop c4l1))) (.seq (.reg [qm 48 0, qm 49 2, qq 50 (.call 17 [(.tmp 48), (.tmp 49)]), qm 47 50, qq 51 (.ext 0 (.tmp 47)), qq 52 (.ext 1 (.tmp 47)), qq 53 (.ext 2 (.tmp 47)), qm 9 51, qm 10 52, qm 11 53]) (.seq (.reg [qm 55 0, qm 56 2, qq 57 (.call 12 [(.tmp 56)]), qq 58 (.call 18 [(.tmp 55), (.tmp 57)]), qm 54 58, qq 59 (.ext 0 (.tmp 54)), qq 60 (.ext 1 (.tmp 54)), qq 61 (.ext 2 (.tmp 54)), qm 12 59, qm 13 60, qm 14 61]) (.seq (.reg [qm 63 1, qm 64 2, qq 65 (.call 19 [(.tmp 63), (.tmp 64)]), qm 62 65, qq 66 (.ext 0 (.tmp 62)), qq 67 (.ext 1 (.tmp 62)), qq 68 (.ext 2 (.tmp 62)), qm 15 66, qm 16 67, qm 17 68]) (.seq (.reg [qm 70 1, qq 71 (.call 21 [(.tmp 70)]), qm 72 2, qq 73 (.call 12 [(.tmp 72)]), qq 74 (.call 20 [(.tmp 71), (.tmp 73)]), qm 69 74, qq 75 (.ext 0 (.tmp 69)), qq 76 (.ext 1 (.tmp 69)), qq 77 (.ext 2 (.tmp 69)), qm 18 75, qm 19 76, qm 20 77]) (.seq (.reg [qm 78 9, qq 79 (.call 21 [(.tmp 78)]), qm 80 12, qq 81 (.call 22 [(.tmp 79), (.tmp 80)]), qm 82 81, qmt 82 83 10, qmt 82 84 13, qt 82 85 (.bin .eql (.tmp 83) (.tmp 84)), qq 86 (.pick (.tmp 82) (.tmp 85) (kb false)), qm 87 86, qmt 87 88 11, qmt 87 89 14, qt 87 90 (.bin .eql (.tmp 88) (.tmp 89)), qq 91 (.pick (.tmp 87) (.tmp 90) (kb false)), qm 92 91, qmt 92 93 15, qmt 92 94 18, qt 92 95 (.call 23 [(.tmp 93), (.tmp 94)]), qq 96 (.pick (.tmp 92) (.tmp 95) (kb false)), qm 97 96, qmt 97 98 16, qmt 97 99 19, qt 97 100 (.bin .eql (.tmp 98) (.tmp 99)), qq 101 (.pick (.tmp 97) (.tmp 100) (kb false)), qm 102 101, qmt 102 103 17, qmt 102 104 20, qt 102 105 (.bin .eql (.tmp 103) (.tmp 104)), qq 106 (.pick (.tmp 102) (.tmp 105) (kb false)), qm 107 106, qt 107 108 (.call 8 []), qq 109 (.pick (.tmp 107) (.tmp 108) (kb false)), qm 6 109]) .ret))))))))
theorem k4 : conv Tryz.prog 110 (Tryz.f4.body.getD .skip) = c4 := by kernel_rfl
theorem in4 {a0 a1 a2 : Value} {w : World} {R : Value → World → Prop} (h : G Tryz.prog Tryz.f4 110 [.c c4] R (frL 0 [a0, a1, a2]) w) : Ret Tryz.prog 4 #[a0, a1, a2] w R := G.enter (args := [a0, a1, a2]) Tryz.func4 (c := Tryz.f4.body.getD .skip) (by kernel_rfl) (by kernel_rfl) (by simp) k4 h
set_option maxHeartbeats 2000000 in
theorem law_trows {v0 v1 v2 : Value} {r : List Str} {v : List Val} {l : List Col} {w : World} (h0 : Rd w eS v0 r) (h1 : Rd w eVal v1 v) (h2 : Rd w eC v2 l) (hn : ∀ x ∈ v, i64M x.n) (hv : ErrV w) (ht : Tab w) : Pu Tryz.prog 4 #[v0, v1, v2] w (.bool true) := by
  refine in4 ?_
  have hS := Sep.start w
  have hbd := h0.bd
  cases hf : fewC l
  · (have fct := @hf; repeat' (first | ((with_reducible apply G.a); exact rfl) | refine G.reg fun K hK => ?_ | (with_reducible (refine hK _ _ ?_); clear hK K) | (have hk := hK; clear hk; simp (disch := first | exact dis | fail) only [push_cast, ↓reduceIte, Nat.reduceAdd, Nat.reduceLeDiff, Nat.reduceEqDiff, Nat.reduceLT, Int.reduceToNat, fct]) | (refine brO_n ?_ ?_ <;> intro hb hc <;> first | (with_reducible exact False.elim hc) | (exfalso; omega) | (simp only [hb]; clear hb)) | (refine zbsl ?_; intro gb wb hS) | (refine zcp 7 (few20_spec (h2.ext hS.x)) ?_; intro wb hS) | (refine zcp 8 (awake20_spec _ (hv.ext hS.x)) ?_; intro wb hS) | (refine zcp 16 (small20_spec (rdT_one (Sep.blk hS (by repeat constructor)) rfl (h1.ext hS.x))) ?_; intro wb hS) | (refine G.cn ?_ ?_ <;> intro hc <;> first | (with_reducible exact False.elim hc) | (exfalso; omega) | skip))) <;> (try clear fct)
    all_goals
      (first | refine G.r1 ?_ | refine G.r2 ?_ | refine G.r3 ?_ | refine G.r0 ?_ | refine G.d0 ?_); (try simp (disch := first | exact dis | fail) only [push_cast, ↓reduceIte, Nat.reduceAdd, Nat.reduceLeDiff, Nat.reduceEqDiff, Nat.reduceLT, Int.reduceToNat, fct])
      exact Sep.xt (by assumption)
  · obtain ⟨l1, l2⟩ := fewC_len hf
    by_cases hr12 : (r.length : Int) ≤ 12
    rotate_left
    · (have fct := @hf; repeat' (first | ((with_reducible apply G.a); exact rfl) | refine G.reg fun K hK => ?_ | (with_reducible (refine hK _ _ ?_); clear hK K) | (have hk := hK; clear hk; simp (disch := first | exact dis | fail) only [push_cast, ↓reduceIte, Nat.reduceAdd, Nat.reduceLeDiff, Nat.reduceEqDiff, Nat.reduceLT, Int.reduceToNat, fct]) | (refine brO_n ?_ ?_ <;> intro hb hc <;> first | (with_reducible exact False.elim hc) | (exfalso; omega) | (simp only [hb]; clear hb)) | (refine zbsl ?_; intro gb wb hS) | (refine zcp 7 (few20_spec (h2.ext hS.x)) ?_; intro wb hS) | (refine zcp 8 (awake20_spec _ (hv.ext hS.x)) ?_; intro wb hS) | (refine zcp 16 (small20_spec (rdT_one (Sep.blk hS (by repeat constructor)) rfl (h1.ext hS.x))) ?_; intro wb hS) | (refine G.cn ?_ ?_ <;> intro hc <;> first | (with_reducible exact False.elim hc) | (exfalso; omega) | skip))) <;> (try clear fct)
      all_goals
        (first | refine G.r1 ?_ | refine G.r2 ?_ | refine G.r3 ?_ | refine G.r0 ?_ | refine G.d0 ?_); (try simp (disch := first | exact dis | fail) only [push_cast, ↓reduceIte, Nat.reduceAdd, Nat.reduceLeDiff, Nat.reduceEqDiff, Nat.reduceLT, Int.reduceToNat, fct])
        exact Sep.xt (by assumption)
    · cases hsm : smallM [v]
      · (have fct := (And.intro @hf @hsm); repeat' (first | ((with_reducible apply G.a); exact rfl) | refine G.reg fun K hK => ?_ | (with_reducible (refine hK _ _ ?_); clear hK K) | (have hk := hK; clear hk; simp (disch := first | exact dis | fail) only [push_cast, ↓reduceIte, Nat.reduceAdd, Nat.reduceLeDiff, Nat.reduceEqDiff, Nat.reduceLT, Int.reduceToNat, fct]) | (refine brO_n ?_ ?_ <;> intro hb hc <;> first | (with_reducible exact False.elim hc) | (exfalso; omega) | (simp only [hb]; clear hb)) | (refine zbsl ?_; intro gb wb hS) | (refine zcp 7 (few20_spec (h2.ext hS.x)) ?_; intro wb hS) | (refine zcp 8 (awake20_spec _ (hv.ext hS.x)) ?_; intro wb hS) | (refine zcp 16 (small20_spec (rdT_one (Sep.blk hS (by repeat constructor)) rfl (h1.ext hS.x))) ?_; intro wb hS) | (refine G.cn ?_ ?_ <;> intro hc <;> first | (with_reducible exact False.elim hc) | (exfalso; omega) | skip))) <;> (try clear fct)
        all_goals
          (first | refine G.r1 ?_ | refine G.r2 ?_ | refine G.r3 ?_ | refine G.r0 ?_ | refine G.d0 ?_); (try simp (disch := first | exact dis | fail) only [push_cast, ↓reduceIte, Nat.reduceAdd, Nat.reduceLeDiff, Nat.reduceEqDiff, Nat.reduceLT, Int.reduceToNat, fct])
          exact Sep.xt (by assumption)
      · have hsh : shortR v = true := by
          unfold smallM at hsm
          simpa using hsm
        obtain ⟨c1, c2⟩ := shortR_len hsh
        (have fct := (And.intro @hf @hsm); repeat' (first | ((with_reducible apply G.a); exact rfl) | refine G.reg fun K hK => ?_ | (with_reducible (refine hK _ _ ?_); clear hK K) | (have hk := hK; clear hk; simp (disch := first | exact dis | fail) only [push_cast, ↓reduceIte, Nat.reduceAdd, Nat.reduceLeDiff, Nat.reduceEqDiff, Nat.reduceLT, Int.reduceToNat, fct]) | (refine brO_n ?_ ?_ <;> intro hb hc <;> first | (with_reducible exact False.elim hc) | (exfalso; omega) | (simp only [hb]; clear hb)) | (refine zbsl ?_; intro gb wb hS) | (refine zcp 7 (few20_spec (h2.ext hS.x)) ?_; intro wb hS) | (refine zcp 8 (awake20_spec _ (hv.ext hS.x)) ?_; intro wb hS) | (refine zcp 16 (small20_spec (rdT_one (Sep.blk hS (by repeat constructor)) rfl (h1.ext hS.x))) ?_; intro wb hS) | (refine G.cn ?_ ?_ <;> intro hc <;> first | (with_reducible exact False.elim hc) | (exfalso; omega) | skip))) <;> (try clear fct)
        all_goals
          refine G.loop (fun u w' => ∃ k : Nat, k ≤ r.length ∧ u 38 = I k ∧ u 37 = I r.length ∧ u 36 = v0 ∧ u 0 = v0 ∧ u 1 = v1 ∧ u 2 = v2 ∧ (∀ s ∈ r.take k, s.length ≤ 60) ∧ Sep w w' []) (fun u _ => r.length - toN (u 38)) ?_ ?_
          · exact ⟨0, Nat.zero_le _, by exact sf, by exact sf, by exact sf, by exact sf, by exact sf, by exact sf, by simp, (Sep.sub hS (by repeat first | exact Sub.rfl' | exact Sub.n | exact Sub.nil0 | (refine Sub.c (by repeat constructor) ?_) | refine Sub.skip ?_))⟩
          · clear hS
            rintro u wl ⟨k, hk, q38, q37, q36, q0, q1, q2, hs6, hS⟩ ih
            have hm : toN (u 38) = k := by rw [q38]; simp [toN]
            by_cases hlt : (k : Int) < r.length
            · by_cases h60 : ((r.getD k default).length : Int) ≤ 60
              · have hs7 : ∀ s ∈ r.take (k + 1), s.length ≤ 60 := by
                  intro s hs
                  rw [takeD _ _ hlt] at hs
                  rcases List.mem_append.1 hs with hs | hs
                  · exact hs6 s hs
                  · rw [List.mem_singleton] at hs; subst hs; omega
                (have fct := (And.intro @q38 (And.intro @q37 (And.intro @q36 (And.intro @q0 (And.intro @q1 @q2))))); repeat' (first | ((with_reducible apply G.a); exact rfl) | refine G.reg fun K hK => ?_ | (with_reducible (refine hK _ _ ?_); clear hK K) | (have hk := hK; clear hk; simp (disch := first | exact dis | fail) only [push_cast, ↓reduceIte, Nat.reduceAdd, Nat.reduceLeDiff, Nat.reduceEqDiff, Nat.reduceLT, Int.reduceToNat, fct]) | (refine brO_n ?_ ?_ <;> intro hb hc <;> first | (with_reducible exact False.elim hc) | (exfalso; omega) | (simp only [hb]; clear hb)) | (refine zbsl ?_; intro gb wb hS) | (refine zcp 7 (few20_spec (h2.ext hS.x)) ?_; intro wb hS) | (refine zcp 8 (awake20_spec _ (hv.ext hS.x)) ?_; intro wb hS) | (refine zcp 16 (small20_spec (rdT_one (Sep.blk hS (by repeat constructor)) rfl (h1.ext hS.x))) ?_; intro wb hS) | (refine G.cn ?_ ?_ <;> intro hc <;> first | (with_reducible exact False.elim hc) | (exfalso; omega) | skip))) <;> (try clear fct)
                all_goals
                  have fct := (And.intro @q38 (And.intro @q37 (And.intro @q36 (And.intro @q0 (And.intro @q1 @q2))))); refine ih _ _ ⟨k + 1, by omega, by exact sf, by exact sf, by exact sf, by exact sf, by exact sf, by exact sf, hs7, hS⟩ ?_
                  rw [hm]; simp only [push_cast, ↓reduceIte, Nat.reduceAdd, Nat.reduceLeDiff, Nat.reduceEqDiff, Nat.reduceLT, Int.reduceToNat, toN_i, q38, q37, q36, q0, q1, q2]; omega
              · (have fct := (And.intro @q38 (And.intro @q37 (And.intro @q36 (And.intro @q0 (And.intro @q1 @q2))))); repeat' (first | ((with_reducible apply G.a); exact rfl) | refine G.reg fun K hK => ?_ | (with_reducible (refine hK _ _ ?_); clear hK K) | (have hk := hK; clear hk; simp (disch := first | exact dis | fail) only [push_cast, ↓reduceIte, Nat.reduceAdd, Nat.reduceLeDiff, Nat.reduceEqDiff, Nat.reduceLT, Int.reduceToNat, fct]) | (refine brO_n ?_ ?_ <;> intro hb hc <;> first | (with_reducible exact False.elim hc) | (exfalso; omega) | (simp only [hb]; clear hb)) | (refine zbsl ?_; intro gb wb hS) | (refine zcp 7 (few20_spec (h2.ext hS.x)) ?_; intro wb hS) | (refine zcp 8 (awake20_spec _ (hv.ext hS.x)) ?_; intro wb hS) | (refine zcp 16 (small20_spec (rdT_one (Sep.blk hS (by repeat constructor)) rfl (h1.ext hS.x))) ?_; intro wb hS) | (refine G.cn ?_ ?_ <;> intro hc <;> first | (with_reducible exact False.elim hc) | (exfalso; omega) | skip))) <;> (try clear fct)
                all_goals
                  (have fct := (And.intro @q38 (And.intro @q37 (And.intro @q36 (And.intro @q0 (And.intro @q1 @q2))))); (first | refine G.r1 ?_ | refine G.r2 ?_ | refine G.r3 ?_ | refine G.r0 ?_ | refine G.d0 ?_); (try simp (disch := first | exact dis | fail) only [push_cast, ↓reduceIte, Nat.reduceAdd, Nat.reduceLeDiff, Nat.reduceEqDiff, Nat.reduceLT, Int.reduceToNat, fct]); (try clear fct))
                  exact Sep.xt (by assumption)
            · clear ih
              rw [List.take_of_length_le (by omega)] at hs6
              have hs : ∀ s ∈ r, s.length ≤ 1000000 := fun s h => by have := hs6 s h; omega
              have hvs : ∀ x ∈ v, x.s.length ≤ 1000000 ∧ i64M x.n := fun x h => ⟨by have := c2 x h; omega, hn x h⟩
              have hrl : (rowM r l).1.length ≤ 1000000000 := by
                unfold rowM
                split
                · have := rowF_len r l []; simp only [List.length_nil] at this; omega
                · simp
              have haa : decide ((rowM r l).1 = (rowM r l).1) = true := decide_eq_true rfl
              have hbb : decide ((recM v l).1 = (recM v l).1) = true := decide_eq_true rfl
              (have fct := (And.intro @q38 (And.intro @q37 (And.intro @q36 (And.intro @q0 (And.intro @q1 (And.intro @q2 (And.intro @haa @hbb))))))); repeat' (first | ((with_reducible apply G.a); exact rfl) | refine G.reg fun K hK => ?_ | (with_reducible (refine hK _ _ ?_); clear hK K) | (have hk := hK; clear hk; simp (disch := first | exact dis | fail) only [push_cast, ↓reduceIte, Nat.reduceAdd, Nat.reduceLeDiff, Nat.reduceEqDiff, Nat.reduceLT, Int.reduceToNat, fct]) | (refine brO_n ?_ ?_ <;> intro hb hc <;> first | (with_reducible exact False.elim hc) | (exfalso; omega) | (simp only [hb]; clear hb)) | (refine zbsl ?_; intro gb wb hS) | (refine zcp 7 (few20_spec (h2.ext hS.x)) ?_; intro wb hS) | (refine zcp 8 (awake20_spec _ (hv.ext hS.x)) ?_; intro wb hS) | (refine zcp 16 (small20_spec (rdT_one (Sep.blk hS (by repeat constructor)) rfl (h1.ext hS.x))) ?_; intro wb hS) | (refine zco 17 (row_spec (h0.ext hS.x) (h2.ext hS.x) hs (by omega) (hv.ext hS.x)) ?_; rintro vb wb ⟨lv1, rfl, hS2⟩; have hS := hS2.ap; simp only [apps] at hS) | (refine zco 12 (ref_spec (h2.ext hS.x) (by omega)) ?_; rintro vb wb hS2; have hS := hS2.ap; simp only [apps] at hS) | (refine zco 18 (rrow_spec (h0.ext hS.x) (Sep.rd hS (by repeat constructor)) hs (by omega)) ?_; rintro vb wb ⟨lv2, rfl, hS2⟩; have hS := hS2.ap; simp only [apps] at hS) | (refine zco 19 (rec_spec (h1.ext hS.x) (h2.ext hS.x) hvs (by omega) (ht.ext hS.x)) ?_; rintro vb wb ⟨lv3, rfl, hS2⟩; have hS := hS2.ap; simp only [apps] at hS) | ((with_reducible (show CallK _ 21 [v1] _ _ _ _)); refine zco 21 (row20_spec ref17_spec (h1.ext hS.x) (by omega)) ?_; rintro vx wb hS2; have hS := hS2.ap; simp only [apps] at hS) | ((with_reducible (show CallK _ 21 [lv1] _ _ _ _)); refine zco 21 (row20_spec ref17_spec (l := (rowM r l).1) (Sep.rd hS (by repeat constructor)) hrl) ?_; rintro vy wb hS2; have hS := hS2.ap; simp only [apps] at hS) | (refine zco 20 (rrec_spec (r := v) (Sep.rd hS (by repeat constructor)) (Sep.rd hS (by repeat constructor)) hvs (by omega)) ?_; rintro vb wb ⟨lv4, rfl, hS2⟩; have hS := hS2.ap; simp only [apps] at hS) | (refine zcp 22 (same20_spec (a := (rowM r l).1) (b := (rowM r l).1) (Sep.rd hS (by repeat constructor)) (Sep.rd hS (by repeat constructor))) ?_; intro wb hS) | (refine zcp 23 (same05_spec (a := (recM v l).1) (b := (recM v l).1) (Sep.rd hS (by repeat constructor)) (Sep.rd hS (by repeat constructor))) ?_; intro wb hS) | (refine G.cn ?_ ?_ <;> intro hc <;> first | (with_reducible exact False.elim hc) | (exfalso; omega) | skip))) <;> (try clear fct)
              all_goals
                (have fct := (And.intro @q38 (And.intro @q37 (And.intro @q36 (And.intro @q0 (And.intro @q1 @q2))))); (first | refine G.r1 ?_ | refine G.r2 ?_ | refine G.r3 ?_ | refine G.r0 ?_ | refine G.d0 ?_); (try simp (disch := first | exact dis | fail) only [push_cast, ↓reduceIte, Nat.reduceAdd, Nat.reduceLeDiff, Nat.reduceEqDiff, Nat.reduceLT, Int.reduceToNat, fct]); (try clear fct))
                exact Sep.xt (by assumption)
end Go.Proofs.YtdikpaochhacmaaGreatDoor
