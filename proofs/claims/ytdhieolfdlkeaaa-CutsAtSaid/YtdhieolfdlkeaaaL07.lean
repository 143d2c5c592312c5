/- Chapter 07: the example, the law CutsBy, walked. -/
import Derived.Test.YtdhieolfdlkeaaaX07
import Derived.Test.YtdhieolfdlkeaaaOc7
namespace Go.Proofs.Ytdhieolfdlkeaaa
set_option linter.unusedSimpArgs false
set_option linter.unusedVariables false
attribute [local irreducible] SemK UnitK StK AlcK BslK CallK CallV Instr.box Builtin.append_ Instr.makeSlice Instr.makeMap Instr.lookup Instr.mapUpdate Instr.sliceAt convert
open Go.RowKit
theorem at_ex : atP [97, 98, 99, 100] [3, 1, 3] = [[97], [98, 99], [], [100]] := by
  have h1 : heldL [3, 1, 3] ([97, 98, 99, 100] : Str).length = [3, 1, 3] := by decide
  have h2 : srt [3, 1, 3] = [1, 3, 3] := up_eq ((srt_perm _).trans (by decide)) (srt_up _) (by decide)
  unfold atP
  rw [h1, h2]
  decide
theorem by_ex : ByOut [97, 98, 99, 100] [1, 2] [[97], [98, 99], [100]] := by
  unfold ByOut
  rw [if_pos (by decide)]
  exact ⟨3, ⟨by decide, by decide⟩, by decide⟩
def c39 : MC := (.seq (.reg [qq 0 (.mv (kb false))]) (.seq (.reg [qq 1 (.bsl 3 [(.int .i64 0), (.int .i64 0), (.int .i64 0)] 3 [⟨0, ⟨1, (ki 3)⟩⟩, ⟨1, ⟨1, (ki 1)⟩⟩, ⟨2, ⟨1, (ki 3)⟩⟩]), qq 2 (.call 49 [(.const (S [97, 98, 99, 100])), (.tmp 1)]), qq 3 (.bsl 9 [(S []), (S []), (S []), (S [])] 4 [⟨0, ⟨1, (.const (S [97]))⟩⟩, ⟨1, ⟨1, (.const (S [98, 99]))⟩⟩, ⟨2, ⟨1, (.const (S []))⟩⟩, ⟨3, ⟨1, (.const (S [100]))⟩⟩]), qq 4 (.call 24 [(.tmp 2), (.tmp 3)]), qm 5 4, qt 5 6 (.bsl 3 [(.int .i64 0), (.int .i64 0)] 2 [⟨0, ⟨1, (ki 1)⟩⟩, ⟨1, ⟨1, (ki 2)⟩⟩]), qt 5 7 (.call 40 [(.const (S [97, 98, 99, 100])), (.tmp 6)]), qt 5 8 (.bsl 9 [(S []), (S []), (S [])] 3 [⟨0, ⟨1, (.const (S [97]))⟩⟩, ⟨1, ⟨1, (.const (S [98, 99]))⟩⟩, ⟨2, ⟨1, (.const (S [100]))⟩⟩]), qt 5 9 (.call 24 [(.tmp 7), (.tmp 8)]), qq 10 (.pick (.tmp 5) (.tmp 9) (kb false)), qm 0 10]) .ret))
theorem k39 : conv Try.prog 11 (Try.f39.body.getD .skip) = c39 := by kernel_rfl
theorem in39 {w : World} {R : Value → World → Prop} (h : G Try.prog Try.f39 11 [.c c39] R (frL 0 []) w) : Ret Try.prog 39 #[] w R := G.enter (args := []) Try.func39 (c := Try.f39.body.getD .skip) (by kernel_rfl) (by kernel_rfl) (by simp) k39 h
theorem awake7_spec (w : World) : Pu Try.prog 39 #[] w (.bool true) := by
  refine in39 ?_
  have hS := Sep.start w
  have ha : ∀ {v : Value} {w : World}, Rd w eI v [3, 1, 3] → Ret Try.prog 49 #[S [97, 98, 99, 100], v] w fun res w' => Sep w w' [accC res 9 eS [[97], [98, 99], [], [100]]] := fun hr => by
    have := at_spec7 hr (s := [97, 98, 99, 100]) (by decide) (by decide)
    rwa [at_ex] at this
  have hb : ∀ {v : Value} {w : World}, Rd w eI v [1, 2] → Ret Try.prog 40 #[S [97, 98, 99, 100], v] w fun res w' => Sep w w' [accC res 9 eS [[97], [98, 99], [100]]] := fun hr => by
    refine (by_spec hr (s := [97, 98, 99, 100]) (by decide) (by decide)).mono ?_
    rintro res w' ⟨out, ho, hS⟩
    rwa [ho.one by_ex] at hS
  repeat' (first | ((with_reducible apply G.a); exact rfl) | refine G.reg fun K hK => ?_ | (with_reducible (refine hK _ _ ?_); clear hK K) | (have hk := hK; clear hk; simp (disch := first | exact dis | fail) only [push_cast, ↓reduceIte, Nat.reduceAdd, Nat.reduceLeDiff, Nat.reduceEqDiff, Nat.reduceLT, Int.reduceToNat, fct]) | (refine brO_n ?_ ?_ <;> intro hb hc <;> first | (with_reducible exact False.elim hc) | (exfalso; omega) | (simp only [hb]; clear hb)) | (refine zbsl ?_; intro gb wb hS) | (refine zco 49 (ha (lit_rdI [3, 1, 3] (Sep.blk hS (by repeat constructor)) rfl (by decide))) ?_; rintro vb wb hS2; have hS := hS2.ap; simp only [apps] at hS) | (refine zco 40 (hb (lit_rdI [1, 2] (Sep.blk hS (by repeat constructor)) rfl (by decide))) ?_; rintro vb wb hS2; have hS := hS2.ap; simp only [apps] at hS) | (refine zcp 24 (same05_spec (a := [[97], [98, 99], [], [100]]) (Sep.rd hS (by repeat constructor)) (lit_rdS7 [[97], [98, 99], [], [100]] (Sep.blk hS (by repeat constructor)) rfl (by decide))) ?_; intro wb hS) | (refine zcp 24 (same05_spec (a := [[97], [98, 99], [100]]) (Sep.rd hS (by repeat constructor)) (lit_rdS7 [[97], [98, 99], [100]] (Sep.blk hS (by repeat constructor)) rfl (by decide))) ?_; intro wb hS))
  all_goals
    (first | refine G.r1 ?_ | refine G.r2 ?_ | refine G.r3 ?_ | refine G.r0 ?_ | refine G.d0 ?_); (try simp (disch := first | exact dis | fail) only [push_cast, ↓reduceIte, Nat.reduceAdd, Nat.reduceLeDiff, Nat.reduceEqDiff, Nat.reduceLT, Int.reduceToNat, fct])
    exact Sep.xt (by assumption)
section
variable {v : Value} {w : World} {sz : List Int} {s : Str}
def c10 : MC := (.seq (.reg [qq 4 (.mv (kb false))]) (.seq (.seq (.reg [qm 6 0, qq 7 (.lenS (.tmp 6)), qq 8 (.bin .gtr (.tmp 7) (ki 200)), qm 9 8, qmf 9 10 1, qf 9 11 (.len (.tmp 10)), qf 9 12 (.bin .gtr (.tmp 11) (ki 20)), qq 13 (.pick (.tmp 9) (kb true) (.tmp 12))]) (.cond (.tmp 13) (.seq (.reg [qq 14 (.call 39 []), qm 4 14]) .ret) .skip)) (.seq (.reg [qm 15 0, qm 16 1, qq 17 (.call 40 [(.tmp 15), (.tmp 16)]), qm 5 17]) (.seq (.reg [qm 18 5, qm 19 0, qm 20 1, qq 21 (.call 41 [(.tmp 19), (.tmp 20)]), qq 22 (.call 24 [(.tmp 18), (.tmp 21)]), qm 23 22, qmt 23 24 5, qt 23 25 (.call 42 [(.tmp 24)]), qmt 23 26 0, qt 23 27 (.bin .eql (.tmp 25) (.tmp 26)), qq 28 (.pick (.tmp 23) (.tmp 27) (kb false)), qm 29 28, qt 29 30 (.call 39 []), qq 31 (.pick (.tmp 29) (.tmp 30) (kb false)), qm 4 31]) .ret))))
theorem k10 : conv Try.prog 32 (Try.f10.body.getD .skip) = c10 := by kernel_rfl
theorem in10 {a0 a1 : Value} {w : World} {R : Value → World → Prop} (h : G Try.prog Try.f10 32 [.c c10] R (frL 0 [a0, a1]) w) : Ret Try.prog 10 #[a0, a1] w R := G.enter (args := [a0, a1]) Try.func10 (c := Try.f10.body.getD .skip) (by kernel_rfl) (by kernel_rfl) (by simp) k10 h
set_option maxHeartbeats 1000000 in
theorem law_cutsby (s : Str) (sz : List Int) (w : World) (hr : Rd w eI v sz) (hs : s.length ≤ 9223372036854775807) : Pu Try.prog 10 #[S s, v] w (.bool true) := by
  refine in10 ?_
  have hS := Sep.start w
  by_cases hb : (s.length : Int) ≤ 200 ∧ (sz.length : Int) ≤ 20
  · have h1 : ∀ w, Rd w eI v sz → _ := fun w h => by_spec (w := w) (s := s) h (by omega) (by omega)
    have h2 : ∀ w out, Rd w eI v sz → ByOut s sz out → Ret Try.prog 41 #[S s, v] w fun res w' => Sep w w' [accC res 9 eS out] := fun w out h ho => by
      refine (rby_spec (s := s) h (by omega) (by omega)).mono ?_
      rintro res w' ⟨out2, ho2, hS⟩
      rwa [ho2.one ho] at hS
    have h3 : ∀ w v2 out, Rd w eS v2 out → ByOut s sz out → Pu Try.prog 42 #[v2] w (S s) := fun w v2 out h ho => by
      have := joined_spec h (by rw [ho.flat]; exact hs)
      rwa [ho.flat] at this
    obtain ⟨hb1, hb2⟩ := hb
    repeat' (first | ((with_reducible apply G.a); exact rfl) | refine G.reg fun K hK => ?_ | (with_reducible (refine hK _ _ ?_); clear hK K) | (have hk := hK; clear hk; simp (disch := first | exact dis | fail) only [push_cast, ↓reduceIte, Nat.reduceAdd, Nat.reduceLeDiff, Nat.reduceEqDiff, Nat.reduceLT, Int.reduceToNat, fct]) | (refine brO_n ?_ ?_ <;> intro hb hc <;> first | (with_reducible exact False.elim hc) | (exfalso; omega) | (simp only [hb]; clear hb)) | (refine zcp 39 (awake7_spec _) ?_; intro wb hS) | (refine zco 40 (h1 _ (Rd.old hr hS)) ?_; rintro vb wb ⟨out, ho, hS2⟩; have hS := hS2.ap; simp only [apps] at hS) | (refine zco 41 (h2 _ _ (Rd.old hr hS) ho) ?_; rintro vb wb hS2; have hS := hS2.ap; simp only [apps] at hS) | (refine zcp 24 (same05_spec (a := out) (b := out) (Sep.rd hS (by repeat constructor)) (Sep.rd hS (by repeat constructor))) ?_; intro wb hS) | (refine zcp 42 (h3 _ _ _ (Sep.rd hS (by repeat constructor)) ho) ?_; intro wb hS) | (refine G.cn ?_ ?_ <;> intro hc <;> first | (with_reducible exact False.elim hc) | (exfalso; omega) | skip))
    all_goals
      (first | refine G.r1 ?_ | refine G.r2 ?_ | refine G.r3 ?_ | refine G.r0 ?_ | refine G.d0 ?_); (try simp (disch := first | exact dis | fail) only [push_cast, ↓reduceIte, Nat.reduceAdd, Nat.reduceLeDiff, Nat.reduceEqDiff, Nat.reduceLT, Int.reduceToNat, fct])
      exact Sep.xt (by assumption)
  · repeat' (first | ((with_reducible apply G.a); exact rfl) | refine G.reg fun K hK => ?_ | (with_reducible (refine hK _ _ ?_); clear hK K) | (have hk := hK; clear hk; simp (disch := first | exact dis | fail) only [push_cast, ↓reduceIte, Nat.reduceAdd, Nat.reduceLeDiff, Nat.reduceEqDiff, Nat.reduceLT, Int.reduceToNat, fct]) | (refine brO_n ?_ ?_ <;> intro hb hc <;> first | (with_reducible exact False.elim hc) | (exfalso; omega) | (simp only [hb]; clear hb)) | (refine zcp 39 (awake7_spec _) ?_; intro wb hS) | (refine G.cn ?_ ?_ <;> intro hc <;> first | (with_reducible exact False.elim hc) | (exfalso; omega) | skip))
    all_goals
      (first | refine G.r1 ?_ | refine G.r2 ?_ | refine G.r3 ?_ | refine G.r0 ?_ | refine G.d0 ?_); (try simp (disch := first | exact dis | fail) only [push_cast, ↓reduceIte, Nat.reduceAdd, Nat.reduceLeDiff, Nat.reduceEqDiff, Nat.reduceLT, Int.reduceToNat, fct])
      exact Sep.xt (by assumption)
end
end Go.Proofs.Ytdhieolfdlkeaaa
