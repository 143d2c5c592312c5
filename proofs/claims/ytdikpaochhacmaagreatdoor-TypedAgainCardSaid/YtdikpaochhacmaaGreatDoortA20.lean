/- Texts of the proof, joined. -/
import Derived.Test.YtdikpaochhacmaaGreatDoortY20
import Derived.Test.YtdikpaochhacmaaGreatDoortW20
namespace Go.Proofs.YtdikpaochhacmaaGreatDoor
set_option linter.unusedSimpArgs false
set_option linter.unusedVariables false
attribute [local irreducible] SemK UnitK StK AlcK BslK CallK CallV Instr.box Builtin.append_ Instr.makeSlice Instr.makeMap Instr.lookup Instr.mapUpdate Instr.sliceAt convert
open Go.RowKit
theorem blk_rdC2 {w : World} {g n : Nat} {t : TypeId} (ys : List Col) (h : Blk w g t (ys.flatMap eC.f).toArray) (hn : n = ys.length) (hm : ys.length ≤ 1000000) : Rd w eC (.slice (some ⟨g, 0, none⟩) n n) ys :=
  blk_rd h hn (Nat.le_refl _) (by omega) (fun u hu => by
    obtain ⟨c, _, hu⟩ := List.mem_flatMap.1 hu
    simp [eC] at hu
    rcases hu with rfl | rfl | rfl
    · exact one_s
    · exact one_i
    · exact one_b)
theorem readX1 {v1 : Value} {w : World} (h1 : Rd w eC v1 [⟨[105, 100], 2, false⟩]) (hv : ErrV w) : Ret Tryz.prog 9 #[(.agg #[U 44, U 34, I 1]), v1, I 1, S [105, 100, 10, 55, 10]] w fun res w' => ∃ v v0, res = .tuple #[v, .agg #[I 0, I 0, I 0, I 0]] ∧ Sep w w' [accC v 50 eV [v0], frzC eVal [v0] [[⟨2, [], 7, false⟩]]] := by
  have h := read_spec ⟨44, 34, 1⟩ 1 [105, 100, 10, 55, 10] w h1 (by decide) (by decide) (by intro c hc; simp only [List.mem_singleton] at hc; subst hc; decide) hv
  rw [read_ex1] at h
  refine h.mono ?_
  rintro res w' ⟨v, vs, h1, hS⟩
  have hl := hS.frzLen (.t .h)
  match vs, hl with
  | [v0], _ => exact ⟨v, v0, h1, hS⟩
theorem readX2 {v1 : Value} {w : World} (h1 : Rd w eC v1 [⟨[105, 100], 2, false⟩]) (hv : ErrV w) : Ret Tryz.prog 9 #[(.agg #[U 44, U 34, I 1]), v1, I 1, S [105, 100, 10, 120]] w fun res w' => ∃ v, res = .tuple #[v, .agg #[I 17, I 1, I 0, I 0]] ∧ Sep w w' [accC v 50 eV []] := by
  have h := read_spec ⟨44, 34, 1⟩ 1 [105, 100, 10, 120] w h1 (by decide) (by decide) (by intro c hc; simp only [List.mem_singleton] at hc; subst hc; decide) hv
  rw [read_ex2] at h
  refine h.mono ?_
  rintro res w' ⟨v, vs, h1, hS⟩
  have hl := hS.frzLen (.t .h)
  match vs, hl with
  | [], _ => exact ⟨v, h1, hS.sub (.c .h Sub.n)⟩
def c8 : MC := (.seq (.reg [qq 0 (.mv (kb false))]) (.seq (.reg [qq 7 (.bld [(.int .u8 0), (.int .u8 0), (.int .i64 0)] [⟨0, ⟨1, (.const (.int .u8 44))⟩⟩, ⟨1, ⟨1, (.const (.int .u8 34))⟩⟩, ⟨2, ⟨1, (ki 1)⟩⟩]), qq 1 (.alc 23 [(.int .u8 0), (.int .u8 0), (.int .i64 0)]), qn (.st 3 (.tmp 1) (.tmp 7))]) (.seq (.reg [qq 8 (.bld [(S []), (.int .i64 0), (.bool false)] [⟨0, ⟨1, (.const (S [105, 100]))⟩⟩, ⟨1, ⟨1, (ki 2)⟩⟩]), qq 9 (.bsl 76 [(S []), (.int .i64 0), (.bool false)] 1 [⟨0, ⟨3, (.tmp 8)⟩⟩]), qm 2 9]) (.seq (.reg [qq 11 (.ld (.some 3) (.tmp 1)), qm 12 2, qq 13 (.call 9 [(.tmp 11), (.tmp 12), (ki 1), (.const (S [105, 100, 10, 55, 10]))]), qm 10 13, qq 14 (.ext 0 (.tmp 10)), qq 15 (.ext 1 (.tmp 10)), qq 4 (.alc 32 [(.int .i64 0), (.int .i64 0), (.int .i64 0), (.int .i64 0)]), qm 3 14, qn (.st 4 (.tmp 4) (.tmp 15))]) (.seq (.reg [qq 17 (.ld (.some 3) (.tmp 1)), qm 18 2, qq 19 (.call 9 [(.tmp 17), (.tmp 18), (ki 1), (.const (S [105, 100, 10, 120]))]), qm 16 19, qq 20 (.ext 0 (.tmp 16)), qq 21 (.ext 1 (.tmp 16)), qq 6 (.alc 32 [(.int .i64 0), (.int .i64 0), (.int .i64 0), (.int .i64 0)]), qm 5 20, qn (.st 4 (.tmp 6) (.tmp 21))]) (.seq (.reg [qm 22 3, qq 23 (.len (.tmp 22)), qq 24 (.bin .eql (.tmp 23) (ki 1)), qm 25 24, qmt 25 26 3, qt 25 27 (.adr 1 (.tmp 26) (ki 0)), qt 25 28 (.ld none (.tmp 27)), qt 25 29 (.len (.tmp 28)), qt 25 30 (.bin .eql (.tmp 29) (ki 1)), qq 31 (.pick (.tmp 25) (.tmp 30) (kb false)), qm 32 31, qmt 32 33 3, qt 32 34 (.adr 1 (.tmp 33) (ki 0)), qt 32 35 (.ld none (.tmp 34)), qt 32 36 (.adr 4 (.tmp 35) (ki 0)), qt 32 37 (.fad 2 (.tmp 36)), qt 32 38 (.ld none (.tmp 37)), qt 32 39 (.bin .eql (.tmp 38) (ki 7)), qq 40 (.pick (.tmp 32) (.tmp 39) (kb false)), qm 41 40, qt 41 42 (.ld (.some 4) (.tmp 4)), qt 41 43 (.bld [(.int .i64 0), (.int .i64 0), (.int .i64 0), (.int .i64 0)] []), qt 41 44 (.eqA false [.i, .i, .i, .i] (.tmp 42) (.tmp 43)), qq 45 (.pick (.tmp 41) (.tmp 44) (kb false)), qm 46 45, qmt 46 47 5, qt 46 48 (.len (.tmp 47)), qt 46 49 (.bin .eql (.tmp 48) (ki 0)), qq 50 (.pick (.tmp 46) (.tmp 49) (kb false)), qm 51 50, qt 51 52 (.ld (.some 4) (.tmp 6)), qt 51 53 (.bld [(.int .i64 0), (.int .i64 0), (.int .i64 0), (.int .i64 0)] [⟨0, ⟨1, (ki 17)⟩⟩, ⟨1, ⟨1, (ki 1)⟩⟩]), qt 51 54 (.eqA false [.i, .i, .i, .i] (.tmp 52) (.tmp 53)), qq 55 (.pick (.tmp 51) (.tmp 54) (kb false)), qm 0 55]) .ret))))))
theorem k8 : conv Tryz.prog 56 (Tryz.f8.body.getD .skip) = c8 := by kernel_rfl
theorem in8 {w : World} {R : Value → World → Prop} (h : G Tryz.prog Tryz.f8 56 [.c c8] R (frL 0 []) w) : Ret Tryz.prog 8 #[] w R := G.enter (args := []) Tryz.func8 (c := Tryz.f8.body.getD .skip) (by kernel_rfl) (by kernel_rfl) (by simp) k8 h
theorem awake20_spec (w : World) (hv : ErrV w) : Pu Tryz.prog 8 #[] w (.bool true) := by
  refine in8 ?_
  have hS := Sep.start w
  repeat' (first | ((with_reducible apply G.a); exact rfl) | refine G.reg fun K hK => ?_ | (with_reducible (refine hK _ _ ?_); clear hK K) | (have hk := hK; clear hk; simp (disch := first | exact dis | fail) only [push_cast, ↓reduceIte, Nat.reduceAdd, Nat.reduceLeDiff, Nat.reduceEqDiff, Nat.reduceLT, Int.reduceToNat, fct]) | (refine brO_n ?_ ?_ <;> intro hb hc <;> first | (with_reducible exact False.elim hc) | (exfalso; omega) | (simp only [hb]; clear hb)) | ((first | refine zalc ?_ | refine zbsl ?_); intro gb wb hS) | ((with_reducible refine gSt ?_); refine zs2 ?_; intro wb hS) | ((with_reducible (show CallK _ 9 [_, _, _, S [105, 100, 10, 55, 10]] _ _ _ _)); refine zco 9 (readX1 (blk_rdC2 [⟨[105, 100], 2, false⟩] (Sep.blk hS (by repeat constructor)) rfl (by decide)) (hv.ext hS.x)) ?_; rintro vb wb ⟨v, v0, rfl, hS2⟩; have hS := hS2.ap; simp only [apps] at hS) | ((with_reducible (show CallK _ 9 [_, _, _, S [105, 100, 10, 120]] _ _ _ _)); refine zco 9 (readX2 (blk_rdC2 [⟨[105, 100], 2, false⟩] (Sep.blk hS (by repeat constructor)) rfl (by decide)) (hv.ext hS.x)) ?_; rintro vb wb ⟨v2, rfl, hS2⟩; have hS := hS2.ap; simp only [apps] at hS))
  all_goals
    have hfz : Rd _ eVal v0 [⟨2, [], 7, false⟩] := Sep.frzAt (vs := [v0]) hS (by repeat constructor) (i := 0) (by decide)
    repeat' (first | ((with_reducible apply G.a); exact rfl) | refine G.reg fun K hK => ?_ | (with_reducible (refine hK _ _ ?_); clear hK K) | (have hk := hK; clear hk; simp (disch := first | exact dis | fail) only [push_cast, ↓reduceIte, Nat.reduceAdd, Nat.reduceLeDiff, Nat.reduceEqDiff, Nat.reduceLT, Int.reduceToNat, fct]) | (refine brO_n ?_ ?_ <;> intro hb hc <;> first | (with_reducible exact False.elim hc) | (exfalso; omega) | (simp only [hb]; clear hb)) | ((first | refine zalc ?_ | refine zbsl ?_); intro gb wb hS) | ((with_reducible refine gSt ?_); refine zs2 ?_; intro wb hS))
  all_goals
    (first | refine G.r1 ?_ | refine G.r2 ?_ | refine G.r3 ?_ | refine G.r0 ?_ | refine G.d0 ?_); (try simp (disch := first | exact dis | fail) only [push_cast, ↓reduceIte, Nat.reduceAdd, Nat.reduceLeDiff, Nat.reduceEqDiff, Nat.reduceLT, Int.reduceToNat, fct])
    exact Sep.xt (by assumption)
end Go.Proofs.YtdikpaochhacmaaGreatDoor
