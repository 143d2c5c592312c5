/- Texts of the proof, joined. -/
import Derived.Test.YtdikpaochhacmaaGreatDoortA20
import Derived.Test.YtdikpaochhacmaaGreatDoortI20
namespace Go.Proofs.YtdikpaochhacmaaGreatDoor
set_option linter.unusedSimpArgs false
set_option linter.unusedVariables false
attribute [local irreducible] SemK UnitK StK AlcK BslK CallK CallV Instr.box Builtin.append_ Instr.makeSlice Instr.makeMap Instr.lookup Instr.mapUpdate Instr.sliceAt convert
open Go.RowKit
theorem bts_len (N : Nat) : ∀ r : List Str, (∀ f ∈ r, f.length ≤ N) → bts r ≤ N * r.length
  | [], _ => by simp [bts]
  | f :: r, h => by
    have h1 := bts_len N r fun x hx => h x (List.mem_cons_of_mem _ hx)
    have h2 := h f (by simp)
    have e : bts (f :: r) = f.length + bts r := by simp [bts]
    rw [e, List.length_cons, Nat.mul_add, Nat.mul_one]
    omega
theorem again_len (o : Dl) (l : List Col) (rows : List (List Val)) (s : Str) (hs : s.length ≤ 300) (hl : l.length ≤ 12) (hln : ∀ c ∈ l, c.name.length ≤ 40) (hg : ∀ v ∈ rows, GoodR l (s.length + 1) v) (h1 : szT rows ≤ l.length * (s.length + 1)) (h2 : rows.length ≤ s.length + 1) :
    (txtF o true (namesC l :: rows.map fun v => (recM v l).1)).length ≤ 800000 := by
  have a1 := txt_sz o (namesC l :: rows.map fun v => (recM v l).1) true
  obtain ⟨a2, a3⟩ := recs_sz l 12 rows fun v hv => ⟨(hg v hv).1, by rw [(hg v hv).2.1]; exact hl, hl, fun x hx => ((hg v hv).2.2 x hx).1⟩
  have a4 := bts_len 40 (namesC l) fun f hf => by
    obtain ⟨c, hc, rfl⟩ := List.mem_map.1 hf
    exact hln c hc
  have a5 : (namesC l).length = l.length := by simp [namesC]
  have e1 : totB (namesC l :: rows.map fun v => (recM v l).1) = bts (namesC l) + totB (rows.map fun v => (recM v l).1) := by simp [totB]
  have a6 : l.length * (s.length + 1) ≤ 12 * 301 := Nat.mul_le_mul hl (by omega)
  rw [e1] at a1
  simp only [List.map_cons, List.sum_cons, List.length_cons, List.length_map] at a1
  rw [a5] at a1 a4
  omega
def c5 : MC := (.seq (.reg [qq 3 (.raw (.box 23 (.tmp 0)) 0), qq 4 (.raw (.box 23 (.tmp 1)) 0), qq 5 (.raw (.box 66 (.tmp 2)) 0), qq 6 (.mv (kb false))]) (.seq (.seq (.reg [qq 13 (.fad 0 (.tmp 5)), qq 14 (.ld none (.tmp 13)), qq 15 (.call 7 [(.tmp 14)]), qq 16 (.un .not (.tmp 15)), qm 17 16, qf 17 18 (.fad 2 (.tmp 5)), qf 17 19 (.ld none (.tmp 18)), qf 17 20 (.lenS (.tmp 19)), qf 17 21 (.bin .gtr (.tmp 20) (ki 300)), qq 22 (.pick (.tmp 17) (kb true) (.tmp 21)), qm 23 22, qf 23 24 (.ld (.some 3) (.tmp 4)), qf 23 25 (.call 11 [(.tmp 24)]), qf 23 26 (.call 24 [(.tmp 25)]), qf 23 27 (.un .not (.tmp 26)), qq 28 (.pick (.tmp 23) (kb true) (.tmp 27))]) (.cond (.tmp 28) (.seq (.reg [qq 29 (.call 8 []), qm 6 29]) .ret) .skip)) (.seq (.reg [qq 31 (.ld (.some 3) (.tmp 3)), qq 32 (.fad 0 (.tmp 5)), qq 33 (.ld none (.tmp 32)), qq 34 (.fad 1 (.tmp 5)), qq 35 (.ld none (.tmp 34)), qq 36 (.fad 2 (.tmp 5)), qq 37 (.ld none (.tmp 36)), qq 38 (.call 9 [(.tmp 31), (.tmp 33), (.tmp 35), (.tmp 37)]), qm 30 38, qq 39 (.ext 0 (.tmp 30)), qq 40 (.ext 1 (.tmp 30)), qq 8 (.alc 32 [(.int .i64 0), (.int .i64 0), (.int .i64 0), (.int .i64 0)]), qm 7 39, qn (.st 4 (.tmp 8) (.tmp 40))]) (.seq (.seq (.reg [qq 41 (.ld (.some 4) (.tmp 8)), qq 42 (.bld [(.int .i64 0), (.int .i64 0), (.int .i64 0), (.int .i64 0)] []), qq 43 (.eqA true [.i, .i, .i, .i] (.tmp 41) (.tmp 42))]) (.cond (.tmp 43) (.seq (.reg [qm 44 7, qq 45 (.len (.tmp 44)), qq 46 (.bin .eql (.tmp 45) (ki 0)), qm 47 46, qt 47 48 (.call 8 []), qq 49 (.pick (.tmp 47) (.tmp 48) (kb false)), qm 6 49]) .ret) .skip)) (.seq (.reg [qq 51 (.ld (.some 3) (.tmp 4)), qq 52 (.fad 0 (.tmp 5)), qq 53 (.ld none (.tmp 52)), qm 54 7, qq 55 (.call 25 [(.tmp 51), (.tmp 53), (.tmp 54)]), qm 50 55, qq 56 (.ext 0 (.tmp 50)), qq 57 (.ext 1 (.tmp 50)), qq 10 (.alc 32 [(.int .i64 0), (.int .i64 0), (.int .i64 0), (.int .i64 0)]), qm 9 56, qn (.st 4 (.tmp 10) (.tmp 57))]) (.seq (.reg [qq 59 (.ld (.some 3) (.tmp 4)), qq 60 (.fad 0 (.tmp 5)), qq 61 (.ld none (.tmp 60)), qm 62 9, qq 63 (.call 9 [(.tmp 59), (.tmp 61), (ki 1), (.tmp 62)]), qm 58 63, qq 64 (.ext 0 (.tmp 58)), qq 65 (.ext 1 (.tmp 58)), qq 12 (.alc 32 [(.int .i64 0), (.int .i64 0), (.int .i64 0), (.int .i64 0)]), qm 11 64, qn (.st 4 (.tmp 12) (.tmp 65))]) (.seq (.reg [qq 66 (.ld (.some 4) (.tmp 10)), qq 67 (.bld [(.int .i64 0), (.int .i64 0), (.int .i64 0), (.int .i64 0)] []), qq 68 (.eqA false [.i, .i, .i, .i] (.tmp 66) (.tmp 67)), qm 69 68, qt 69 70 (.ld (.some 4) (.tmp 12)), qt 69 71 (.bld [(.int .i64 0), (.int .i64 0), (.int .i64 0), (.int .i64 0)] []), qt 69 72 (.eqA false [.i, .i, .i, .i] (.tmp 70) (.tmp 71)), qq 73 (.pick (.tmp 69) (.tmp 72) (kb false)), qm 74 73, qmt 74 75 11, qt 74 76 (.call 14 [(.tmp 75)]), qmt 74 77 7, qt 74 78 (.call 14 [(.tmp 77)]), qt 74 79 (.call 13 [(.tmp 76), (.tmp 78)]), qq 80 (.pick (.tmp 74) (.tmp 79) (kb false)), qm 81 80, qt 81 82 (.call 8 []), qq 83 (.pick (.tmp 81) (.tmp 82) (kb false)), qm 6 83]) .ret)))))))
theorem k5 : conv Tryz.prog 84 (Tryz.f5.body.getD .skip) = c5 := by kernel_rfl
theorem in5 {a0 a1 a2 : Value} {w : World} {R : Value → World → Prop} (h : G Tryz.prog Tryz.f5 84 [.c c5] R (frL 0 [a0, a1, a2]) w) : Ret Tryz.prog 5 #[a0, a1, a2] w R := G.enter (args := [a0, a1, a2]) Tryz.func5 (c := Tryz.f5.body.getD .skip) (by kernel_rfl) (by kernel_rfl) (by simp) k5 h
set_option maxHeartbeats 2000000 in
theorem law_tagain {v1 : Value} {w : World} (d o : Dl) (hd : byD d) (ho : byD o) {l : List Col} (h1 : Rd w eC v1 l) (mode : Int) (s : Str) (hsl : s.length ≤ 9223372036854775807) (hv : ErrV w) (ht : Tab w) : Pu Tryz.prog 5 #[(.agg #[U d.dl, U d.q, I d.e]), (.agg #[U o.dl, U o.q, I o.e]), .agg #[v1, I mode, S s]] w (.bool true) := by
  refine in5 ?_
  have hS := Sep.start w
  cases hf : fewC l
  · (have fct := @hf; repeat' (first | ((with_reducible apply G.a); exact rfl) | refine G.reg fun K hK => ?_ | (with_reducible (refine hK _ _ ?_); clear hK K) | (have hk := hK; clear hk; simp (disch := first | exact dis | fail) only [push_cast, ↓reduceIte, Nat.reduceAdd, Nat.reduceLeDiff, Nat.reduceEqDiff, Nat.reduceLT, Int.reduceToNat, fct]) | (refine brO_n ?_ ?_ <;> intro hb hc <;> first | (with_reducible exact False.elim hc) | (exfalso; omega) | (simp only [hb]; clear hb)) | ((first | refine zalc ?_ | ((with_reducible refine gBox ?_); refine zbox ?_)); intro gb wb hS) | ((with_reducible refine gSt ?_); refine zs2 ?_; intro wb hS) | (refine zcp 7 (few20_spec (h1.ext hS.x)) ?_; intro wb hS) | (refine zcp 8 (awake20_spec _ (hv.ext hS.x)) ?_; intro wb hS) | (refine zcp 11 (refD_spec o ho _) ?_; intro wb hS) | (refine zcp 24 (rightR_spec o ho _) ?_; intro wb hS) | (refine G.cn ?_ ?_ <;> intro hc <;> first | (with_reducible exact False.elim hc) | (exfalso; omega) | skip))) <;> (try clear fct)
    all_goals
      (first | refine G.r1 ?_ | refine G.r2 ?_ | refine G.r3 ?_ | refine G.r0 ?_ | refine G.d0 ?_); (try simp (disch := first | exact dis | fail) only [push_cast, ↓reduceIte, Nat.reduceAdd, Nat.reduceLeDiff, Nat.reduceEqDiff, Nat.reduceLT, Int.reduceToNat, fct])
      exact Sep.xt (by assumption)
  · obtain ⟨l1, l2⟩ := fewC_len hf
    by_cases h3 : (s.length : Int) ≤ 300
    rotate_left
    · (have fct := @hf; repeat' (first | ((with_reducible apply G.a); exact rfl) | refine G.reg fun K hK => ?_ | (with_reducible (refine hK _ _ ?_); clear hK K) | (have hk := hK; clear hk; simp (disch := first | exact dis | fail) only [push_cast, ↓reduceIte, Nat.reduceAdd, Nat.reduceLeDiff, Nat.reduceEqDiff, Nat.reduceLT, Int.reduceToNat, fct]) | (refine brO_n ?_ ?_ <;> intro hb hc <;> first | (with_reducible exact False.elim hc) | (exfalso; omega) | (simp only [hb]; clear hb)) | ((first | refine zalc ?_ | ((with_reducible refine gBox ?_); refine zbox ?_)); intro gb wb hS) | ((with_reducible refine gSt ?_); refine zs2 ?_; intro wb hS) | (refine zcp 7 (few20_spec (h1.ext hS.x)) ?_; intro wb hS) | (refine zcp 8 (awake20_spec _ (hv.ext hS.x)) ?_; intro wb hS) | (refine zcp 11 (refD_spec o ho _) ?_; intro wb hS) | (refine zcp 24 (rightR_spec o ho _) ?_; intro wb hS) | (refine G.cn ?_ ?_ <;> intro hc <;> first | (with_reducible exact False.elim hc) | (exfalso; omega) | skip))) <;> (try clear fct)
      all_goals
        (first | refine G.r1 ?_ | refine G.r2 ?_ | refine G.r3 ?_ | refine G.r0 ?_ | refine G.d0 ?_); (try simp (disch := first | exact dis | fail) only [push_cast, ↓reduceIte, Nat.reduceAdd, Nat.reduceLeDiff, Nat.reduceEqDiff, Nat.reduceLT, Int.reduceToNat, fct])
        exact Sep.xt (by assumption)
    · cases hr : rightD o
      · (have fct := (And.intro @hf @hr); repeat' (first | ((with_reducible apply G.a); exact rfl) | refine G.reg fun K hK => ?_ | (with_reducible (refine hK _ _ ?_); clear hK K) | (have hk := hK; clear hk; simp (disch := first | exact dis | fail) only [push_cast, ↓reduceIte, Nat.reduceAdd, Nat.reduceLeDiff, Nat.reduceEqDiff, Nat.reduceLT, Int.reduceToNat, fct]) | (refine brO_n ?_ ?_ <;> intro hb hc <;> first | (with_reducible exact False.elim hc) | (exfalso; omega) | (simp only [hb]; clear hb)) | ((first | refine zalc ?_ | ((with_reducible refine gBox ?_); refine zbox ?_)); intro gb wb hS) | ((with_reducible refine gSt ?_); refine zs2 ?_; intro wb hS) | (refine zcp 7 (few20_spec (h1.ext hS.x)) ?_; intro wb hS) | (refine zcp 8 (awake20_spec _ (hv.ext hS.x)) ?_; intro wb hS) | (refine zcp 11 (refD_spec o ho _) ?_; intro wb hS) | (refine zcp 24 (rightR_spec o ho _) ?_; intro wb hS) | (refine G.cn ?_ ?_ <;> intro hc <;> first | (with_reducible exact False.elim hc) | (exfalso; omega) | skip))) <;> (try clear fct)
        all_goals
          (first | refine G.r1 ?_ | refine G.r2 ?_ | refine G.r3 ?_ | refine G.r0 ?_ | refine G.d0 ?_); (try simp (disch := first | exact dis | fail) only [push_cast, ↓reduceIte, Nat.reduceAdd, Nat.reduceLeDiff, Nat.reduceEqDiff, Nat.reduceLT, Int.reduceToNat, fct])
          exact Sep.xt (by assumption)
      · have hrd := fun (wz : World) (hz : Ext w wz) => read_spec d mode s wz (h1.ext hz) (by omega) (by omega) (fun c hc => by have := l2 c hc; omega) (hv.ext hz)
        have hgood := readM_good d l mode s
        have hnone := readM_none d l mode s
        obtain ⟨z1, z2⟩ := readM_sz d l mode s
        generalize readM d l mode s = M at *
        by_cases hk : M.2.k = 0
        rotate_left
        · have hM1 := hnone hk
          have hrd0 : ∀ (wz : World), Ext w wz → Ret Tryz.prog 9 #[(.agg #[U d.dl, U d.q, I d.e]), v1, I mode, S s] wz fun res w' => ∃ v, res = .tuple #[v, .agg #[I M.2.k, I M.2.r, I M.2.c, I M.2.a]] ∧ Sep wz w' [accC v 50 eV []] := by
            intro wz hz
            refine (hrd wz hz).mono ?_
            rintro res w' ⟨v, vs, e, hS⟩
            rw [hM1] at hS
            have hl := hS.frzLen (.t .h)
            match vs, hl with
            | [], _ => exact ⟨v, e, hS.sub (.c .h Sub.n)⟩
          (have fct := (And.intro @hf @hr); repeat' (first | ((with_reducible apply G.a); exact rfl) | refine G.reg fun K hK => ?_ | (with_reducible (refine hK _ _ ?_); clear hK K) | (have hk := hK; clear hk; simp (disch := first | exact dis | fail) only [push_cast, ↓reduceIte, Nat.reduceAdd, Nat.reduceLeDiff, Nat.reduceEqDiff, Nat.reduceLT, Int.reduceToNat, fct]) | (refine brO_n ?_ ?_ <;> intro hb hc <;> first | (with_reducible exact False.elim hc) | (exfalso; omega) | (simp only [hb]; clear hb)) | ((first | refine zalc ?_ | ((with_reducible refine gBox ?_); refine zbox ?_)); intro gb wb hS) | ((with_reducible refine gSt ?_); refine zs2 ?_; intro wb hS) | (refine zcp 7 (few20_spec (h1.ext hS.x)) ?_; intro wb hS) | (refine zcp 8 (awake20_spec _ (hv.ext hS.x)) ?_; intro wb hS) | (refine zcp 11 (refD_spec o ho _) ?_; intro wb hS) | (refine zcp 24 (rightR_spec o ho _) ?_; intro wb hS) | (refine zco 9 (hrd0 _ hS.x) ?_; rintro vb wb ⟨rv, rfl, hS2⟩; have hS := hS2.ap; simp only [apps] at hS) | (refine G.cn ?_ ?_ <;> intro hc <;> first | (with_reducible exact False.elim hc) | (exfalso; omega) | skip))) <;> (try clear fct)
          all_goals first
            | (exfalso; omega)
            | ((first | refine G.r1 ?_ | refine G.r2 ?_ | refine G.r3 ?_ | refine G.r0 ?_ | refine G.d0 ?_); (try simp (disch := first | exact dis | fail) only [push_cast, ↓reduceIte, Nat.reduceAdd, Nat.reduceLeDiff, Nat.reduceEqDiff, Nat.reduceLT, Int.reduceToNat, fct]); exact Sep.xt (by assumption))
        · obtain ⟨c1, c2, c3⟩ := hgood hk
          have hrow : RowsOK M.1 := ⟨by omega, fun v hv => ⟨by rw [(c3 v hv).2.1]; omega, fun x hx => ⟨((c3 v hv).2.2 x hx).1, by have := ((c3 v hv).2.2 x hx).2; omega⟩⟩⟩
          have n3 : ∀ i, i < M.1.length → (M.1.getD i []).length ≤ 1000000000 := fun i hi => (hrow.2 (M.1.getD i []) (by rw [List.getD_eq_getElem?_getD, List.getElem?_eq_getElem hi]; exact List.getElem_mem hi)).1
          have hWr := fun (wz : World) (hz : Ext w wz) {x2 : Value} (g2 : RdT wz eVal x2 M.1) => write_spec o ho (h1.ext hz) g2 (by omega) (fun c hc => by have := l2 c hc; omega) hrow (ht.ext hz)
          have hWg := writeM_good o l M.1 (writeM_all o l M.1 c1 hr fun v hv => (c3 v hv).1)
          have hread := read_own ho hr l c1 (by omega) (fun c hc => by have := l2 c hc; omega) 1 (by omega) M.1 hrow.1 fun v hv => ⟨(hrow.2 v hv).2, (c3 v hv).1⟩
          have hTl := again_len o l M.1 s (by omega) l1 l2 c3 z1 z2
          rw [hWg.2.2.2] at hWr
          generalize txtF o true (namesC l :: M.1.map fun v => (recM v l).1) = T at *
          have hrd2 := fun (wz : World) (hz : Ext w wz) => by
            have h := read_spec o 1 T wz (h1.ext hz) hTl (by omega) (fun c hc => by have := l2 c hc; omega) (hv.ext hz)
            rw [hread] at h
            exact h
          unfold WrV at hWr
          dsimp only at hWr
          obtain ⟨rows, b⟩ := M
          dsimp only at c2
          subst c2
          dsimp only at *
          have haa : decide (rows = rows) = true := decide_eq_true rfl
          (have fct := (And.intro @hf (And.intro @hr @haa)); repeat' (first | ((with_reducible apply G.a); exact rfl) | refine G.reg fun K hK => ?_ | (with_reducible (refine hK _ _ ?_); clear hK K) | (have hk := hK; clear hk; simp (disch := first | exact dis | fail) only [push_cast, ↓reduceIte, Nat.reduceAdd, Nat.reduceLeDiff, Nat.reduceEqDiff, Nat.reduceLT, Int.reduceToNat, fct]) | (refine brO_n ?_ ?_ <;> intro hb hc <;> first | (with_reducible exact False.elim hc) | (exfalso; omega) | (simp only [hb]; clear hb)) | ((first | refine zalc ?_ | ((with_reducible refine gBox ?_); refine zbox ?_)); intro gb wb hS) | ((with_reducible refine gSt ?_); refine zs2 ?_; intro wb hS) | (refine zcp 7 (few20_spec (h1.ext hS.x)) ?_; intro wb hS) | (refine zcp 8 (awake20_spec _ (hv.ext hS.x)) ?_; intro wb hS) | (refine zcp 11 (refD_spec o ho _) ?_; intro wb hS) | (refine zcp 24 (rightR_spec o ho _) ?_; intro wb hS) | ((with_reducible (show CallK _ 9 [_, _, _, S s] _ _ _ _)); refine zco 9 (hrd _ hS.x) ?_; rintro vb wb ⟨rv, rs, rfl, hS2⟩; have hS := hS2.ap; simp only [apps] at hS) | ((with_reducible (show CallK _ 9 [_, _, _, S T] _ _ _ _)); refine zco 9 (hrd2 _ hS.x) ?_; rintro vb wb ⟨rv2, rs2, rfl, hS2⟩; have hS := hS2.ap; simp only [apps] at hS) | (refine zcp 25 (hWr _ hS.x (Sep.rdT (v := rv) (vs := rs) hS (by repeat constructor) (by repeat constructor))) ?_; intro wb hS) | ((with_reducible (show CallK _ 14 [rv2] _ _ _ _)); refine zco 14 (rows20_spec ref17_spec (t := rows) (Sep.rdT (v := rv2) (vs := rs2) hS (by repeat constructor) (by repeat constructor)) (by omega) n3) ?_; rintro vy wb ⟨us2, hS2⟩; have hS := hS2.ap; simp only [apps] at hS) | ((with_reducible (show CallK _ 14 [rv] _ _ _ _)); refine zco 14 (rows20_spec ref17_spec (t := rows) (Sep.rdT (v := rv) (vs := rs) hS (by repeat constructor) (by repeat constructor)) (by omega) n3) ?_; rintro vy wb ⟨us2, hS2⟩; have hS := hS2.ap; simp only [apps] at hS) | (refine zcp 13 (all20_spec (a := rows) (b := rows) (Sep.rdT hS (.t (.t .h)) (.t (.t (.t .h)))) (Sep.rdT hS .h (.t .h))) ?_; intro wb hS) | (refine G.cn ?_ ?_ <;> intro hc <;> first | (with_reducible exact False.elim hc) | (exfalso; omega) | skip))) <;> (try clear fct)
          all_goals first
            | (exfalso; omega)
            | ((first | refine G.r1 ?_ | refine G.r2 ?_ | refine G.r3 ?_ | refine G.r0 ?_ | refine G.d0 ?_); (try simp (disch := first | exact dis | fail) only [push_cast, ↓reduceIte, Nat.reduceAdd, Nat.reduceLeDiff, Nat.reduceEqDiff, Nat.reduceLT, Int.reduceToNat, fct]); exact Sep.xt (by assumption))
end Go.Proofs.YtdikpaochhacmaaGreatDoor
