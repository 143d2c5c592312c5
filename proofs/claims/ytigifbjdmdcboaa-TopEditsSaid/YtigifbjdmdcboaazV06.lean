/- Texts of the proof, joined. -/
import Derived.Test.YtigifbjdmdcboaazW06
import Derived.Test.YtigifbjdmdcboaazW15
namespace Go.Proofs.Ytigifbjdmdcboaa
set_option linter.unusedSimpArgs false
set_option linter.unusedVariables false
attribute [local irreducible] SemK UnitK StK AlcK BslK CallK CallV Instr.box Builtin.append_ Instr.makeSlice Instr.makeMap Instr.lookup Instr.mapUpdate Instr.sliceAt convert
open Go.RowKit
def isArr (P : Program) (t : TypeId) (n : Nat) : Option TypeId := match P.underlying t with
  | some (.array m e) => if m = n then (match P.info? e, P.underlying e with
    | some i, some (.int _) => if i.size = 1 then some e else none
    | _, _ => none) else none
  | _ => none
theorem idxAK {P : Program} {t : TypeId} {n k : Nat} {i0 : Int} {xs : List Value} {w : World} {d : Option Nat} {ρ : Fr} {next : Fr → World → Prop} (h : next (updO ρ d (xs.getD k undef)) w) (hi0 : i0 = k) (hk : k < n) (hl : xs.length = n) (hT : (isArr P t n).isSome = true) : SemK P (Instr.index t (.agg xs.toArray) (I i0)) w d ρ next := by
  subst hi0
  unfold isArr at hT
  split at hT <;> try (simp at hT; done)
  rename_i m e' hu
  split at hT <;> try (simp at hT; done)
  rename_i hm
  split at hT <;> try (simp at hT; done)
  rename_i i kk hi hue
  split at hT <;> try (simp at hT; done)
  rename_i hs
  subst hm
  have hag : (isAgg e').run P w = .ok false w := by simp [isAgg, run_underlying hue]
  have hb : (0 : Int) ≤ k ∧ (k : Int) < (m : Nat) := by omega
  have hg : xs[k]? = some (xs.getD k undef) := by rw [List.getD_eq_getElem?_getD, List.getElem?_eq_getElem (by omega)]; rfl
  have hsz : ∀ w, (sizeOf e').run P w = .ok 1 w := fun w => by simp [sizeOf, typeInfo, hi, hs]
  have hg' : xs.toArray[(k : Int).toNat * 1]? = some (xs.getD k undef) := by simpa using hg
  rw [semK_val (v := xs.getD k undef) (w' := w)]
  · exact h
  · unfold Instr.index
    simp only [Sem.run_bind, asIntOf, Sem.run_pure, Result.andThen_ok, run_underlying hu, hb, and_self, if_true, hsz, part, hag, Bool.false_eq_true, if_false, hg']
def c9l1 : MC := (.seq (.reg [qq 11 (.bin .lss (.tmp 10) (ki 2))]) (.seq (.cond (.tmp 11) .skip (.exit 0)) (.seq (.blk 1 (.seq (.reg [qq 12 (.raw (.index 70 (.tmp 9) (.tmp 10)) 3), qm 4 12]) (.seq (.reg [qm 13 4, qq 14 (.bin .lss (.tmp 13) (ki 0)), qm 15 14, qmf 15 16 4, qf 15 17 (.bin .gtr (.tmp 16) (ki 127)), qq 18 (.pick (.tmp 15) (kb true) (.tmp 17)), qm 19 18, qmf 19 20 4, qf 19 21 (.bin .eql (.tmp 20) (ki 10)), qq 22 (.pick (.tmp 19) (kb true) (.tmp 21)), qm 23 22, qmf 23 24 4, qf 23 25 (.bin .eql (.tmp 24) (ki 13)), qq 26 (.pick (.tmp 23) (kb true) (.tmp 25))]) (.cond (.tmp 26) (.seq (.reg [qq 2 (.mv (kb false))]) .ret) .skip)))) (.reg [qq 27 (.bin .add (.tmp 10) (ki 1)), qm 10 27]))))
def c9 : MC := (.seq (.reg [qq 1 (.raw (.box 28 (.tmp 0)) 0), qq 2 (.mv (kb false))]) (.seq (.seq (.reg [qq 5 (.fad 0 (.tmp 1)), qq 6 (.ld none (.tmp 5)), qq 7 (.fad 1 (.tmp 1)), qq 8 (.ld none (.tmp 7)), qq 9 (.bld [(.int .i64 0), (.int .i64 0)] [⟨0, ⟨1, (.tmp 6)⟩⟩, ⟨1, ⟨1, (.tmp 8)⟩⟩]), qq 10 (.mv (ki 0))]) (.blk 0 (.loop c9l1))) (.seq (.reg [qq 28 (.fad 0 (.tmp 1)), qq 29 (.ld none (.tmp 28)), qq 30 (.fad 1 (.tmp 1)), qq 31 (.ld none (.tmp 30)), qq 32 (.bin .neq (.tmp 29) (.tmp 31)), qm 33 32, qt 33 34 (.fad 2 (.tmp 1)), qt 33 35 (.ld none (.tmp 34)), qt 33 36 (.bin .eql (.tmp 35) (ki 1)), qmt 33 37 36, qf 37 38 (.fad 2 (.tmp 1)), qf 37 39 (.ld none (.tmp 38)), qf 37 40 (.bin .eql (.tmp 39) (ki 2)), qt 33 41 (.pick (.tmp 37) (kb true) (.tmp 40)), qmt 33 42 41, qf 42 43 (.fad 2 (.tmp 1)), qf 42 44 (.ld none (.tmp 43)), qf 42 45 (.bin .eql (.tmp 44) (ki 3)), qt 33 46 (.pick (.tmp 42) (kb true) (.tmp 45)), qq 47 (.pick (.tmp 33) (.tmp 46) (kb false)), qm 2 47]) .ret)))
theorem k9 : conv Try.prog 48 (Try.f9.body.getD .skip) = c9 := by kernel_rfl
theorem in9 {a0 : Value} {w : World} {R : Value → World → Prop} (h : G Try.prog Try.f9 48 [.c c9] R (frL 0 [a0]) w) : Ret Try.prog 9 #[a0] w R := G.enter (args := [a0]) Try.func9 (c := Try.f9.body.getD .skip) (by kernel_rfl) (by kernel_rfl) (by simp) k9 h
theorem rightR_spec (d : Dl) (hd : byD d) (w : World) : Pu Try.prog 9 #[(.agg #[I d.dl, I d.q, I d.e])] w (.bool (rightD d)) := by
  refine in9 ?_
  have hS := Sep.start w
  obtain ⟨b1, b2, b3, b4⟩ := hd
  repeat' (first | ((with_reducible apply G.a); exact rfl) | refine G.reg fun K hK => ?_ | (with_reducible (refine hK _ _ ?_); clear hK K) | (have hk := hK; clear hk; simp (disch := first | exact dis | fail) only [push_cast, ↓reduceIte, Nat.reduceAdd, Nat.reduceLeDiff, Nat.reduceEqDiff, Nat.reduceLT, Int.reduceToNat, fct]) | (refine brO_n ?_ ?_ <;> intro hb hc <;> first | (with_reducible exact False.elim hc) | (exfalso; omega) | (simp only [hb]; clear hb)) | (((with_reducible refine gBox ?_); refine zbox ?_); intro gb wb hS) | (refine G.cn ?_ ?_ <;> intro hc <;> first | (with_reducible exact False.elim hc) | (exfalso; omega) | skip))
  refine G.loop (fun r w' => ∃ k : Nat, k ≤ 2 ∧ r 10 = I k ∧ r 9 = .agg #[I d.dl, I d.q] ∧ r 1 = .pointer (some ⟨gb, 0, none⟩) ∧ (1 ≤ k → mayB d.dl = true) ∧ (2 ≤ k → mayB d.q = true) ∧ Sep w w' [boxC gb 28 [I d.dl, I d.q, I d.e]]) (fun r _ => 2 - toN (r 10)) ?_ ?_
  · refine ⟨0, ?_⟩
    ((repeat' apply And.intro) <;> first | exact dj | (simp only [push_cast, ↓reduceIte, Nat.reduceAdd, Nat.reduceLeDiff, Nat.reduceEqDiff, Nat.reduceLT, Int.reduceToNat] <;> omega) | skip)
    all_goals (intro h; omega)
  · clear hS
    rintro u wl ⟨k, hk, h10, h9, h1, c1, c2, hS⟩ ih
    obtain rfl | rfl | rfl : k = 0 ∨ k = 1 ∨ k = 2 := by omega
    · (have fct := (And.intro @h10 (And.intro @h9 @h1)); repeat' (first | ((with_reducible apply G.a); exact rfl) | refine G.reg fun K hK => ?_ | (with_reducible (refine hK _ _ ?_); clear hK K) | (have hk := hK; clear hk; simp (disch := first | exact dis | fail) only [push_cast, ↓reduceIte, Nat.reduceAdd, Nat.reduceLeDiff, Nat.reduceEqDiff, Nat.reduceLT, Int.reduceToNat, fct]) | (refine brO_n ?_ ?_ <;> intro hb hc <;> first | (with_reducible exact False.elim hc) | (exfalso; omega) | (simp only [hb]; clear hb)) | (((with_reducible refine gBox ?_); refine zbox ?_); intro gb wb hS) | (refine idxAK (k := 0) (n := 2) ?_ (by simp) (by decide) (by rfl) (by kernel_rfl)) | (refine G.cn ?_ ?_ <;> intro hc <;> first | (with_reducible exact False.elim hc) | (exfalso; omega) | skip))) <;> (try clear fct)
      all_goals first
        | ((have fct := (And.intro @h10 (And.intro @h9 @h1)); (first | refine G.r1 ?_ | refine G.r2 ?_ | refine G.r3 ?_ | refine G.r0 ?_); (try simp (disch := first | exact dis | fail) only [push_cast, ↓reduceIte, Nat.reduceAdd, Nat.reduceLeDiff, Nat.reduceEqDiff, Nat.reduceLT, Int.reduceToNat, fct]); (try clear fct)); refine ⟨?_, Sep.xt (by assumption)⟩; unfold rightD; rw [mayB_f (b := d.dl) (by omega)]; rfl)
        | (refine ih _ _ ⟨1, ?_⟩ ?_; rotate_left; (focus ((simp only [push_cast, ↓reduceIte, Nat.reduceAdd, Nat.reduceLeDiff, Nat.reduceEqDiff, Nat.reduceLT, Int.reduceToNat, toN_i, h10, h9, h1] <;> omega))); ((repeat' apply And.intro) <;> first | exact dj | (simp only [push_cast, ↓reduceIte, Nat.reduceAdd, Nat.reduceLeDiff, Nat.reduceEqDiff, Nat.reduceLT, Int.reduceToNat, h10, h9, h1] <;> omega) | skip) <;> first | (intro _; exact mayB_t (by omega) (by assumption) (by assumption)) | (intro h; omega))
    · (have fct := (And.intro @h10 (And.intro @h9 @h1)); repeat' (first | ((with_reducible apply G.a); exact rfl) | refine G.reg fun K hK => ?_ | (with_reducible (refine hK _ _ ?_); clear hK K) | (have hk := hK; clear hk; simp (disch := first | exact dis | fail) only [push_cast, ↓reduceIte, Nat.reduceAdd, Nat.reduceLeDiff, Nat.reduceEqDiff, Nat.reduceLT, Int.reduceToNat, fct]) | (refine brO_n ?_ ?_ <;> intro hb hc <;> first | (with_reducible exact False.elim hc) | (exfalso; omega) | (simp only [hb]; clear hb)) | (((with_reducible refine gBox ?_); refine zbox ?_); intro gb wb hS) | (refine idxAK (k := 1) (n := 2) ?_ (by simp) (by decide) (by rfl) (by kernel_rfl)) | (refine G.cn ?_ ?_ <;> intro hc <;> first | (with_reducible exact False.elim hc) | (exfalso; omega) | skip))) <;> (try clear fct)
      all_goals first
        | ((have fct := (And.intro @h10 (And.intro @h9 @h1)); (first | refine G.r1 ?_ | refine G.r2 ?_ | refine G.r3 ?_ | refine G.r0 ?_); (try simp (disch := first | exact dis | fail) only [push_cast, ↓reduceIte, Nat.reduceAdd, Nat.reduceLeDiff, Nat.reduceEqDiff, Nat.reduceLT, Int.reduceToNat, fct]); (try clear fct)); refine ⟨?_, Sep.xt (by assumption)⟩; unfold rightD; rw [mayB_f (b := d.q) (by omega), Bool.and_false]; rfl)
        | (refine ih _ _ ⟨2, ?_⟩ ?_; rotate_left; (focus ((simp only [push_cast, ↓reduceIte, Nat.reduceAdd, Nat.reduceLeDiff, Nat.reduceEqDiff, Nat.reduceLT, Int.reduceToNat, toN_i, h10, h9, h1] <;> omega))); ((repeat' apply And.intro) <;> first | exact dj | (simp only [push_cast, ↓reduceIte, Nat.reduceAdd, Nat.reduceLeDiff, Nat.reduceEqDiff, Nat.reduceLT, Int.reduceToNat, h10, h9, h1] <;> omega) | skip) <;> first | (intro _; exact mayB_t (by omega) (by assumption) (by assumption)) | (intro _; exact c1 (by omega)))
    · have e : rightD d = (!(decide (d.dl = d.q)) && endB d.e) := by unfold rightD; rw [c1 (by omega), c2 (by omega)]; rfl
      rw [e]
      unfold endB
      (have fct := (And.intro @h10 (And.intro @h9 @h1)); repeat' (first | ((with_reducible apply G.a); exact rfl) | refine G.reg fun K hK => ?_ | (with_reducible (refine hK _ _ ?_); clear hK K) | (have hk := hK; clear hk; simp (disch := first | exact dis | fail) only [push_cast, ↓reduceIte, Nat.reduceAdd, Nat.reduceLeDiff, Nat.reduceEqDiff, Nat.reduceLT, Int.reduceToNat, fct]) | (refine brO_n ?_ ?_ <;> intro hb hc <;> first | (with_reducible exact False.elim hc) | (exfalso; omega) | (simp only [hb]; clear hb)) | (((with_reducible refine gBox ?_); refine zbox ?_); intro gb wb hS) | (refine G.cn ?_ ?_ <;> intro hc <;> first | (with_reducible exact False.elim hc) | (exfalso; omega) | skip))) <;> (try clear fct)
      all_goals
        (have fct := (And.intro @h10 (And.intro @h9 @h1)); (first | refine G.r1 ?_ | refine G.r2 ?_ | refine G.r3 ?_ | refine G.r0 ?_); (try simp (disch := first | exact dis | fail) only [push_cast, ↓reduceIte, Nat.reduceAdd, Nat.reduceLeDiff, Nat.reduceEqDiff, Nat.reduceLT, Int.reduceToNat, fct]); (try clear fct))
        refine ⟨?_, Sep.xt (by assumption)⟩
        clear hS
        congr 1
        rw [Bool.eq_iff_iff]
        simp_all
def c10 : MC := (.seq (.reg [qq 1 (.raw (.box 23 (.tmp 0)) 0), qq 2 (.alc 28 [(.int .i64 0), (.int .i64 0), (.int .i64 0)])]) (.seq (.reg [qq 3 (.fad 0 (.tmp 1)), qq 4 (.ld none (.tmp 3)), qq 5 (.cvi .i64 (.tmp 4)), qq 6 (.fad 1 (.tmp 1)), qq 7 (.ld none (.tmp 6)), qq 8 (.cvi .i64 (.tmp 7)), qq 9 (.fad 2 (.tmp 1)), qq 10 (.ld none (.tmp 9)), qq 11 (.bld [(.int .i64 0), (.int .i64 0), (.int .i64 0)] [⟨0, ⟨1, (.tmp 5)⟩⟩, ⟨1, ⟨1, (.tmp 8)⟩⟩, ⟨2, ⟨1, (.tmp 10)⟩⟩]), qn (.st 3 (.tmp 2) (.tmp 11))]) .ret))
theorem k10 : conv Try.prog 12 (Try.f10.body.getD .skip) = c10 := by kernel_rfl
theorem in10 {a0 : Value} {w : World} {R : Value → World → Prop} (h : G Try.prog Try.f10 12 [.c c10] R (frL 0 [a0]) w) : Ret Try.prog 10 #[a0] w R := G.enter (args := [a0]) Try.func10 (c := Try.f10.body.getD .skip) (by kernel_rfl) (by kernel_rfl) (by simp) k10 h
theorem refD_spec (d : Dl) (hd : byD d) (w : World) : Pu Try.prog 10 #[(.agg #[U d.dl, U d.q, I d.e])] w (.agg #[I d.dl, I d.q, I d.e]) := by
  refine in10 ?_
  have hS := Sep.start w
  obtain ⟨b1, b2, b3, b4⟩ := hd
  repeat' (first | ((with_reducible apply G.a); exact rfl) | refine G.reg fun K hK => ?_ | (with_reducible (refine hK _ _ ?_); clear hK K) | (have hk := hK; clear hk; simp (disch := first | exact dis | fail) only [push_cast, ↓reduceIte, Nat.reduceAdd, Nat.reduceLeDiff, Nat.reduceEqDiff, Nat.reduceLT, Int.reduceToNat, fct]) | ((first | refine zalc ?_ | ((with_reducible refine gBox ?_); refine zbox ?_)); intro gb wb hS) | ((with_reducible refine gSt ?_); refine zs2 ?_; intro wb hS))
  (first | refine G.r1 ?_ | refine G.r2 ?_ | refine G.r3 ?_ | refine G.r0 ?_); (try simp (disch := first | exact dis | fail) only [push_cast, ↓reduceIte, Nat.reduceAdd, Nat.reduceLeDiff, Nat.reduceEqDiff, Nat.reduceLT, Int.reduceToNat, fct])
  (first | exact Sep.xt (by assumption) | exact ⟨rfl, Sep.xt (by assumption)⟩)
def stripM (s : Str) : Str := if s.take 3 = [239, 187, 191] then s.drop 3 else s
def c105 : MC := (.seq (.reg [qq 4 (.mv (kb false))]) (.seq (.reg [qm 5 0, qq 6 (.lenS (.tmp 5)), qm 7 1, qq 8 (.lenS (.tmp 7)), qq 9 (.bin .geq (.tmp 6) (.tmp 8)), qm 10 9, qmt 10 11 0, qmt 10 12 1, qt 10 13 (.lenS (.tmp 12)), qt 10 14 (.slS (.tmp 11) none (.some (.tmp 13))), qmt 10 15 1, qt 10 16 (.bin .eql (.tmp 14) (.tmp 15)), qq 17 (.pick (.tmp 10) (.tmp 16) (kb false)), qm 4 17]) .ret))
theorem k105 : conv Try.prog 18 (Try.f105.body.getD .skip) = c105 := by kernel_rfl
theorem in105 {a0 a1 : Value} {w : World} {R : Value → World → Prop} (h : G Try.prog Try.f105 18 [.c c105] R (frL 0 [a0, a1]) w) : Ret Try.prog 105 #[a0, a1] w R := G.enter (args := [a0, a1]) Try.func105 (c := Try.f105.body.getD .skip) (by kernel_rfl) (by kernel_rfl) (by simp) k105 h
theorem hp_spec (s p : Str) (w : World) (hl : s.length ≤ 1000000000) (hp : p.length ≤ 1000000000) : Pu Try.prog 105 #[S s, S p] w (.bool (s.take p.length == p)) := by
  refine in105 ?_
  have hS := Sep.start w
  by_cases h : (p.length : Int) ≤ s.length
  · (have fct := @h; repeat' (first | ((with_reducible apply G.a); exact rfl) | refine G.reg fun K hK => ?_ | (with_reducible (refine hK _ _ ?_); clear hK K) | (have hk := hK; clear hk; simp (disch := first | exact dis | fail) only [push_cast, ↓reduceIte, Nat.reduceAdd, Nat.reduceLeDiff, Nat.reduceEqDiff, Nat.reduceLT, Int.reduceToNat, fct]) | (refine brO_n ?_ ?_ <;> intro hb hc <;> first | (with_reducible exact False.elim hc) | (exfalso; omega) | (simp only [hb]; clear hb)))) <;> (try clear fct)
    all_goals
      (have fct := @h; (first | refine G.r1 ?_ | refine G.r2 ?_ | refine G.r3 ?_ | refine G.r0 ?_); (try simp (disch := first | exact dis | fail) only [push_cast, ↓reduceIte, Nat.reduceAdd, Nat.reduceLeDiff, Nat.reduceEqDiff, Nat.reduceLT, Int.reduceToNat, fct]); (try clear fct))
      (first | exact Sep.xt (by assumption) | exact ⟨rfl, Sep.xt (by assumption)⟩)
  · have hne : (s.take p.length == p) = false := by
      rw [beq_eq_false_iff_ne]
      intro e
      have := congrArg List.length e
      simp at this; omega
    (have fct := @h; repeat' (first | ((with_reducible apply G.a); exact rfl) | refine G.reg fun K hK => ?_ | (with_reducible (refine hK _ _ ?_); clear hK K) | (have hk := hK; clear hk; simp (disch := first | exact dis | fail) only [push_cast, ↓reduceIte, Nat.reduceAdd, Nat.reduceLeDiff, Nat.reduceEqDiff, Nat.reduceLT, Int.reduceToNat, fct]) | (refine brO_n ?_ ?_ <;> intro hb hc <;> first | (with_reducible exact False.elim hc) | (exfalso; omega) | (simp only [hb]; clear hb)))) <;> (try clear fct)
    all_goals
      (have fct := @h; (first | refine G.r1 ?_ | refine G.r2 ?_ | refine G.r3 ?_ | refine G.r0 ?_); (try simp (disch := first | exact dis | fail) only [push_cast, ↓reduceIte, Nat.reduceAdd, Nat.reduceLeDiff, Nat.reduceEqDiff, Nat.reduceLT, Int.reduceToNat, fct]); (try clear fct))
      rw [hne]
      (first | exact Sep.xt (by assumption) | exact ⟨rfl, Sep.xt (by assumption)⟩)
def c88 : MC := (.seq (.reg [qq 4 (.mv (.const (S []))), qq 5 (.mv (kb false))]) (.seq (.seq (.reg [qm 6 0, qm 7 1, qq 8 (.call 105 [(.tmp 6), (.tmp 7)]), qq 9 (.un .not (.tmp 8))]) (.cond (.tmp 9) (.seq (.reg [qm 10 0, qm 4 10, qq 5 (.mv (kb false))]) .ret) .skip)) (.seq (.reg [qm 11 0, qm 12 1, qq 13 (.lenS (.tmp 12)), qq 14 (.slS (.tmp 11) (.some (.tmp 13)) none), qm 4 14, qq 5 (.mv (kb true))]) .ret)))
theorem k88 : conv Try.prog 15 (Try.f88.body.getD .skip) = c88 := by kernel_rfl
theorem in88 {a0 a1 : Value} {w : World} {R : Value → World → Prop} (h : G Try.prog Try.f88 15 [.c c88] R (frL 0 [a0, a1]) w) : Ret Try.prog 88 #[a0, a1] w R := G.enter (args := [a0, a1]) Try.func88 (c := Try.f88.body.getD .skip) (by kernel_rfl) (by kernel_rfl) (by simp) k88 h
theorem cutp0_spec (s p : Str) (w : World) (hl : s.length ≤ 1000000000) (hp : p.length ≤ 1000000000) : Pu Try.prog 88 #[S s, S p] w (.tuple #[S (if (s.take p.length == p) = true then s.drop p.length else s), .bool (s.take p.length == p)]) := by
  refine in88 ?_
  have hS := Sep.start w
  cases h : (s.take p.length == p)
  · rw [if_neg (by simp)]
    (have fct := @h; repeat' (first | ((with_reducible apply G.a); exact rfl) | refine G.reg fun K hK => ?_ | (with_reducible (refine hK _ _ ?_); clear hK K) | (have hk := hK; clear hk; simp (disch := first | exact dis | fail) only [push_cast, ↓reduceIte, Nat.reduceAdd, Nat.reduceLeDiff, Nat.reduceEqDiff, Nat.reduceLT, Int.reduceToNat, fct]) | (refine zcp 105 (hp_spec s p _ hl hp) ?_; intro wb hS) | (refine G.cn ?_ ?_ <;> intro hc <;> first | (with_reducible exact False.elim hc) | (exfalso; omega) | skip))) <;> (try clear fct)
    all_goals
      (have fct := @h; (first | refine G.r1 ?_ | refine G.r2 ?_ | refine G.r3 ?_ | refine G.r0 ?_); (try simp (disch := first | exact dis | fail) only [push_cast, ↓reduceIte, Nat.reduceAdd, Nat.reduceLeDiff, Nat.reduceEqDiff, Nat.reduceLT, Int.reduceToNat, fct]); (try clear fct))
      (first | exact Sep.xt (by assumption) | exact ⟨rfl, Sep.xt (by assumption)⟩)
  · rw [if_pos rfl]
    have hlen : (p.length : Int) ≤ s.length := by
      have e : s.take p.length = p := by simpa using h
      have := congrArg List.length e
      simp at this; omega
    (have fct := @h; repeat' (first | ((with_reducible apply G.a); exact rfl) | refine G.reg fun K hK => ?_ | (with_reducible (refine hK _ _ ?_); clear hK K) | (have hk := hK; clear hk; simp (disch := first | exact dis | fail) only [push_cast, ↓reduceIte, Nat.reduceAdd, Nat.reduceLeDiff, Nat.reduceEqDiff, Nat.reduceLT, Int.reduceToNat, fct]) | (refine zcp 105 (hp_spec s p _ hl hp) ?_; intro wb hS) | (refine G.cn ?_ ?_ <;> intro hc <;> first | (with_reducible exact False.elim hc) | (exfalso; omega) | skip))) <;> (try clear fct)
    all_goals
      (have fct := @h; (first | refine G.r1 ?_ | refine G.r2 ?_ | refine G.r3 ?_ | refine G.r0 ?_); (try simp (disch := first | exact dis | fail) only [push_cast, ↓reduceIte, Nat.reduceAdd, Nat.reduceLeDiff, Nat.reduceEqDiff, Nat.reduceLT, Int.reduceToNat, fct]); (try clear fct))
      (first | exact Sep.xt (by assumption) | exact ⟨rfl, Sep.xt (by assumption)⟩)
def c68 : MC := (.seq (.reg [qq 4 (.mv (.const (S []))), qq 5 (.mv (kb false))]) (.seq (.reg [qm 6 0, qm 7 1, qq 8 (.call 88 [(.tmp 6), (.tmp 7)]), qq 9 (.ext 0 (.tmp 8)), qq 10 (.ext 1 (.tmp 8)), qm 4 9, qm 5 10]) .ret))
theorem k68 : conv Try.prog 11 (Try.f68.body.getD .skip) = c68 := by kernel_rfl
theorem in68 {a0 a1 : Value} {w : World} {R : Value → World → Prop} (h : G Try.prog Try.f68 11 [.c c68] R (frL 0 [a0, a1]) w) : Ret Try.prog 68 #[a0, a1] w R := G.enter (args := [a0, a1]) Try.func68 (c := Try.f68.body.getD .skip) (by kernel_rfl) (by kernel_rfl) (by simp) k68 h
theorem cutp_spec (s p : Str) (w : World) (hl : s.length ≤ 1000000000) (hp : p.length ≤ 1000000000) : Pu Try.prog 68 #[S s, S p] w (.tuple #[S (if (s.take p.length == p) = true then s.drop p.length else s), .bool (s.take p.length == p)]) := by
  refine in68 ?_
  have hS := Sep.start w
  repeat' (first | ((with_reducible apply G.a); exact rfl) | refine G.reg fun K hK => ?_ | (with_reducible (refine hK _ _ ?_); clear hK K) | (have hk := hK; clear hk; simp (disch := first | exact dis | fail) only [push_cast, ↓reduceIte, Nat.reduceAdd, Nat.reduceLeDiff, Nat.reduceEqDiff, Nat.reduceLT, Int.reduceToNat, fct]) | (refine zcp 88 (cutp0_spec s p _ hl hp) ?_; intro wb hS))
  (first | refine G.r1 ?_ | refine G.r2 ?_ | refine G.r3 ?_ | refine G.r0 ?_); (try simp (disch := first | exact dis | fail) only [push_cast, ↓reduceIte, Nat.reduceAdd, Nat.reduceLeDiff, Nat.reduceEqDiff, Nat.reduceLT, Int.reduceToNat, fct])
  (first | exact Sep.xt (by assumption) | exact ⟨rfl, Sep.xt (by assumption)⟩)
def c50 : MC := (.seq (.reg [qq 2 (.mv (.const (S []))), qq 3 (.mv (kb false))]) (.seq (.reg [qm 4 0, qq 5 (.call 68 [(.tmp 4), (.const (S [239, 187, 191]))]), qq 6 (.ext 0 (.tmp 5)), qq 7 (.ext 1 (.tmp 5)), qm 2 6, qm 3 7]) .ret))
theorem k50 : conv Try.prog 8 (Try.f50.body.getD .skip) = c50 := by kernel_rfl
theorem in50 {a0 : Value} {w : World} {R : Value → World → Prop} (h : G Try.prog Try.f50 8 [.c c50] R (frL 0 [a0]) w) : Ret Try.prog 50 #[a0] w R := G.enter (args := [a0]) Try.func50 (c := Try.f50.body.getD .skip) (by kernel_rfl) (by kernel_rfl) (by simp) k50 h
theorem strip_spec (s : Str) (w : World) (hl : s.length ≤ 1000000000) : Pu Try.prog 50 #[S s] w (.tuple #[S (stripM s), .bool (decide (s.take 3 = [239, 187, 191]))]) := by
  refine in50 ?_
  have hS := Sep.start w
  have h := cutp_spec s [239, 187, 191] (hl := hl) (hp := by decide)
  have e1 : (if (s.take ([239, 187, 191] : Str).length == [239, 187, 191]) = true then s.drop ([239, 187, 191] : Str).length else s) = stripM s := by
    unfold stripM; by_cases h : s.take 3 = [239, 187, 191] <;> simp [h]
  have e2 : (s.take ([239, 187, 191] : Str).length == [239, 187, 191]) = decide (s.take 3 = [239, 187, 191]) := by
    rw [Bool.eq_iff_iff]; simp
  rw [e1, e2] at h
  repeat' (first | ((with_reducible apply G.a); exact rfl) | refine G.reg fun K hK => ?_ | (with_reducible (refine hK _ _ ?_); clear hK K) | (have hk := hK; clear hk; simp (disch := first | exact dis | fail) only [push_cast, ↓reduceIte, Nat.reduceAdd, Nat.reduceLeDiff, Nat.reduceEqDiff, Nat.reduceLT, Int.reduceToNat, fct]) | (refine zcp 68 (h _) ?_; intro wb hS))
  (first | refine G.r1 ?_ | refine G.r2 ?_ | refine G.r3 ?_ | refine G.r0 ?_); (try simp (disch := first | exact dis | fail) only [push_cast, ↓reduceIte, Nat.reduceAdd, Nat.reduceLeDiff, Nat.reduceEqDiff, Nat.reduceLT, Int.reduceToNat, fct])
  (first | exact Sep.xt (by assumption) | exact ⟨rfl, Sep.xt (by assumption)⟩)
theorem u8_lit {b c : UInt8} {n : Int} (hn : (c.toNat : Int) = n) (h : (b.toNat : Int) = n) : b = c := UInt8.toNat_inj.1 (by omega)
theorem sameT_no (a b : List (List Str)) (k : Nat) (h : ¬ a.getD k [] = b.getD k []) : ¬ a = b := fun e => h (by rw [e])
theorem sameT_step (a b : List (List Str)) (k : Nat) (h1 : k < a.length) (h2 : k < b.length) (e : a.take k = b.take k) (h : a.getD k [] = b.getD k []) : a.take (k + 1) = b.take (k + 1) := by
  rw [List.take_succ_eq_append_getElem h1, List.take_succ_eq_append_getElem h2, e]
  simp only [List.getD_eq_getElem?_getD, List.getElem?_eq_getElem h1, List.getElem?_eq_getElem h2, Option.getD_some] at h
  rw [h]
def c18l1 : MC := (.seq (.reg [qq 14 (.bin .lss (.tmp 13) (.tmp 12))]) (.seq (.cond (.tmp 14) .skip (.exit 0)) (.seq (.blk 1 (.seq (.reg [qm 15 13, qm 5 15]) (.seq (.drg [qm 16 0, qm 17 5, qq 18 (.adr 1 (.tmp 16) (.tmp 17)), qq 19 (.ld none (.tmp 18)), qm 20 1, qm 21 5, qq 22 (.adr 1 (.tmp 20) (.tmp 21)), qq 23 (.ld none (.tmp 22)), qq 24 (.call 39 [(.tmp 19), (.tmp 23)]), qq 25 (.un .not (.tmp 24))] (.some (.br [qm 16 0, qm 17 5, qq 18 (.adr 1 (.tmp 16) (.tmp 17)), qm 20 1, qm 21 5, qq 22 (.adr 1 (.tmp 20) (.tmp 21))] (.leaf [qq 19 (.ld none (.tmp 18)), qq 23 (.ld none (.tmp 22)), qq 24 (.call 39 [(.tmp 19), (.tmp 23)]), qq 25 (.un .not (.tmp 24))]) (.leaf [qq 23 (.ld none (.tmp 22)), qq 19 (.ld none (.tmp 18)), qq 24 (.call 39 [(.tmp 19), (.tmp 23)]), qq 25 (.un .not (.tmp 24))])))) (.cond (.tmp 25) (.seq (.reg [qq 4 (.mv (kb false))]) .ret) .skip)))) (.reg [qq 26 (.bin .add (.tmp 13) (ki 1)), qm 13 26]))))
def c18 : MC := (.seq (.reg [qq 4 (.mv (kb false))]) (.seq (.seq (.reg [qm 6 0, qq 7 (.len (.tmp 6)), qm 8 1, qq 9 (.len (.tmp 8)), qq 10 (.bin .neq (.tmp 7) (.tmp 9))]) (.cond (.tmp 10) (.seq (.reg [qq 4 (.mv (kb false))]) .ret) .skip)) (.seq (.seq (.reg [qm 11 0, qq 12 (.len (.tmp 11)), qq 13 (.mv (ki 0))]) (.blk 0 (.loop c18l1))) (.seq (.reg [qq 4 (.mv (kb true))]) .ret))))
theorem k18 : conv Try.prog 27 (Try.f18.body.getD .skip) = c18 := by kernel_rfl
theorem in18 {a0 a1 : Value} {w : World} {R : Value → World → Prop} (h : G Try.prog Try.f18 27 [.c c18] R (frL 0 [a0, a1]) w) : Ret Try.prog 18 #[a0, a1] w R := G.enter (args := [a0, a1]) Try.func18 (c := Try.f18.body.getD .skip) (by kernel_rfl) (by kernel_rfl) (by simp) k18 h
theorem sameT_spec {va vb : Value} {a b : List (List Str)} {w : World} (ha : RdT w eS va a) (hb : RdT w eS vb b) : Pu Try.prog 18 #[va, vb] w (.bool (decide (a = b))) := by
  refine in18 ?_
  have hS := Sep.start w
  obtain ⟨vs, h1, l1, i1⟩ := ha
  obtain ⟨us, h2, l2, i2⟩ := hb
  have hbd := h1.bd
  have hbd2 := h2.bd
  repeat' (first | ((with_reducible apply G.a); exact rfl) | refine G.reg fun K hK => ?_ | (with_reducible (refine hK _ _ ?_); clear hK K) | (with_reducible (refine hK _ ?_); clear hK K; intro wd hxd; have hS := Sep.xx hxd) | ((first | have hk := hK | have hk := hK2); clear hk; simp (disch := first | exact dis | fail) only [push_cast, ↓reduceIte, Nat.reduceAdd, Nat.reduceLeDiff, Nat.reduceEqDiff, Nat.reduceLT, Int.reduceToNat, fct]) | (refine G.drt mixed fun K hK wd hxd => ?_; have hS := Sep.xx hxd) | with_reducible refine OT_leaf ?_ | (with_reducible (refine hK2 _ ?_); clear hK2 K2; intro wd hxd; have hS := Sep.xx hxd) | with_reducible refine OT_br fun K2 hK2 => ?_ | (refine hK2 _ _ ?_ ?_ <;> clear hK2 K2) | refine G.drg mixed fun K hK => ?_ | (refine G.cn ?_ ?_ <;> intro hc <;> first | (with_reducible exact False.elim hc) | (exfalso; omega) | skip))
  · (first | refine G.r1 ?_ | refine G.r2 ?_ | refine G.r3 ?_ | refine G.r0 ?_); (try simp (disch := first | exact dis | fail) only [push_cast, ↓reduceIte, Nat.reduceAdd, Nat.reduceLeDiff, Nat.reduceEqDiff, Nat.reduceLT, Int.reduceToNat, fct])
    (refine ⟨?_, Sep.xt (by assumption)⟩)
    rw [decide_eq_false (fun h => hc (by rw [l1, l2, h]))]
  · refine G.loop (fun r w' => ∃ k : Nat, k ≤ vs.length ∧ r 13 = I k ∧ r 12 = I vs.length ∧ r 0 = va ∧ r 1 = vb ∧ a.take k = b.take k ∧ Sep w w' []) (fun r _ => vs.length - toN (r 13)) ?_ ?_
    · refine ⟨0, ?_⟩
      ((repeat' apply And.intro) <;> first | exact dj | (simp only [push_cast, ↓reduceIte, Nat.reduceAdd, Nat.reduceLeDiff, Nat.reduceEqDiff, Nat.reduceLT, Int.reduceToNat] <;> omega) | skip)
    · clear hS
      rintro u wl ⟨k, hk, h13, h12, q0, q1, e, hS⟩ ih
      by_cases hlt : (k : Int) < vs.length
      · (have fct := (And.intro @h13 (And.intro @h12 (And.intro @q0 @q1))); repeat' (first | ((with_reducible apply G.a); exact rfl) | refine G.reg fun K hK => ?_ | (with_reducible (refine hK _ _ ?_); clear hK K) | (with_reducible (refine hK _ ?_); clear hK K; intro wd hxd; have hS := Sep.xx hxd) | ((first | have hk := hK | have hk := hK2); clear hk; simp (disch := first | exact dis | fail) only [push_cast, ↓reduceIte, Nat.reduceAdd, Nat.reduceLeDiff, Nat.reduceEqDiff, Nat.reduceLT, Int.reduceToNat, fct]) | (refine zcp 39 (same05_spec ((i1 k (by omega)).ext hS.x) ((i2 k (by omega)).ext hS.x)) ?_; intro wb hS) | (refine G.drt mixed fun K hK wd hxd => ?_; have hS := Sep.xx hxd) | with_reducible refine OT_leaf ?_ | (with_reducible (refine hK2 _ ?_); clear hK2 K2; intro wd hxd; have hS := Sep.xx hxd) | with_reducible refine OT_br fun K2 hK2 => ?_ | (refine hK2 _ _ ?_ ?_ <;> clear hK2 K2) | refine G.drg mixed fun K hK => ?_ | (refine G.cn ?_ ?_ <;> intro hc <;> first | (with_reducible exact False.elim hc) | (exfalso; omega) | skip))) <;> (try clear fct)
        all_goals first
          | ((have fct := (And.intro @h13 (And.intro @h12 (And.intro @q0 @q1))); (first | refine G.r1 ?_ | refine G.r2 ?_ | refine G.r3 ?_ | refine G.r0 ?_); (try simp (disch := first | exact dis | fail) only [push_cast, ↓reduceIte, Nat.reduceAdd, Nat.reduceLeDiff, Nat.reduceEqDiff, Nat.reduceLT, Int.reduceToNat, fct]); (try clear fct)); refine ⟨?_, Sep.xt (by assumption)⟩; rw [decide_eq_false (sameT_no a b k (by assumption))])
          | ((refine ih _ _ ⟨k + 1, ?_⟩ ?_; rotate_left; (focus ((simp only [push_cast, ↓reduceIte, Nat.reduceAdd, Nat.reduceLeDiff, Nat.reduceEqDiff, Nat.reduceLT, Int.reduceToNat, toN_i, h13, h12, q0, q1] <;> omega))); ((repeat' apply And.intro) <;> first | exact dj | (simp only [push_cast, ↓reduceIte, Nat.reduceAdd, Nat.reduceLeDiff, Nat.reduceEqDiff, Nat.reduceLT, Int.reduceToNat, h13, h12, q0, q1] <;> omega) | skip)); exact sameT_step a b k (by omega) (by omega) e (by assumption))
      · (have fct := (And.intro @h13 (And.intro @h12 (And.intro @q0 @q1))); repeat' (first | ((with_reducible apply G.a); exact rfl) | refine G.reg fun K hK => ?_ | (with_reducible (refine hK _ _ ?_); clear hK K) | (with_reducible (refine hK _ ?_); clear hK K; intro wd hxd; have hS := Sep.xx hxd) | ((first | have hk := hK | have hk := hK2); clear hk; simp (disch := first | exact dis | fail) only [push_cast, ↓reduceIte, Nat.reduceAdd, Nat.reduceLeDiff, Nat.reduceEqDiff, Nat.reduceLT, Int.reduceToNat, fct]) | (refine G.drt mixed fun K hK wd hxd => ?_; have hS := Sep.xx hxd) | with_reducible refine OT_leaf ?_ | (with_reducible (refine hK2 _ ?_); clear hK2 K2; intro wd hxd; have hS := Sep.xx hxd) | with_reducible refine OT_br fun K2 hK2 => ?_ | (refine hK2 _ _ ?_ ?_ <;> clear hK2 K2) | refine G.drg mixed fun K hK => ?_ | (refine G.cn ?_ ?_ <;> intro hc <;> first | (with_reducible exact False.elim hc) | (exfalso; omega) | skip))) <;> (try clear fct)
        (have fct := (And.intro @h13 (And.intro @h12 (And.intro @q0 @q1))); (first | refine G.r1 ?_ | refine G.r2 ?_ | refine G.r3 ?_ | refine G.r0 ?_); (try simp (disch := first | exact dis | fail) only [push_cast, ↓reduceIte, Nat.reduceAdd, Nat.reduceLeDiff, Nat.reduceEqDiff, Nat.reduceLT, Int.reduceToNat, fct]); (try clear fct))
        refine ⟨?_, Sep.xt (by assumption)⟩
        rw [List.take_of_length_le (by omega), List.take_of_length_le (by omega)] at e
        rw [decide_eq_true e]
end Go.Proofs.Ytigifbjdmdcboaa
