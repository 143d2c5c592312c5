/- Texts of the proof, joined. -/
import Derived.Test.YtdikpaochhacmaaGreatDoorsW06
import Derived.Test.YtdikpaochhacmaaGreatDoorsW15
namespace Go.Proofs.YtdikpaochhacmaaGreatDoor
set_option linter.unusedSimpArgs false
set_option linter.unusedVariables false
attribute [local irreducible] SemK UnitK StK AlcK BslK CallK CallV Instr.box Builtin.append_ Instr.makeSlice Instr.makeMap Instr.lookup Instr.mapUpdate Instr.sliceAt convert
open Go.RowKit
def isArr (P : Program) (t : TypeId) (n : Nat) : Option TypeId := match P.underlying t with
  | some (.array m e) => if m = n then (match P.info? e, P.underlying e with
    | some i, some (.int _) => if i.size = 1 then some e else none
    | _, _ => none) else none
  | _ => none
theorem idxAK {P : Program} {t : TypeId} {n k : Nat} {i0 : Int} {xs : List Value} {w : World} {d : Option Nat} {ρ : Fr} {next : Fr → World → Prop} (h : next (updO ρ d (xs.getD k undef)) w) (hi0 : i0 = k) (hk : k < n) (hl : xs.length = n) (hT : (isArr P t n).isSome = true) : SemK P (Instr.index t (.agg xs.toArray) (I i0)) w d ρ next := by
  subst hi0
  unfold isArr at hT
  split at hT <;> try (simp at hT; done)
  rename_i m e' hu
  split at hT <;> try (simp at hT; done)
  rename_i hm
  split at hT <;> try (simp at hT; done)
  rename_i i kk hi hue
  split at hT <;> try (simp at hT; done)
  rename_i hs
  subst hm
  have hag : (isAgg e').run P w = .ok false w := by simp [isAgg, run_underlying hue]
  have hb : (0 : Int) ≤ k ∧ (k : Int) < (m : Nat) := by omega
  have hg : xs[k]? = some (xs.getD k undef) := by rw [List.getD_eq_getElem?_getD, List.getElem?_eq_getElem (by omega)]; rfl
  have hsz : ∀ w, (sizeOf e').run P w = .ok 1 w := fun w => by simp [sizeOf, typeInfo, hi, hs]
  have hg' : xs.toArray[(k : Int).toNat * 1]? = some (xs.getD k undef) := by simpa using hg
  rw [semK_val (v := xs.getD k undef) (w' := w)]
  · exact h
  · unfold Instr.index
    simp only [Sem.run_bind, asIntOf, Sem.run_pure, Result.andThen_ok, run_underlying hu, hb, and_self, if_true, hsz, part, hag, Bool.false_eq_true, if_false, hg']
def c24l1 : MC := (.seq (.reg [qq 11 (.bin .lss (.tmp 10) (ki 2))]) (.seq (.cond (.tmp 11) .skip (.exit 0)) (.seq (.blk 1 (.seq (.reg [qq 12 (.raw (.index 121 (.tmp 9) (.tmp 10)) 3), qm 4 12]) (.seq (.reg [qm 13 4, qq 14 (.bin .lss (.tmp 13) (ki 0)), qm 15 14, qmf 15 16 4, qf 15 17 (.bin .gtr (.tmp 16) (ki 127)), qq 18 (.pick (.tmp 15) (kb true) (.tmp 17)), qm 19 18, qmf 19 20 4, qf 19 21 (.bin .eql (.tmp 20) (ki 10)), qq 22 (.pick (.tmp 19) (kb true) (.tmp 21)), qm 23 22, qmf 23 24 4, qf 23 25 (.bin .eql (.tmp 24) (ki 13)), qq 26 (.pick (.tmp 23) (kb true) (.tmp 25))]) (.cond (.tmp 26) (.seq (.reg [qq 2 (.mv (kb false))]) .ret) .skip)))) (.reg [qq 27 (.bin .add (.tmp 10) (ki 1)), qm 10 27]))))
def c24 : MC := (.seq (.reg [qq 1 (.raw (.box 41 (.tmp 0)) 0), qq 2 (.mv (kb false))]) (.seq (.seq (.reg [qq 5 (.fad 0 (.tmp 1)), qq 6 (.ld none (.tmp 5)), qq 7 (.fad 1 (.tmp 1)), qq 8 (.ld none (.tmp 7)), qq 9 (.bld [(.int .i64 0), (.int .i64 0)] [⟨0, ⟨1, (.tmp 6)⟩⟩, ⟨1, ⟨1, (.tmp 8)⟩⟩]), qq 10 (.mv (ki 0))]) (.blk 0 (.loop c24l1))) (.seq (.reg [qq 28 (.fad 0 (.tmp 1)), qq 29 (.ld none (.tmp 28)), qq 30 (.fad 1 (.tmp 1)), qq 31 (.ld none (.tmp 30)), qq 32 (.bin .neq (.tmp 29) (.tmp 31)), qm 33 32, qt 33 34 (.fad 2 (.tmp 1)), qt 33 35 (.ld none (.tmp 34)), qt 33 36 (.bin .eql (.tmp 35) (ki 1)), qmt 33 37 36, qf 37 38 (.fad 2 (.tmp 1)), qf 37 39 (.ld none (.tmp 38)), qf 37 40 (.bin .eql (.tmp 39) (ki 2)), qt 33 41 (.pick (.tmp 37) (kb true) (.tmp 40)), qmt 33 42 41, qf 42 43 (.fad 2 (.tmp 1)), qf 42 44 (.ld none (.tmp 43)), qf 42 45 (.bin .eql (.tmp 44) (ki 3)), qt 33 46 (.pick (.tmp 42) (kb true) (.tmp 45)), qq 47 (.pick (.tmp 33) (.tmp 46) (kb false)), qm 2 47]) .ret)))
theorem k24 : conv Tryz.prog 48 (Tryz.f24.body.getD .skip) = c24 := by kernel_rfl
theorem in24 {a0 : Value} {w : World} {R : Value → World → Prop} (h : G Tryz.prog Tryz.f24 48 [.c c24] R (frL 0 [a0]) w) : Ret Tryz.prog 24 #[a0] w R := G.enter (args := [a0]) Tryz.func24 (c := Tryz.f24.body.getD .skip) (by kernel_rfl) (by kernel_rfl) (by simp) k24 h
theorem rightR_spec (d : Dl) (hd : byD d) (w : World) : Pu Tryz.prog 24 #[(.agg #[I d.dl, I d.q, I d.e])] w (.bool (rightD d)) := by
  refine in24 ?_
  have hS := Sep.start w
  obtain ⟨b1, b2, b3, b4⟩ := hd
  repeat' (first | ((with_reducible apply G.a); exact rfl) | refine G.reg fun K hK => ?_ | (with_reducible (refine hK _ _ ?_); clear hK K) | (have hk := hK; clear hk; simp (disch := first | exact dis | fail) only [push_cast, ↓reduceIte, Nat.reduceAdd, Nat.reduceLeDiff, Nat.reduceEqDiff, Nat.reduceLT, Int.reduceToNat, fct]) | (refine brO_n ?_ ?_ <;> intro hb hc <;> first | (with_reducible exact False.elim hc) | (exfalso; omega) | (simp only [hb]; clear hb)) | (((with_reducible refine gBox ?_); refine zbox ?_); intro gb wb hS) | (refine G.cn ?_ ?_ <;> intro hc <;> first | (with_reducible exact False.elim hc) | (exfalso; omega) | skip))
  refine G.loop (fun r w' => ∃ k : Nat, k ≤ 2 ∧ r 10 = I k ∧ r 9 = .agg #[I d.dl, I d.q] ∧ r 1 = .pointer (some ⟨gb, 0, none⟩) ∧ (1 ≤ k → mayB d.dl = true) ∧ (2 ≤ k → mayB d.q = true) ∧ Sep w w' [boxC gb 41 [I d.dl, I d.q, I d.e]]) (fun r _ => 2 - toN (r 10)) ?_ ?_
  · refine ⟨0, ?_⟩
    ((repeat' apply And.intro) <;> first | exact dj | (simp only [push_cast, ↓reduceIte, Nat.reduceAdd, Nat.reduceLeDiff, Nat.reduceEqDiff, Nat.reduceLT, Int.reduceToNat] <;> omega) | skip)
    all_goals (intro h; omega)
  · clear hS
    rintro u wl ⟨k, hk, h10, h9, h1, c1, c2, hS⟩ ih
    obtain rfl | rfl | rfl : k = 0 ∨ k = 1 ∨ k = 2 := by omega
    · (have fct := (And.intro @h10 (And.intro @h9 @h1)); repeat' (first | ((with_reducible apply G.a); exact rfl) | refine G.reg fun K hK => ?_ | (with_reducible (refine hK _ _ ?_); clear hK K) | (have hk := hK; clear hk; simp (disch := first | exact dis | fail) only [push_cast, ↓reduceIte, Nat.reduceAdd, Nat.reduceLeDiff, Nat.reduceEqDiff, Nat.reduceLT, Int.reduceToNat, fct]) | (refine brO_n ?_ ?_ <;> intro hb hc <;> first | (with_reducible exact False.elim hc) | (exfalso; omega) | (simp only [hb]; clear hb)) | (((with_reducible refine gBox ?_); refine zbox ?_); intro gb wb hS) | (refine idxAK (k := 0) (n := 2) ?_ (by simp) (by decide) (by rfl) (by kernel_rfl)) | (refine G.cn ?_ ?_ <;> intro hc <;> first | (with_reducible exact False.elim hc) | (exfalso; omega) | skip))) <;> (try clear fct)
      all_goals first
        | ((have fct := (And.intro @h10 (And.intro @h9 @h1)); (first | refine G.r1 ?_ | refine G.r2 ?_ | refine G.r3 ?_ | refine G.r0 ?_ | refine G.d0 ?_); (try simp (disch := first | exact dis | fail) only [push_cast, ↓reduceIte, Nat.reduceAdd, Nat.reduceLeDiff, Nat.reduceEqDiff, Nat.reduceLT, Int.reduceToNat, fct]); (try clear fct)); refine ⟨?_, Sep.xt (by assumption)⟩; unfold rightD; rw [mayB_f (b := d.dl) (by omega)]; rfl)
        | (refine ih _ _ ⟨1, ?_⟩ ?_; rotate_left; (focus ((simp only [push_cast, ↓reduceIte, Nat.reduceAdd, Nat.reduceLeDiff, Nat.reduceEqDiff, Nat.reduceLT, Int.reduceToNat, toN_i, h10, h9, h1] <;> omega))); ((repeat' apply And.intro) <;> first | exact dj | (simp only [push_cast, ↓reduceIte, Nat.reduceAdd, Nat.reduceLeDiff, Nat.reduceEqDiff, Nat.reduceLT, Int.reduceToNat, h10, h9, h1] <;> omega) | skip) <;> first | (intro _; exact mayB_t (by omega) (by assumption) (by assumption)) | (intro h; omega))
    · (have fct := (And.intro @h10 (And.intro @h9 @h1)); repeat' (first | ((with_reducible apply G.a); exact rfl) | refine G.reg fun K hK => ?_ | (with_reducible (refine hK _ _ ?_); clear hK K) | (have hk := hK; clear hk; simp (disch := first | exact dis | fail) only [push_cast, ↓reduceIte, Nat.reduceAdd, Nat.reduceLeDiff, Nat.reduceEqDiff, Nat.reduceLT, Int.reduceToNat, fct]) | (refine brO_n ?_ ?_ <;> intro hb hc <;> first | (with_reducible exact False.elim hc) | (exfalso; omega) | (simp only [hb]; clear hb)) | (((with_reducible refine gBox ?_); refine zbox ?_); intro gb wb hS) | (refine idxAK (k := 1) (n := 2) ?_ (by simp) (by decide) (by rfl) (by kernel_rfl)) | (refine G.cn ?_ ?_ <;> intro hc <;> first | (with_reducible exact False.elim hc) | (exfalso; omega) | skip))) <;> (try clear fct)
      all_goals first
        | ((have fct := (And.intro @h10 (And.intro @h9 @h1)); (first | refine G.r1 ?_ | refine G.r2 ?_ | refine G.r3 ?_ | refine G.r0 ?_ | refine G.d0 ?_); (try simp (disch := first | exact dis | fail) only [push_cast, ↓reduceIte, Nat.reduceAdd, Nat.reduceLeDiff, Nat.reduceEqDiff, Nat.reduceLT, Int.reduceToNat, fct]); (try clear fct)); refine ⟨?_, Sep.xt (by assumption)⟩; unfold rightD; rw [mayB_f (b := d.q) (by omega), Bool.and_false]; rfl)
        | (refine ih _ _ ⟨2, ?_⟩ ?_; rotate_left; (focus ((simp only [push_cast, ↓reduceIte, Nat.reduceAdd, Nat.reduceLeDiff, Nat.reduceEqDiff, Nat.reduceLT, Int.reduceToNat, toN_i, h10, h9, h1] <;> omega))); ((repeat' apply And.intro) <;> first | exact dj | (simp only [push_cast, ↓reduceIte, Nat.reduceAdd, Nat.reduceLeDiff, Nat.reduceEqDiff, Nat.reduceLT, Int.reduceToNat, h10, h9, h1] <;> omega) | skip) <;> first | (intro _; exact mayB_t (by omega) (by assumption) (by assumption)) | (intro _; exact c1 (by omega)))
    · have e : rightD d = (!(decide (d.dl = d.q)) && endB d.e) := by unfold rightD; rw [c1 (by omega), c2 (by omega)]; rfl
      rw [e]
      unfold endB
      (have fct := (And.intro @h10 (And.intro @h9 @h1)); repeat' (first | ((with_reducible apply G.a); exact rfl) | refine G.reg fun K hK => ?_ | (with_reducible (refine hK _ _ ?_); clear hK K) | (have hk := hK; clear hk; simp (disch := first | exact dis | fail) only [push_cast, ↓reduceIte, Nat.reduceAdd, Nat.reduceLeDiff, Nat.reduceEqDiff, Nat.reduceLT, Int.reduceToNat, fct]) | (refine brO_n ?_ ?_ <;> intro hb hc <;> first | (with_reducible exact False.elim hc) | (exfalso; omega) | (simp only [hb]; clear hb)) | (((with_reducible refine gBox ?_); refine zbox ?_); intro gb wb hS) | (refine G.cn ?_ ?_ <;> intro hc <;> first | (with_reducible exact False.elim hc) | (exfalso; omega) | skip))) <;> (try clear fct)
      all_goals
        (have fct := (And.intro @h10 (And.intro @h9 @h1)); (first | refine G.r1 ?_ | refine G.r2 ?_ | refine G.r3 ?_ | refine G.r0 ?_ | refine G.d0 ?_); (try simp (disch := first | exact dis | fail) only [push_cast, ↓reduceIte, Nat.reduceAdd, Nat.reduceLeDiff, Nat.reduceEqDiff, Nat.reduceLT, Int.reduceToNat, fct]); (try clear fct))
        refine ⟨?_, Sep.xt (by assumption)⟩
        clear hS
        congr 1
        rw [Bool.eq_iff_iff]
        simp_all
def c11 : MC := (.seq (.reg [qq 1 (.raw (.box 23 (.tmp 0)) 0), qq 2 (.alc 41 [(.int .i64 0), (.int .i64 0), (.int .i64 0)])]) (.seq (.reg [qq 3 (.fad 0 (.tmp 1)), qq 4 (.ld none (.tmp 3)), qq 5 (.cvi .i64 (.tmp 4)), qq 6 (.fad 1 (.tmp 1)), qq 7 (.ld none (.tmp 6)), qq 8 (.cvi .i64 (.tmp 7)), qq 9 (.fad 2 (.tmp 1)), qq 10 (.ld none (.tmp 9)), qq 11 (.bld [(.int .i64 0), (.int .i64 0), (.int .i64 0)] [⟨0, ⟨1, (.tmp 5)⟩⟩, ⟨1, ⟨1, (.tmp 8)⟩⟩, ⟨2, ⟨1, (.tmp 10)⟩⟩]), qn (.st 3 (.tmp 2) (.tmp 11))]) .ret))
theorem k11 : conv Tryz.prog 12 (Tryz.f11.body.getD .skip) = c11 := by kernel_rfl
theorem in11 {a0 : Value} {w : World} {R : Value → World → Prop} (h : G Tryz.prog Tryz.f11 12 [.c c11] R (frL 0 [a0]) w) : Ret Tryz.prog 11 #[a0] w R := G.enter (args := [a0]) Tryz.func11 (c := Tryz.f11.body.getD .skip) (by kernel_rfl) (by kernel_rfl) (by simp) k11 h
theorem refD_spec (d : Dl) (hd : byD d) (w : World) : Pu Tryz.prog 11 #[(.agg #[U d.dl, U d.q, I d.e])] w (.agg #[I d.dl, I d.q, I d.e]) := by
  refine in11 ?_
  have hS := Sep.start w
  obtain ⟨b1, b2, b3, b4⟩ := hd
  repeat' (first | ((with_reducible apply G.a); exact rfl) | refine G.reg fun K hK => ?_ | (with_reducible (refine hK _ _ ?_); clear hK K) | (have hk := hK; clear hk; simp (disch := first | exact dis | fail) only [push_cast, ↓reduceIte, Nat.reduceAdd, Nat.reduceLeDiff, Nat.reduceEqDiff, Nat.reduceLT, Int.reduceToNat, fct]) | ((first | refine zalc ?_ | ((with_reducible refine gBox ?_); refine zbox ?_)); intro gb wb hS) | ((with_reducible refine gSt ?_); refine zs2 ?_; intro wb hS))
  (first | refine G.r1 ?_ | refine G.r2 ?_ | refine G.r3 ?_ | refine G.r0 ?_ | refine G.d0 ?_); (try simp (disch := first | exact dis | fail) only [push_cast, ↓reduceIte, Nat.reduceAdd, Nat.reduceLeDiff, Nat.reduceEqDiff, Nat.reduceLT, Int.reduceToNat, fct])
  (first | exact Sep.xt (by assumption) | exact ⟨rfl, Sep.xt (by assumption)⟩)
def stripM (s : Str) : Str := if s.take 3 = [239, 187, 191] then s.drop 3 else s
def c85 : MC := (.seq (.reg [qq 2 (.mv (.const (S []))), qq 3 (.mv (kb false))]) (.seq (.reg [qm 4 0, qq 5 (.call 69 [(.tmp 4), (.const (S [239, 187, 191]))]), qq 6 (.ext 0 (.tmp 5)), qq 7 (.ext 1 (.tmp 5)), qm 2 6, qm 3 7]) .ret))
theorem k85 : conv Tryz.prog 8 (Tryz.f85.body.getD .skip) = c85 := by kernel_rfl
theorem in85 {a0 : Value} {w : World} {R : Value → World → Prop} (h : G Tryz.prog Tryz.f85 8 [.c c85] R (frL 0 [a0]) w) : Ret Tryz.prog 85 #[a0] w R := G.enter (args := [a0]) Tryz.func85 (c := Tryz.f85.body.getD .skip) (by kernel_rfl) (by kernel_rfl) (by simp) k85 h
theorem strip_spec (s : Str) (w : World) (hl : s.length ≤ 1000000000) : Pu Tryz.prog 85 #[S s] w (.tuple #[S (stripM s), .bool (decide (s.take 3 = [239, 187, 191]))]) := by
  refine in85 ?_
  have hS := Sep.start w
  have h := cutp_spec s [239, 187, 191] (hl := hl) (hp := by decide)
  have e1 : (if (s.take ([239, 187, 191] : Str).length == [239, 187, 191]) = true then s.drop ([239, 187, 191] : Str).length else s) = stripM s := by
    unfold stripM; by_cases h : s.take 3 = [239, 187, 191] <;> simp [h]
  have e2 : (s.take ([239, 187, 191] : Str).length == [239, 187, 191]) = decide (s.take 3 = [239, 187, 191]) := by
    rw [Bool.eq_iff_iff]; simp
  rw [e1, e2] at h
  repeat' (first | ((with_reducible apply G.a); exact rfl) | refine G.reg fun K hK => ?_ | (with_reducible (refine hK _ _ ?_); clear hK K) | (have hk := hK; clear hk; simp (disch := first | exact dis | fail) only [push_cast, ↓reduceIte, Nat.reduceAdd, Nat.reduceLeDiff, Nat.reduceEqDiff, Nat.reduceLT, Int.reduceToNat, fct]) | (refine zcp 69 (h _) ?_; intro wb hS))
  (first | refine G.r1 ?_ | refine G.r2 ?_ | refine G.r3 ?_ | refine G.r0 ?_ | refine G.d0 ?_); (try simp (disch := first | exact dis | fail) only [push_cast, ↓reduceIte, Nat.reduceAdd, Nat.reduceLeDiff, Nat.reduceEqDiff, Nat.reduceLT, Int.reduceToNat, fct])
  (first | exact Sep.xt (by assumption) | exact ⟨rfl, Sep.xt (by assumption)⟩)
theorem u8_lit {b c : UInt8} {n : Int} (hn : (c.toNat : Int) = n) (h : (b.toNat : Int) = n) : b = c := UInt8.toNat_inj.1 (by omega)
def c90l1 : MC := (.seq (.seq (.reg [qm 10 5, qm 11 1, qq 12 (.bin .lss (.tmp 10) (.tmp 11))]) (.cond (.tmp 12) .skip (.exit 0))) (.seq (.blk 1 (.seq (.drg [qm 15 0, qm 16 5, qq 17 (.idxS (.tmp 15) (.tmp 16)), qq 18 (.bld [(.int .u8 0), (.int .u8 0), (.int .u8 0)] [⟨0, ⟨1, (.const (.int .u8 239))⟩⟩, ⟨1, ⟨1, (.const (.int .u8 187))⟩⟩, ⟨2, ⟨1, (.const (.int .u8 191))⟩⟩]), qm 19 5, qq 20 (.raw (.index 216 (.tmp 18) (.tmp 19)) 5), qq 21 (.bin .neq (.tmp 17) (.tmp 20))] (.some (.leaf [qm 15 0, qm 16 5, qq 17 (.idxS (.tmp 15) (.tmp 16)), qq 18 (.bld [(.int .u8 0), (.int .u8 0), (.int .u8 0)] [⟨0, ⟨1, (.const (.int .u8 239))⟩⟩, ⟨1, ⟨1, (.const (.int .u8 187))⟩⟩, ⟨2, ⟨1, (.const (.int .u8 191))⟩⟩]), qm 19 5, qq 20 (.raw (.index 216 (.tmp 18) (.tmp 19)) 5), qq 21 (.bin .neq (.tmp 17) (.tmp 20))]))) (.cond (.tmp 21) (.seq (.reg [qq 4 (.mv (kb false))]) .ret) .skip))) (.reg [qm 13 5, qq 14 (.bin .add (.tmp 13) (ki 1)), qm 5 14])))
def c90 : MC := (.seq (.reg [qq 4 (.mv (kb false))]) (.seq (.seq (.reg [qm 6 0, qq 7 (.lenS (.tmp 6)), qm 8 1, qq 9 (.bin .lss (.tmp 7) (.tmp 8))]) (.cond (.tmp 9) (.seq (.reg [qq 4 (.mv (kb false))]) .ret) .skip)) (.seq (.seq (.reg [qq 5 (.mv (ki 0))]) (.blk 0 (.loop c90l1))) (.seq (.reg [qq 4 (.mv (kb true))]) .ret))))
theorem k90 : conv Tryz.prog 22 (Tryz.f90.body.getD .skip) = c90 := by kernel_rfl
theorem in90 {a0 a1 : Value} {w : World} {R : Value → World → Prop} (h : G Tryz.prog Tryz.f90 22 [.c c90] R (frL 0 [a0, a1]) w) : Ret Tryz.prog 90 #[a0, a1] w R := G.enter (args := [a0, a1]) Tryz.func90 (c := Tryz.f90.body.getD .skip) (by kernel_rfl) (by kernel_rfl) (by simp) k90 h
theorem has3_spec (s : Str) (w : World) (hl : s.length ≤ 1000000000) : Pu Tryz.prog 90 #[S s, I 3] w (.bool (decide (s.take 3 = [239, 187, 191]))) := by
  refine in90 ?_
  have hS := Sep.start w
  by_cases hlen : (s.length : Int) < 3
  · rw [decide_eq_false (fun e => by have := congrArg List.length e; simp at this; omega)]
    repeat' (first | ((with_reducible apply G.a); exact rfl) | refine G.reg fun K hK => ?_ | (with_reducible (refine hK _ _ ?_); clear hK K) | (with_reducible (refine hK _ ?_); clear hK K; intro wd hxd; have hS := Sep.xx hxd) | (have hk := hK; clear hk; simp (disch := first | exact dis | fail) only [push_cast, ↓reduceIte, Nat.reduceAdd, Nat.reduceLeDiff, Nat.reduceEqDiff, Nat.reduceLT, Int.reduceToNat, fct]) | (refine G.drt mixed fun K hK wd hxd => ?_; have hS := Sep.xx hxd) | with_reducible refine OT_leaf ?_ | refine G.drg mixed fun K hK => ?_ | (refine G.cn ?_ ?_ <;> intro hc <;> first | (with_reducible exact False.elim hc) | (exfalso; omega) | skip))
    all_goals
      (first | refine G.r1 ?_ | refine G.r2 ?_ | refine G.r3 ?_ | refine G.r0 ?_ | refine G.d0 ?_); (try simp (disch := first | exact dis | fail) only [push_cast, ↓reduceIte, Nat.reduceAdd, Nat.reduceLeDiff, Nat.reduceEqDiff, Nat.reduceLT, Int.reduceToNat, fct])
      (first | exact Sep.xt (by assumption) | exact ⟨rfl, Sep.xt (by assumption)⟩)
  · match s, hlen with
    | a :: b :: c :: r, hlen =>
      repeat' (first | ((with_reducible apply G.a); exact rfl) | refine G.reg fun K hK => ?_ | (with_reducible (refine hK _ _ ?_); clear hK K) | (with_reducible (refine hK _ ?_); clear hK K; intro wd hxd; have hS := Sep.xx hxd) | (have hk := hK; clear hk; simp (disch := first | exact dis | fail) only [push_cast, ↓reduceIte, Nat.reduceAdd, Nat.reduceLeDiff, Nat.reduceEqDiff, Nat.reduceLT, Int.reduceToNat, fct]) | (refine G.drt mixed fun K hK wd hxd => ?_; have hS := Sep.xx hxd) | with_reducible refine OT_leaf ?_ | refine G.drg mixed fun K hK => ?_ | (refine G.cn ?_ ?_ <;> intro hc <;> first | (with_reducible exact False.elim hc) | (exfalso; omega) | skip))
      refine G.loop (fun r' w' => ∃ k : Nat, k ≤ 3 ∧ r' 5 = I k ∧ r' 0 = S (a :: b :: c :: r) ∧ r' 1 = I 3 ∧ (1 ≤ k → a = 239) ∧ (2 ≤ k → b = 187) ∧ (3 ≤ k → c = 191) ∧ Sep w w' []) (fun r' _ => 3 - toN (r' 5)) ?_ ?_
      · refine ⟨0, ?_⟩
        ((repeat' apply And.intro) <;> first | exact dj | (simp only [push_cast, ↓reduceIte, Nat.reduceAdd, Nat.reduceLeDiff, Nat.reduceEqDiff, Nat.reduceLT, Int.reduceToNat] <;> omega) | skip)
        all_goals (intro h; omega)
      · clear hS
        rintro u wl ⟨k, hk, h5, q0, q1, c1, c2, c3, hS⟩ ih
        obtain rfl | rfl | rfl | rfl : k = 0 ∨ k = 1 ∨ k = 2 ∨ k = 3 := by omega
        · (have fct := (And.intro @h5 (And.intro @q0 @q1)); repeat' (first | ((with_reducible apply G.a); exact rfl) | refine G.reg fun K hK => ?_ | (with_reducible (refine hK _ _ ?_); clear hK K) | (with_reducible (refine hK _ ?_); clear hK K; intro wd hxd; have hS := Sep.xx hxd) | (have hk := hK; clear hk; simp (disch := first | exact dis | fail) only [push_cast, ↓reduceIte, Nat.reduceAdd, Nat.reduceLeDiff, Nat.reduceEqDiff, Nat.reduceLT, Int.reduceToNat, fct]) | (refine idxAK (k := 0) (n := 3) ?_ (by simp) (by decide) (by rfl) (by kernel_rfl)) | (refine G.drt mixed fun K hK wd hxd => ?_; have hS := Sep.xx hxd) | with_reducible refine OT_leaf ?_ | refine G.drg mixed fun K hK => ?_ | (refine G.cn ?_ ?_ <;> intro hc <;> first | (with_reducible exact False.elim hc) | (exfalso; omega) | skip))) <;> (try clear fct)
          all_goals first
            | ((have fct := (And.intro @h5 (And.intro @q0 @q1)); (first | refine G.r1 ?_ | refine G.r2 ?_ | refine G.r3 ?_ | refine G.r0 ?_ | refine G.d0 ?_); (try simp (disch := first | exact dis | fail) only [push_cast, ↓reduceIte, Nat.reduceAdd, Nat.reduceLeDiff, Nat.reduceEqDiff, Nat.reduceLT, Int.reduceToNat, fct]); (try clear fct)); refine ⟨congrArg Value.bool (decide_eq_false fun e => ?_).symm, Sep.xt (by assumption)⟩; clear hS ih; simp at e; obtain ⟨rfl, rfl, rfl⟩ := e; exact hc rfl)
            | (refine ih _ _ ⟨1, ?_⟩ ?_; rotate_left; (focus ((simp only [push_cast, ↓reduceIte, Nat.reduceAdd, Nat.reduceLeDiff, Nat.reduceEqDiff, Nat.reduceLT, Int.reduceToNat, toN_i, h5, q0, q1] <;> omega))); ((repeat' apply And.intro) <;> first | exact dj | (simp only [push_cast, ↓reduceIte, Nat.reduceAdd, Nat.reduceLeDiff, Nat.reduceEqDiff, Nat.reduceLT, Int.reduceToNat, h5, q0, q1] <;> omega) | skip) <;> first | (intro _; exact u8_lit (c := 239) rfl (by assumption)) | (intro h; omega))
        · (have fct := (And.intro @h5 (And.intro @q0 @q1)); repeat' (first | ((with_reducible apply G.a); exact rfl) | refine G.reg fun K hK => ?_ | (with_reducible (refine hK _ _ ?_); clear hK K) | (with_reducible (refine hK _ ?_); clear hK K; intro wd hxd; have hS := Sep.xx hxd) | (have hk := hK; clear hk; simp (disch := first | exact dis | fail) only [push_cast, ↓reduceIte, Nat.reduceAdd, Nat.reduceLeDiff, Nat.reduceEqDiff, Nat.reduceLT, Int.reduceToNat, fct]) | (refine idxAK (k := 1) (n := 3) ?_ (by simp) (by decide) (by rfl) (by kernel_rfl)) | (refine G.drt mixed fun K hK wd hxd => ?_; have hS := Sep.xx hxd) | with_reducible refine OT_leaf ?_ | refine G.drg mixed fun K hK => ?_ | (refine G.cn ?_ ?_ <;> intro hc <;> first | (with_reducible exact False.elim hc) | (exfalso; omega) | skip))) <;> (try clear fct)
          all_goals first
            | ((have fct := (And.intro @h5 (And.intro @q0 @q1)); (first | refine G.r1 ?_ | refine G.r2 ?_ | refine G.r3 ?_ | refine G.r0 ?_ | refine G.d0 ?_); (try simp (disch := first | exact dis | fail) only [push_cast, ↓reduceIte, Nat.reduceAdd, Nat.reduceLeDiff, Nat.reduceEqDiff, Nat.reduceLT, Int.reduceToNat, fct]); (try clear fct)); refine ⟨congrArg Value.bool (decide_eq_false fun e => ?_).symm, Sep.xt (by assumption)⟩; clear hS ih; simp at e; obtain ⟨rfl, rfl, rfl⟩ := e; exact hc rfl)
            | (refine ih _ _ ⟨2, ?_⟩ ?_; rotate_left; (focus ((simp only [push_cast, ↓reduceIte, Nat.reduceAdd, Nat.reduceLeDiff, Nat.reduceEqDiff, Nat.reduceLT, Int.reduceToNat, toN_i, h5, q0, q1] <;> omega))); ((repeat' apply And.intro) <;> first | exact dj | (simp only [push_cast, ↓reduceIte, Nat.reduceAdd, Nat.reduceLeDiff, Nat.reduceEqDiff, Nat.reduceLT, Int.reduceToNat, h5, q0, q1] <;> omega) | skip) <;> first | (intro _; exact c1 (by omega)) | (intro _; exact u8_lit (c := 187) rfl (by assumption)) | (intro h; omega))
        · (have fct := (And.intro @h5 (And.intro @q0 @q1)); repeat' (first | ((with_reducible apply G.a); exact rfl) | refine G.reg fun K hK => ?_ | (with_reducible (refine hK _ _ ?_); clear hK K) | (with_reducible (refine hK _ ?_); clear hK K; intro wd hxd; have hS := Sep.xx hxd) | (have hk := hK; clear hk; simp (disch := first | exact dis | fail) only [push_cast, ↓reduceIte, Nat.reduceAdd, Nat.reduceLeDiff, Nat.reduceEqDiff, Nat.reduceLT, Int.reduceToNat, fct]) | (refine idxAK (k := 2) (n := 3) ?_ (by simp) (by decide) (by rfl) (by kernel_rfl)) | (refine G.drt mixed fun K hK wd hxd => ?_; have hS := Sep.xx hxd) | with_reducible refine OT_leaf ?_ | refine G.drg mixed fun K hK => ?_ | (refine G.cn ?_ ?_ <;> intro hc <;> first | (with_reducible exact False.elim hc) | (exfalso; omega) | skip))) <;> (try clear fct)
          all_goals first
            | ((have fct := (And.intro @h5 (And.intro @q0 @q1)); (first | refine G.r1 ?_ | refine G.r2 ?_ | refine G.r3 ?_ | refine G.r0 ?_ | refine G.d0 ?_); (try simp (disch := first | exact dis | fail) only [push_cast, ↓reduceIte, Nat.reduceAdd, Nat.reduceLeDiff, Nat.reduceEqDiff, Nat.reduceLT, Int.reduceToNat, fct]); (try clear fct)); refine ⟨congrArg Value.bool (decide_eq_false fun e => ?_).symm, Sep.xt (by assumption)⟩; clear hS ih; simp at e; obtain ⟨rfl, rfl, rfl⟩ := e; exact hc rfl)
            | (refine ih _ _ ⟨3, ?_⟩ ?_; rotate_left; (focus ((simp only [push_cast, ↓reduceIte, Nat.reduceAdd, Nat.reduceLeDiff, Nat.reduceEqDiff, Nat.reduceLT, Int.reduceToNat, toN_i, h5, q0, q1] <;> omega))); ((repeat' apply And.intro) <;> first | exact dj | (simp only [push_cast, ↓reduceIte, Nat.reduceAdd, Nat.reduceLeDiff, Nat.reduceEqDiff, Nat.reduceLT, Int.reduceToNat, h5, q0, q1] <;> omega) | skip) <;> first | (intro _; exact c1 (by omega)) | (intro _; exact c2 (by omega)) | (intro _; exact u8_lit (c := 191) rfl (by assumption)))
        · rw [c1 (by omega), c2 (by omega), c3 (by omega)]
          (have fct := (And.intro @h5 (And.intro @q0 @q1)); repeat' (first | ((with_reducible apply G.a); exact rfl) | refine G.reg fun K hK => ?_ | (with_reducible (refine hK _ _ ?_); clear hK K) | (with_reducible (refine hK _ ?_); clear hK K; intro wd hxd; have hS := Sep.xx hxd) | (have hk := hK; clear hk; simp (disch := first | exact dis | fail) only [push_cast, ↓reduceIte, Nat.reduceAdd, Nat.reduceLeDiff, Nat.reduceEqDiff, Nat.reduceLT, Int.reduceToNat, fct]) | (refine G.drt mixed fun K hK wd hxd => ?_; have hS := Sep.xx hxd) | with_reducible refine OT_leaf ?_ | refine G.drg mixed fun K hK => ?_ | (refine G.cn ?_ ?_ <;> intro hc <;> first | (with_reducible exact False.elim hc) | (exfalso; omega) | skip))) <;> (try clear fct)
          all_goals
            (have fct := (And.intro @h5 (And.intro @q0 @q1)); (first | refine G.r1 ?_ | refine G.r2 ?_ | refine G.r3 ?_ | refine G.r0 ?_ | refine G.d0 ?_); (try simp (disch := first | exact dis | fail) only [push_cast, ↓reduceIte, Nat.reduceAdd, Nat.reduceLeDiff, Nat.reduceEqDiff, Nat.reduceLT, Int.reduceToNat, fct]); (try clear fct))
            first | (first | exact Sep.xt (by assumption) | exact ⟨rfl, Sep.xt (by assumption)⟩) | (refine ⟨?_, Sep.xt (by assumption)⟩; simp)
    | [], hlen => exact absurd (by simp) hlen
    | [_], hlen => exact absurd (by simp) hlen
    | [_, _], hlen => exact absurd (by simp) hlen
end Go.Proofs.YtdikpaochhacmaaGreatDoor
