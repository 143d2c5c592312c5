/- Texts of the proof, joined. -/
import Derived.Test.YtdikpaochhacmaaGreatDoorsP15
import Derived.Test.YtdikpaochhacmaaGreatDoorsR02
import Derived.Test.YtdikpaochhacmaaGreatDoorsW02
namespace Go.Proofs.YtdikpaochhacmaaGreatDoor
set_option linter.unusedSimpArgs false
set_option linter.unusedVariables false
attribute [local irreducible] SemK UnitK StK AlcK BslK CallK CallV Instr.box Builtin.append_ Instr.makeSlice Instr.makeMap Instr.lookup Instr.mapUpdate Instr.sliceAt convert
open Go.RowKit
def c60l1 : MC := (.seq (.reg [qq 10 (.bin .lss (.tmp 9) (.tmp 8))]) (.seq (.cond (.tmp 10) .skip (.exit 0)) (.seq (.blk 1 (.seq (.reg [qm 11 9, qq 12 (.adr 1 (.tmp 7) (.tmp 9)), qq 13 (.ld none (.tmp 12)), qm 5 11, qm 6 13]) (.seq (.reg [qm 14 6, qm 15 1, qq 16 (.bin .eql (.tmp 14) (.tmp 15))]) (.cond (.tmp 16) (.seq (.reg [qm 17 5, qm 4 17]) .ret) .skip)))) (.reg [qq 18 (.bin .add (.tmp 9) (ki 1)), qm 9 18]))))
def c60 : MC := (.seq (.reg [qq 4 (.mv (ki 0))]) (.seq (.seq (.reg [qm 7 0, qq 8 (.len (.tmp 7)), qq 9 (.mv (ki 0))]) (.blk 0 (.loop c60l1))) (.seq (.reg [qq 4 (.mv (ki (-1)))]) .ret)))
theorem k60 : conv Tryz.prog 19 (Tryz.f60.body.getD .skip) = c60 := by kernel_rfl
theorem in60 {a0 a1 : Value} {w : World} {R : Value → World → Prop} (h : G Tryz.prog Tryz.f60 19 [.c c60] R (frL 0 [a0, a1]) w) : Ret Tryz.prog 60 #[a0, a1] w R := G.enter (args := [a0, a1]) Tryz.func60 (c := Tryz.f60.body.getD .skip) (by kernel_rfl) (by kernel_rfl) (by simp) k60 h
theorem rat_spec {v : Value} {names : List Str} {w : World} (hr : Rd w eS v names) (name : Str) : Pu Tryz.prog 60 #[v, S name] w (I (atM names name)) := by
  refine in60 ?_
  have hS := Sep.start w
  have hbd := hr.bd
  repeat' (first | ((with_reducible apply G.a); exact rfl) | refine G.reg fun K hK => ?_ | (with_reducible (refine hK _ _ ?_); clear hK K) | (have hk := hK; clear hk; simp (disch := first | exact dis | fail) only [push_cast, ↓reduceIte, Nat.reduceAdd, Nat.reduceLeDiff, Nat.reduceEqDiff, Nat.reduceLT, Int.reduceToNat, fct]) | (refine G.cn ?_ ?_ <;> intro hc <;> first | (with_reducible exact False.elim hc) | (exfalso; omega) | skip))
  refine G.loop (fun r w' => ∃ k : Nat, k ≤ names.length ∧ r 9 = I k ∧ r 8 = I names.length ∧ r 7 = v ∧ r 1 = S name ∧ atM names name = atF (names.drop k) name k ∧ Sep w w' []) (fun r _ => names.length - toN (r 9)) ?_ ?_
  · refine ⟨0, ?_⟩
    ((repeat' apply And.intro) <;> first | exact dj | (simp only [push_cast, ↓reduceIte, Nat.reduceAdd, Nat.reduceLeDiff, Nat.reduceEqDiff, Nat.reduceLT, Int.reduceToNat] <;> omega) | skip)
    rfl
  · rintro u wl ⟨k, hk, h9, h8, h7, h1, e, hS⟩ ih
    (have fct := (And.intro @h9 (And.intro @h8 (And.intro @h7 @h1))); repeat' (first | ((with_reducible apply G.a); exact rfl) | refine G.reg fun K hK => ?_ | (with_reducible (refine hK _ _ ?_); clear hK K) | (have hk := hK; clear hk; simp (disch := first | exact dis | fail) only [push_cast, ↓reduceIte, Nat.reduceAdd, Nat.reduceLeDiff, Nat.reduceEqDiff, Nat.reduceLT, Int.reduceToNat, fct]) | (refine G.cn ?_ ?_ <;> intro hc <;> first | (with_reducible exact False.elim hc) | (exfalso; omega) | skip))) <;> (try clear fct)
    · (have fct := (And.intro @h9 (And.intro @h8 (And.intro @h7 @h1))); (first | refine G.r1 ?_ | refine G.r2 ?_ | refine G.r3 ?_ | refine G.r0 ?_ | refine G.d0 ?_); (try simp (disch := first | exact dis | fail) only [push_cast, ↓reduceIte, Nat.reduceAdd, Nat.reduceLeDiff, Nat.reduceEqDiff, Nat.reduceLT, Int.reduceToNat, fct]); (try clear fct))
      (refine ⟨?_, Sep.xt (by assumption)⟩)
      rw [e, dropD _ _ ‹_›, atF, if_pos hc]
    · (refine ih _ _ ⟨k + 1, ?_⟩ ?_; rotate_left; (focus ((simp only [push_cast, ↓reduceIte, Nat.reduceAdd, Nat.reduceLeDiff, Nat.reduceEqDiff, Nat.reduceLT, Int.reduceToNat, toN_i, h9, h8, h7, h1] <;> omega))); ((repeat' apply And.intro) <;> first | exact dj | (simp only [push_cast, ↓reduceIte, Nat.reduceAdd, Nat.reduceLeDiff, Nat.reduceEqDiff, Nat.reduceLT, Int.reduceToNat, h9, h8, h7, h1] <;> omega) | skip))
      rw [e, dropD _ _ ‹_›, atF, if_neg hc]
    · (have fct := (And.intro @h9 (And.intro @h8 (And.intro @h7 @h1))); (first | refine G.r1 ?_ | refine G.r2 ?_ | refine G.r3 ?_ | refine G.r0 ?_ | refine G.d0 ?_); (try simp (disch := first | exact dis | fail) only [push_cast, ↓reduceIte, Nat.reduceAdd, Nat.reduceLeDiff, Nat.reduceEqDiff, Nat.reduceLT, Int.reduceToNat, fct]); (try clear fct))
      (refine ⟨?_, Sep.xt (by assumption)⟩)
      rw [e, List.drop_eq_nil_of_le (by omega)]; rfl
def c58 : MC := (.seq (.reg [qq 4 (.mv (ki 0)), qq 5 (.mv (kb false))]) (.seq (.reg [qm 9 0, qq 10 (.nck (.tmp 9)), qq 11 (.fad 1 (.tmp 10)), qq 12 (.ld none (.tmp 11)), qm 13 1, qq 14 (.raw (.lookup 185 (.tmp 12) (.tmp 13) true) 138), qm 8 14, qq 15 (.ext 0 (.tmp 8)), qq 16 (.ext 1 (.tmp 8)), qm 6 15, qm 7 16]) (.seq (.reg [qm 17 6, qm 18 7, qm 4 17, qm 5 18]) .ret)))
theorem k58 : conv Tryz.prog 19 (Tryz.f58.body.getD .skip) = c58 := by kernel_rfl
theorem in58 {a0 a1 : Value} {w : World} {R : Value → World → Prop} (h : G Tryz.prog Tryz.f58 19 [.c c58] R (frL 0 [a0, a1]) w) : Ret Tryz.prog 58 #[a0, a1] w R := G.enter (args := [a0, a1]) Tryz.func58 (c := Tryz.f58.body.getD .skip) (by kernel_rfl) (by kernel_rfl) (by simp) k58 h
theorem at_spec {g r : Nat} {sv : Value} {names : List Str} {w : World} (hB : Blk w g 188 [sv, .map (some r)].toArray) (hM : MapRd w r I (mtM names)) (name : Str) :
    Pu Tryz.prog 58 #[.pointer (some ⟨g, 0, none⟩), S name] w (.tuple #[I (max (atM names name) 0), .bool (decide (0 ≤ atM names name))]) := by
  refine in58 ?_
  have hS := Sep.start w
  repeat' (first | ((with_reducible apply G.a); exact rfl) | refine G.reg fun K hK => ?_ | (with_reducible (refine hK _ _ ?_); clear hK K) | (have hk := hK; clear hk; simp (disch := first | exact dis | fail) only [push_cast, ↓reduceIte, Nat.reduceAdd, Nat.reduceLeDiff, Nat.reduceEqDiff, Nat.reduceLT, Int.reduceToNat, fct]) | (refine zlk ?_))
  (have fct := (And.intro @mtM_get @mtM_some); (first | refine G.r1 ?_ | refine G.r2 ?_ | refine G.r3 ?_ | refine G.r0 ?_ | refine G.d0 ?_); (try simp (disch := first | exact dis | fail) only [push_cast, ↓reduceIte, Nat.reduceAdd, Nat.reduceLeDiff, Nat.reduceEqDiff, Nat.reduceLT, Int.reduceToNat, fct]); (try clear fct))
  exact Sep.xt (by assumption)
def c88 : MC := (.seq (.reg [qq 2 (.mv (.const (.slice none 0 0)))]) (.seq (.seq (.reg [qm 3 0, qq 4 (.raw (.binOp .eql 49 (.tmp 3) (.const (.slice none 0 0)) 49) 4)]) (.cond (.tmp 4) (.seq (.reg [qq 2 (.mv (.const (.slice none 0 0)))]) .ret) .skip)) (.seq (.reg [qq 5 (.bsl 9 [] 0 []), qm 6 0, qq 7 (.raw (.call ⟨(.builtin .append), #[(.tmp 5), (.tmp 6)], #[49, 49]⟩) 49), qm 2 7]) .ret)))
theorem k88 : conv Tryz.prog 8 (Tryz.f88.body.getD .skip) = c88 := by kernel_rfl
theorem in88 {a0 : Value} {w : World} {R : Value → World → Prop} (h : G Tryz.prog Tryz.f88 8 [.c c88] R (frL 0 [a0]) w) : Ret Tryz.prog 88 #[a0] w R := G.enter (args := [a0]) Tryz.func88 (c := Tryz.f88.body.getD .skip) (by kernel_rfl) (by kernel_rfl) (by simp) k88 h
theorem clone_spec {v : Value} {l : List Str} {w : World} (hr : Rd w eS v l) (hl : l.length ≤ 1000000000000) : Ret Tryz.prog 88 #[v] w fun v' w' => Sep w w' [accC v' 9 eS l] := by
  refine in88 ?_
  have hS := Sep.start w
  repeat' (first | ((with_reducible apply G.a); exact rfl) | refine G.reg fun K hK => ?_ | (with_reducible (refine hK _ _ ?_); clear hK K) | (have hk := hK; clear hk; simp (disch := first | exact dis | fail) only [push_cast, ↓reduceIte, Nat.reduceAdd, Nat.reduceLeDiff, Nat.reduceEqDiff, Nat.reduceLT, Int.reduceToNat, fct]) | (refine zbsl ?_; intro gb wb hS) | (refine zn1 ?_) | (refine zn2 ?_) | (refine zn3 ?_) | (refine zn4 ?_) | (refine G.cn ?_ ?_ <;> intro hc <;> first | (with_reducible exact False.elim hc) | (exfalso; omega) | skip))
  · obtain ⟨p, cap, rfl, h2, h3, h4, h5⟩ := hr
    have : l = [] := by
      rcases Nat.eq_zero_or_pos l.length with h | h
      · exact List.eq_nil_of_length_eq_zero h
      · obtain ⟨a, ha, _⟩ := h5 h; subst ha; simp [isNil] at hc
    subst this
    (first | refine G.r1 ?_ | refine G.r2 ?_ | refine G.r3 ?_ | refine G.r0 ?_ | refine G.d0 ?_); (try simp (disch := first | exact dis | fail) only [push_cast, ↓reduceIte, Nat.reduceAdd, Nat.reduceLeDiff, Nat.reduceEqDiff, Nat.reduceLT, Int.reduceToNat, fct])
    exact hS.nil _ _
  · have hS := Sep.toAcc (E := eS) ([] : List Str) hS Up.h rfl rfl (by simp) (by simp)
    ((refine zan ?_; intro vb wb hS))
    repeat' (first | ((with_reducible apply G.a); exact rfl) | refine G.reg fun K hK => ?_ | (with_reducible (refine hK _ _ ?_); clear hK K) | (have hk := hK; clear hk; simp (disch := first | exact dis | fail) only [push_cast, ↓reduceIte, Nat.reduceAdd, Nat.reduceLeDiff, Nat.reduceEqDiff, Nat.reduceLT, Int.reduceToNat, fct]) | (refine zbsl ?_; intro gb wb hS) | (refine G.cn ?_ ?_ <;> intro hc <;> first | (with_reducible exact False.elim hc) | (exfalso; omega) | skip))
    repeat' (first | ((with_reducible apply G.a); exact rfl) | refine G.reg fun K hK => ?_ | (with_reducible (refine hK _ _ ?_); clear hK K) | (have hk := hK; clear hk; simp (disch := first | exact dis | fail) only [push_cast, ↓reduceIte, Nat.reduceAdd, Nat.reduceLeDiff, Nat.reduceEqDiff, Nat.reduceLT, Int.reduceToNat, fct]) | (refine zbsl ?_; intro gb wb hS) | (refine G.cn ?_ ?_ <;> intro hc <;> first | (with_reducible exact False.elim hc) | (exfalso; omega) | skip))
    (first | refine G.r1 ?_ | refine G.r2 ?_ | refine G.r3 ?_ | refine G.r0 ?_ | refine G.d0 ?_); (try simp (disch := first | exact dis | fail) only [push_cast, ↓reduceIte, Nat.reduceAdd, Nat.reduceLeDiff, Nat.reduceEqDiff, Nat.reduceLT, Int.reduceToNat, fct])
    exact hS
def c57l1 : MC := (.seq (.reg [qq 19 (.bin .lss (.tmp 18) (.tmp 17))]) (.seq (.cond (.tmp 19) .skip (.exit 0)) (.seq (.blk 1 (.seq (.reg [qm 20 18, qq 21 (.adr 1 (.tmp 16) (.tmp 18)), qq 22 (.ld none (.tmp 21)), qm 6 20, qm 7 22]) (.seq (.seq (.reg [qm 23 7, qq 24 (.call 52 [(.tmp 23)]), qq 25 (.un .not (.tmp 24))]) (.cond (.tmp 25) (.seq (.reg [qm 26 6, qq 2 (.mv (.const (.pointer none))), qm 3 26, qq 4 (.mv (ki 14))]) .ret) .skip)) (.seq (.seq (.reg [qm 28 5, qm 29 7, qq 30 (.raw (.lookup 185 (.tmp 28) (.tmp 29) true) 138), qm 27 30, qq 31 (.ext 0 (.tmp 27)), qq 32 (.ext 1 (.tmp 27)), qm 8 31, qm 9 32]) (.seq (.reg [qm 33 9]) (.cond (.tmp 33) (.seq (.reg [qm 34 6, qq 2 (.mv (.const (.pointer none))), qm 3 34, qq 4 (.mv (ki 15))]) .ret) .skip))) (.reg [qm 35 5, qm 36 7, qm 37 6, qn (.raw (.mapUpdate 185 (.tmp 35) (.tmp 36) (.tmp 37)) 0)]))))) (.reg [qq 38 (.bin .add (.tmp 18) (ki 1)), qm 18 38]))))
def c57 : MC := (.seq (.reg [qq 2 (.mv (.const (.pointer none))), qq 3 (.mv (ki 0)), qq 4 (.mv (ki 0))]) (.seq (.seq (.reg [qm 10 0, qq 11 (.len (.tmp 10)), qq 12 (.bin .eql (.tmp 11) (ki 0))]) (.cond (.tmp 12) (.seq (.reg [qq 2 (.mv (.const (.pointer none))), qq 3 (.mv (ki 0)), qq 4 (.mv (ki 13))]) .ret) .skip)) (.seq (.reg [qm 13 0, qq 14 (.len (.tmp 13)), qq 15 (.raw (.makeMap 185 (.some (.tmp 14))) 185), qm 5 15]) (.seq (.seq (.reg [qm 16 0, qq 17 (.len (.tmp 16)), qq 18 (.mv (ki 0))]) (.blk 0 (.loop c57l1))) (.seq (.reg [qm 39 0, qq 40 (.call 88 [(.tmp 39)]), qm 41 5, qq 42 (.bld [(.slice none 0 0), (.map none)] [⟨0, ⟨1, (.tmp 40)⟩⟩, ⟨1, ⟨1, (.tmp 41)⟩⟩]), qq 43 (.raw (.box 188 (.tmp 42)) 135), qm 44 0, qq 45 (.len (.tmp 44)), qm 2 43, qm 3 45, qq 4 (.mv (ki 0))]) .ret)))))
theorem k57 : conv Tryz.prog 46 (Tryz.f57.body.getD .skip) = c57 := by kernel_rfl
theorem in57 {a0 : Value} {w : World} {R : Value → World → Prop} (h : G Tryz.prog Tryz.f57 46 [.c c57] R (frL 0 [a0]) w) : Ret Tryz.prog 57 #[a0] w R := G.enter (args := [a0]) Tryz.func57 (c := Tryz.f57.body.getD .skip) (by kernel_rfl) (by kernel_rfl) (by simp) k57 h
theorem new_spec {v : Value} {names : List Str} {w : World} (hr : Rd w eS v names) (hl : names.length ≤ 1000000000) (hl2 : ∀ s ∈ names, s.length ≤ 100000000000) :
    Ret Tryz.prog 57 #[v] w fun res w' => ((newM names).2 ≠ 0 ∧ res = .tuple #[.pointer none, I (newM names).1, I (newM names).2] ∧ Ext w w') ∨
      ((newM names).2 = 0 ∧ ∃ g sv r, res = .tuple #[.pointer (some ⟨g, 0, none⟩), I names.length, I 0] ∧ Sep w w' [boxC g 188 [sv, .map (some r)], accC sv 9 eS names, mapC r I (mtM names)]) := by
  refine in57 ?_
  have hS := Sep.start w
  have hbd := hr.bd
  repeat' (first | ((with_reducible apply G.a); exact rfl) | refine G.reg fun K hK => ?_ | (with_reducible (refine hK _ _ ?_); clear hK K) | (have hk := hK; clear hk; simp (disch := first | exact dis | fail) only [push_cast, ↓reduceIte, Nat.reduceAdd, Nat.reduceLeDiff, Nat.reduceEqDiff, Nat.reduceLT, Int.reduceToNat, fct]) | (((with_reducible refine gBox ?_); refine zbox ?_); intro gb wb hS) | (refine zmm I ?_; intro gb wb hS) | (refine G.cn ?_ ?_ <;> intro hc <;> first | (with_reducible exact False.elim hc) | (exfalso; omega) | skip))
  · (first | refine G.r1 ?_ | refine G.r2 ?_ | refine G.r3 ?_ | refine G.r0 ?_ | refine G.d0 ?_); (try simp (disch := first | exact dis | fail) only [push_cast, ↓reduceIte, Nat.reduceAdd, Nat.reduceLeDiff, Nat.reduceEqDiff, Nat.reduceLT, Int.reduceToNat, fct])
    left
    have h0 : newM names = (0, 13) := by simp only [newM]; rw [if_pos (by omega)]
    rw [h0]
    exact ⟨by decide, rfl, Sep.xt (by assumption)⟩
  · have h0 : newM names = newF [] names := by simp only [newM]; rw [if_neg (by omega)]
    refine G.loop (fun r w' => ∃ k : Nat, k ≤ names.length ∧ r 18 = I k ∧ r 17 = I names.length ∧ r 16 = v ∧ r 0 = v ∧ r 5 = .map (some gb) ∧ newM names = newF (names.take k) (names.drop k) ∧ Sep w w' [mapC gb I (mtM (names.take k))]) (fun r _ => names.length - toN (r 18)) ?_ ?_
    · refine ⟨0, ?_⟩
      rw [← mtM_nil] at hS
      ((repeat' apply And.intro) <;> first | exact dj | (simp only [push_cast, ↓reduceIte, Nat.reduceAdd, Nat.reduceLeDiff, Nat.reduceEqDiff, Nat.reduceLT, Int.reduceToNat] <;> omega) | skip)
    · rintro u wl ⟨k, hk, h18, h17, h16, hu0, h5, e, hS⟩ ih
      (have fct := (And.intro @h18 (And.intro @h17 (And.intro @h16 (And.intro @hu0 (And.intro @h5 (And.intro @mtM_get @mtM_some)))))); repeat' (first | ((with_reducible apply G.a); exact rfl) | refine G.reg fun K hK => ?_ | (with_reducible (refine hK _ _ ?_); clear hK K) | (have hk := hK; clear hk; simp (disch := first | exact dis | fail) only [push_cast, ↓reduceIte, Nat.reduceAdd, Nat.reduceLeDiff, Nat.reduceEqDiff, Nat.reduceLT, Int.reduceToNat, fct]) | (((with_reducible refine gBox ?_); refine zbox ?_); intro gb wb hS) | (refine zcp 52 (valid_spec _ _ (by have := hl2 _ (getD_mem names k (by omega)); omega)) ?_; intro wb hS) | (refine zlk ?_) | (refine zmu ?_; intro wb hS) | (refine zco 88 (clone_spec (hr.ext hS.x) (by omega)) ?_; rintro vb wb hS2; have hS := hS2.ap; simp only [apps] at hS) | (refine G.cn ?_ ?_ <;> intro hc <;> first | (with_reducible exact False.elim hc) | (exfalso; omega) | skip))) <;> (try clear fct)
      · (have fct := (And.intro @h18 (And.intro @h17 (And.intro @h16 (And.intro @hu0 @h5)))); (first | refine G.r1 ?_ | refine G.r2 ?_ | refine G.r3 ?_ | refine G.r0 ?_ | refine G.d0 ?_); (try simp (disch := first | exact dis | fail) only [push_cast, ↓reduceIte, Nat.reduceAdd, Nat.reduceLeDiff, Nat.reduceEqDiff, Nat.reduceLT, Int.reduceToNat, fct]); (try clear fct))
        left
        have h1 : newM names = ((k : Int), 14) := by
          rw [e, dropD _ _ (by assumption), newF, if_neg (by rw [hc]; simp)]
          simp; omega
        rw [h1]
        exact ⟨by simp, rfl, Sep.xt (by assumption)⟩
      · (have fct := (And.intro @h18 (And.intro @h17 (And.intro @h16 (And.intro @hu0 @h5)))); (first | refine G.r1 ?_ | refine G.r2 ?_ | refine G.r3 ?_ | refine G.r0 ?_ | refine G.d0 ?_); (try simp (disch := first | exact dis | fail) only [push_cast, ↓reduceIte, Nat.reduceAdd, Nat.reduceLeDiff, Nat.reduceEqDiff, Nat.reduceLT, Int.reduceToNat, fct]); (try clear fct))
        left
        have h1 : newM names = ((k : Int), 15) := by
          rw [e, dropD _ _ (by assumption), newF, if_pos (by assumption), if_pos hc]
          simp; omega
        rw [h1]
        exact ⟨by simp, rfl, Sep.xt (by assumption)⟩
      · rw [mtM_put _ _ _ (by simp; omega) (by omega), ← takeD _ _ (by assumption)] at hS
        (refine ih _ _ ⟨k + 1, ?_⟩ ?_; rotate_left; (focus ((simp only [push_cast, ↓reduceIte, Nat.reduceAdd, Nat.reduceLeDiff, Nat.reduceEqDiff, Nat.reduceLT, Int.reduceToNat, toN_i, h18, h17, h16, hu0, h5] <;> omega))); ((repeat' apply And.intro) <;> first | exact dj | (simp only [push_cast, ↓reduceIte, Nat.reduceAdd, Nat.reduceLeDiff, Nat.reduceEqDiff, Nat.reduceLT, Int.reduceToNat, h18, h17, h16, hu0, h5] <;> omega) | skip))
        rw [e, dropD _ _ (by assumption), newF, if_pos (by assumption), if_neg (by omega), ← takeD _ _ (by assumption)]
      · (have fct := (And.intro @h18 (And.intro @h17 (And.intro @h16 (And.intro @hu0 @h5)))); (first | refine G.r1 ?_ | refine G.r2 ?_ | refine G.r3 ?_ | refine G.r0 ?_ | refine G.d0 ?_); (try simp (disch := first | exact dis | fail) only [push_cast, ↓reduceIte, Nat.reduceAdd, Nat.reduceLeDiff, Nat.reduceEqDiff, Nat.reduceLT, Int.reduceToNat, fct]); (try clear fct))
        right
        have hk2 : k = names.length := by omega
        subst hk2
        rw [List.take_length, List.drop_length] at e
        rw [List.take_length] at hS
        refine ⟨by rw [e]; rfl, _, _, _, rfl, hS⟩
end Go.Proofs.YtdikpaochhacmaaGreatDoor
namespace Go.Proofs.YtdikpaochhacmaaGreatDoor
set_option linter.unusedSimpArgs false
set_option linter.unusedVariables false
attribute [local irreducible] SemK UnitK StK AlcK BslK CallK CallV Instr.box Builtin.append_ Instr.makeSlice Instr.makeMap Instr.lookup Instr.mapUpdate Instr.sliceAt convert
open Go.RowKit
end Go.Proofs.YtdikpaochhacmaaGreatDoor
namespace Go.Proofs.YtdikpaochhacmaaGreatDoor
set_option linter.unusedSimpArgs false
set_option linter.unusedVariables false
attribute [local irreducible] SemK UnitK StK AlcK BslK CallK CallV Instr.box Builtin.append_ Instr.makeSlice Instr.makeMap Instr.lookup Instr.mapUpdate Instr.sliceAt convert
open Go.RowKit
theorem new_ok {v : Value} {names : List Str} {w : World} (hr : Rd w eS v names) (hl : names.length ≤ 1000000000) (hl2 : ∀ s ∈ names, s.length ≤ 100000000000) (hn : (newM names).2 = 0) :
    Ret Tryz.prog 57 #[v] w fun res w' => ∃ g sv r, res = .tuple #[.pointer (some ⟨g, 0, none⟩), I names.length, I 0] ∧ Sep w w' [boxC g 188 [sv, .map (some r)], accC sv 9 eS names, mapC r I (mtM names)] :=
  (new_spec hr hl hl2).mono fun res w' h => by
    rcases h with ⟨h, _⟩ | ⟨_, h⟩
    · exact absurd hn h
    · exact h
theorem new_bad {v : Value} {names : List Str} {w : World} (hr : Rd w eS v names) (hl : names.length ≤ 1000000000) (hl2 : ∀ s ∈ names, s.length ≤ 100000000000) (hn : (newM names).2 ≠ 0) :
    Pu Tryz.prog 57 #[v] w (.tuple #[.pointer none, I (newM names).1, I (newM names).2]) :=
  (new_spec hr hl hl2).mono fun res w' h => by
    rcases h with ⟨_, h⟩ | ⟨h, _⟩
    · exact h
    · exact absurd h hn
end Go.Proofs.YtdikpaochhacmaaGreatDoor
namespace Go.Proofs.YtdikpaochhacmaaGreatDoor
set_option linter.unusedSimpArgs false
set_option linter.unusedVariables false
open Go.RowKit
end Go.Proofs.YtdikpaochhacmaaGreatDoor
