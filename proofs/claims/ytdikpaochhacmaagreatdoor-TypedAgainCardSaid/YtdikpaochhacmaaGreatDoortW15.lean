/- Texts of the proof, joined. -/
import Derived.Test.YtdikpaochhacmaaGreatDoortP15
import Derived.Test.YtdikpaochhacmaaGreatDoortR02
import Derived.Test.YtdikpaochhacmaaGreatDoortW02
namespace Go.Proofs.YtdikpaochhacmaaGreatDoor
set_option linter.unusedSimpArgs false
set_option linter.unusedVariables false
attribute [local irreducible] SemK UnitK StK AlcK BslK CallK CallV Instr.box Builtin.append_ Instr.makeSlice Instr.makeMap Instr.lookup Instr.mapUpdate Instr.sliceAt convert
open Go.RowKit
def c58 : MC := (.seq (.reg [qq 4 (.mv (ki 0)), qq 5 (.mv (kb false))]) (.seq (.reg [qm 9 0, qq 10 (.nck (.tmp 9)), qq 11 (.fad 1 (.tmp 10)), qq 12 (.ld none (.tmp 11)), qm 13 1, qq 14 (.raw (.lookup 185 (.tmp 12) (.tmp 13) true) 138), qm 8 14, qq 15 (.ext 0 (.tmp 8)), qq 16 (.ext 1 (.tmp 8)), qm 6 15, qm 7 16]) (.seq (.reg [qm 17 6, qm 18 7, qm 4 17, qm 5 18]) .ret)))
theorem k58 : conv Tryz.prog 19 (Tryz.f58.body.getD .skip) = c58 := by kernel_rfl
theorem in58 {a0 a1 : Value} {w : World} {R : Value → World → Prop} (h : G Tryz.prog Tryz.f58 19 [.c c58] R (frL 0 [a0, a1]) w) : Ret Tryz.prog 58 #[a0, a1] w R := G.enter (args := [a0, a1]) Tryz.func58 (c := Tryz.f58.body.getD .skip) (by kernel_rfl) (by kernel_rfl) (by simp) k58 h
theorem at_spec {g r : Nat} {sv : Value} {names : List Str} {w : World} (hB : Blk w g 188 [sv, .map (some r)].toArray) (hM : MapRd w r I (mtM names)) (name : Str) :
    Pu Tryz.prog 58 #[.pointer (some ⟨g, 0, none⟩), S name] w (.tuple #[I (max (atM names name) 0), .bool (decide (0 ≤ atM names name))]) := by
  refine in58 ?_
  have hS := Sep.start w
  repeat' (first | ((with_reducible apply G.a); exact rfl) | refine G.reg fun K hK => ?_ | (with_reducible (refine hK _ _ ?_); clear hK K) | (have hk := hK; clear hk; simp (disch := first | exact dis | fail) only [push_cast, ↓reduceIte, Nat.reduceAdd, Nat.reduceLeDiff, Nat.reduceEqDiff, Nat.reduceLT, Int.reduceToNat, fct]) | (refine zlk ?_))
  (have fct := (And.intro @mtM_get @mtM_some); (first | refine G.r1 ?_ | refine G.r2 ?_ | refine G.r3 ?_ | refine G.r0 ?_ | refine G.d0 ?_); (try simp (disch := first | exact dis | fail) only [push_cast, ↓reduceIte, Nat.reduceAdd, Nat.reduceLeDiff, Nat.reduceEqDiff, Nat.reduceLT, Int.reduceToNat, fct]); (try clear fct))
  exact Sep.xt (by assumption)
def c88 : MC := (.seq (.reg [qq 2 (.mv (.const (.slice none 0 0)))]) (.seq (.seq (.reg [qm 3 0, qq 4 (.raw (.binOp .eql 49 (.tmp 3) (.const (.slice none 0 0)) 49) 4)]) (.cond (.tmp 4) (.seq (.reg [qq 2 (.mv (.const (.slice none 0 0)))]) .ret) .skip)) (.seq (.reg [qq 5 (.bsl 9 [] 0 []), qm 6 0, qq 7 (.raw (.call ⟨(.builtin .append), #[(.tmp 5), (.tmp 6)], #[49, 49]⟩) 49), qm 2 7]) .ret)))
theorem k88 : conv Tryz.prog 8 (Tryz.f88.body.getD .skip) = c88 := by kernel_rfl
theorem in88 {a0 : Value} {w : World} {R : Value → World → Prop} (h : G Tryz.prog Tryz.f88 8 [.c c88] R (frL 0 [a0]) w) : Ret Tryz.prog 88 #[a0] w R := G.enter (args := [a0]) Tryz.func88 (c := Tryz.f88.body.getD .skip) (by kernel_rfl) (by kernel_rfl) (by simp) k88 h
theorem clone_spec {v : Value} {l : List Str} {w : World} (hr : Rd w eS v l) (hl : l.length ≤ 1000000000000) : Ret Tryz.prog 88 #[v] w fun v' w' => Sep w w' [accC v' 9 eS l] := by
  refine in88 ?_
  have hS := Sep.start w
  repeat' (first | ((with_reducible apply G.a); exact rfl) | refine G.reg fun K hK => ?_ | (with_reducible (refine hK _ _ ?_); clear hK K) | (have hk := hK; clear hk; simp (disch := first | exact dis | fail) only [push_cast, ↓reduceIte, Nat.reduceAdd, Nat.reduceLeDiff, Nat.reduceEqDiff, Nat.reduceLT, Int.reduceToNat, fct]) | (refine zbsl ?_; intro gb wb hS) | (refine zn1 ?_) | (refine zn2 ?_) | (refine zn3 ?_) | (refine zn4 ?_) | (refine G.cn ?_ ?_ <;> intro hc <;> first | (with_reducible exact False.elim hc) | (exfalso; omega) | skip))
  · obtain ⟨p, cap, rfl, h2, h3, h4, h5⟩ := hr
    have : l = [] := by
      rcases Nat.eq_zero_or_pos l.length with h | h
      · exact List.eq_nil_of_length_eq_zero h
      · obtain ⟨a, ha, _⟩ := h5 h; subst ha; simp [isNil] at hc
    subst this
    (first | refine G.r1 ?_ | refine G.r2 ?_ | refine G.r3 ?_ | refine G.r0 ?_ | refine G.d0 ?_); (try simp (disch := first | exact dis | fail) only [push_cast, ↓reduceIte, Nat.reduceAdd, Nat.reduceLeDiff, Nat.reduceEqDiff, Nat.reduceLT, Int.reduceToNat, fct])
    exact hS.nil _ _
  · have hS := Sep.toAcc (E := eS) ([] : List Str) hS Up.h rfl rfl (by simp) (by simp)
    ((refine zan ?_; intro vb wb hS))
    repeat' (first | ((with_reducible apply G.a); exact rfl) | refine G.reg fun K hK => ?_ | (with_reducible (refine hK _ _ ?_); clear hK K) | (have hk := hK; clear hk; simp (disch := first | exact dis | fail) only [push_cast, ↓reduceIte, Nat.reduceAdd, Nat.reduceLeDiff, Nat.reduceEqDiff, Nat.reduceLT, Int.reduceToNat, fct]) | (refine zbsl ?_; intro gb wb hS) | (refine G.cn ?_ ?_ <;> intro hc <;> first | (with_reducible exact False.elim hc) | (exfalso; omega) | skip))
    repeat' (first | ((with_reducible apply G.a); exact rfl) | refine G.reg fun K hK => ?_ | (with_reducible (refine hK _ _ ?_); clear hK K) | (have hk := hK; clear hk; simp (disch := first | exact dis | fail) only [push_cast, ↓reduceIte, Nat.reduceAdd, Nat.reduceLeDiff, Nat.reduceEqDiff, Nat.reduceLT, Int.reduceToNat, fct]) | (refine zbsl ?_; intro gb wb hS) | (refine G.cn ?_ ?_ <;> intro hc <;> first | (with_reducible exact False.elim hc) | (exfalso; omega) | skip))
    (first | refine G.r1 ?_ | refine G.r2 ?_ | refine G.r3 ?_ | refine G.r0 ?_ | refine G.d0 ?_); (try simp (disch := first | exact dis | fail) only [push_cast, ↓reduceIte, Nat.reduceAdd, Nat.reduceLeDiff, Nat.reduceEqDiff, Nat.reduceLT, Int.reduceToNat, fct])
    exact hS
def c57l1 : MC := (.seq (.reg [qq 19 (.bin .lss (.tmp 18) (.tmp 17))]) (.seq (.cond (.tmp 19) .skip (.exit 0)) (.seq (.blk 1 (.seq (.reg [qm 20 18, qq 21 (.adr 1 (.tmp 16) (.tmp 18)), qq 22 (.ld none (.tmp 21)), qm 6 20, qm 7 22]) (.seq (.seq (.reg [qm 23 7, qq 24 (.call 52 [(.tmp 23)]), qq 25 (.un .not (.tmp 24))]) (.cond (.tmp 25) (.seq (.reg [qm 26 6, qq 2 (.mv (.const (.pointer none))), qm 3 26, qq 4 (.mv (ki 14))]) .ret) .skip)) (.seq (.seq (.reg [qm 28 5, qm 29 7, qq 30 (.raw (.lookup 185 (.tmp 28) (.tmp 29) true) 138), qm 27 30, qq 31 (.ext 0 (.tmp 27)), qq 32 (.ext 1 (.tmp 27)), qm 8 31, qm 9 32]) (.seq (.reg [qm 33 9]) (.cond (.tmp 33) (.seq (.reg [qm 34 6, qq 2 (.mv (.const (.pointer none))), qm 3 34, qq 4 (.mv (ki 15))]) .ret) .skip))) (.reg [qm 35 5, qm 36 7, qm 37 6, qn (.raw (.mapUpdate 185 (.tmp 35) (.tmp 36) (.tmp 37)) 0)]))))) (.reg [qq 38 (.bin .add (.tmp 18) (ki 1)), qm 18 38]))))
def c57 : MC := (.seq (.reg [qq 2 (.mv (.const (.pointer none))), qq 3 (.mv (ki 0)), qq 4 (.mv (ki 0))]) (.seq (.seq (.reg [qm 10 0, qq 11 (.len (.tmp 10)), qq 12 (.bin .eql (.tmp 11) (ki 0))]) (.cond (.tmp 12) (.seq (.reg [qq 2 (.mv (.const (.pointer none))), qq 3 (.mv (ki 0)), qq 4 (.mv (ki 13))]) .ret) .skip)) (.seq (.reg [qm 13 0, qq 14 (.len (.tmp 13)), qq 15 (.raw (.makeMap 185 (.some (.tmp 14))) 185), qm 5 15]) (.seq (.seq (.reg [qm 16 0, qq 17 (.len (.tmp 16)), qq 18 (.mv (ki 0))]) (.blk 0 (.loop c57l1))) (.seq (.reg [qm 39 0, qq 40 (.call 88 [(.tmp 39)]), qm 41 5, qq 42 (.bld [(.slice none 0 0), (.map none)] [⟨0, ⟨1, (.tmp 40)⟩⟩, ⟨1, ⟨1, (.tmp 41)⟩⟩]), qq 43 (.raw (.box 188 (.tmp 42)) 135), qm 44 0, qq 45 (.len (.tmp 44)), qm 2 43, qm 3 45, qq 4 (.mv (ki 0))]) .ret)))))
theorem k57 : conv Tryz.prog 46 (Tryz.f57.body.getD .skip) = c57 := by kernel_rfl
theorem in57 {a0 : Value} {w : World} {R : Value → World → Prop} (h : G Tryz.prog Tryz.f57 46 [.c c57] R (frL 0 [a0]) w) : Ret Tryz.prog 57 #[a0] w R := G.enter (args := [a0]) Tryz.func57 (c := Tryz.f57.body.getD .skip) (by kernel_rfl) (by kernel_rfl) (by simp) k57 h
theorem new_spec {v : Value} {names : List Str} {w : World} (hr : Rd w eS v names) (hl : names.length ≤ 1000000000) (hl2 : ∀ s ∈ names, s.length ≤ 100000000000) :
    Ret Tryz.prog 57 #[v] w fun res w' => ((newM names).2 ≠ 0 ∧ res = .tuple #[.pointer none, I (newM names).1, I (newM names).2] ∧ Ext w w') ∨
      ((newM names).2 = 0 ∧ ∃ g sv r, res = .tuple #[.pointer (some ⟨g, 0, none⟩), I names.length, I 0] ∧ Sep w w' [boxC g 188 [sv, .map (some r)], accC sv 9 eS names, mapC r I (mtM names)]) := by
  refine in57 ?_
  have hS := Sep.start w
  have hbd := hr.bd
  repeat' (first | ((with_reducible apply G.a); exact rfl) | refine G.reg fun K hK => ?_ | (with_reducible (refine hK _ _ ?_); clear hK K) | (have hk := hK; clear hk; simp (disch := first | exact dis | fail) only [push_cast, ↓reduceIte, Nat.reduceAdd, Nat.reduceLeDiff, Nat.reduceEqDiff, Nat.reduceLT, Int.reduceToNat, fct]) | (((with_reducible refine gBox ?_); refine zbox ?_); intro gb wb hS) | (refine zmm I ?_; intro gb wb hS) | (refine G.cn ?_ ?_ <;> intro hc <;> first | (with_reducible exact False.elim hc) | (exfalso; omega) | skip))
  · (first | refine G.r1 ?_ | refine G.r2 ?_ | refine G.r3 ?_ | refine G.r0 ?_ | refine G.d0 ?_); (try simp (disch := first | exact dis | fail) only [push_cast, ↓reduceIte, Nat.reduceAdd, Nat.reduceLeDiff, Nat.reduceEqDiff, Nat.reduceLT, Int.reduceToNat, fct])
    left
    have h0 : newM names = (0, 13) := by simp only [newM]; rw [if_pos (by omega)]
    rw [h0]
    exact ⟨by decide, rfl, Sep.xt (by assumption)⟩
  · have h0 : newM names = newF [] names := by simp only [newM]; rw [if_neg (by omega)]
    refine G.loop (fun r w' => ∃ k : Nat, k ≤ names.length ∧ r 18 = I k ∧ r 17 = I names.length ∧ r 16 = v ∧ r 0 = v ∧ r 5 = .map (some gb) ∧ newM names = newF (names.take k) (names.drop k) ∧ Sep w w' [mapC gb I (mtM (names.take k))]) (fun r _ => names.length - toN (r 18)) ?_ ?_
    · refine ⟨0, ?_⟩
      rw [← mtM_nil] at hS
      ((repeat' apply And.intro) <;> first | exact dj | (simp only [push_cast, ↓reduceIte, Nat.reduceAdd, Nat.reduceLeDiff, Nat.reduceEqDiff, Nat.reduceLT, Int.reduceToNat] <;> omega) | skip)
    · rintro u wl ⟨k, hk, h18, h17, h16, hu0, h5, e, hS⟩ ih
      (have fct := (And.intro @h18 (And.intro @h17 (And.intro @h16 (And.intro @hu0 (And.intro @h5 (And.intro @mtM_get @mtM_some)))))); repeat' (first | ((with_reducible apply G.a); exact rfl) | refine G.reg fun K hK => ?_ | (with_reducible (refine hK _ _ ?_); clear hK K) | (have hk := hK; clear hk; simp (disch := first | exact dis | fail) only [push_cast, ↓reduceIte, Nat.reduceAdd, Nat.reduceLeDiff, Nat.reduceEqDiff, Nat.reduceLT, Int.reduceToNat, fct]) | (((with_reducible refine gBox ?_); refine zbox ?_); intro gb wb hS) | (refine zcp 52 (valid_spec _ _ (by have := hl2 _ (getD_mem names k (by omega)); omega)) ?_; intro wb hS) | (refine zlk ?_) | (refine zmu ?_; intro wb hS) | (refine zco 88 (clone_spec (hr.ext hS.x) (by omega)) ?_; rintro vb wb hS2; have hS := hS2.ap; simp only [apps] at hS) | (refine G.cn ?_ ?_ <;> intro hc <;> first | (with_reducible exact False.elim hc) | (exfalso; omega) | skip))) <;> (try clear fct)
      · (have fct := (And.intro @h18 (And.intro @h17 (And.intro @h16 (And.intro @hu0 @h5)))); (first | refine G.r1 ?_ | refine G.r2 ?_ | refine G.r3 ?_ | refine G.r0 ?_ | refine G.d0 ?_); (try simp (disch := first | exact dis | fail) only [push_cast, ↓reduceIte, Nat.reduceAdd, Nat.reduceLeDiff, Nat.reduceEqDiff, Nat.reduceLT, Int.reduceToNat, fct]); (try clear fct))
        left
        have h1 : newM names = ((k : Int), 14) := by
          rw [e, dropD _ _ (by assumption), newF, if_neg (by rw [hc]; simp)]
          simp; omega
        rw [h1]
        exact ⟨by simp, rfl, Sep.xt (by assumption)⟩
      · (have fct := (And.intro @h18 (And.intro @h17 (And.intro @h16 (And.intro @hu0 @h5)))); (first | refine G.r1 ?_ | refine G.r2 ?_ | refine G.r3 ?_ | refine G.r0 ?_ | refine G.d0 ?_); (try simp (disch := first | exact dis | fail) only [push_cast, ↓reduceIte, Nat.reduceAdd, Nat.reduceLeDiff, Nat.reduceEqDiff, Nat.reduceLT, Int.reduceToNat, fct]); (try clear fct))
        left
        have h1 : newM names = ((k : Int), 15) := by
          rw [e, dropD _ _ (by assumption), newF, if_pos (by assumption), if_pos hc]
          simp; omega
        rw [h1]
        exact ⟨by simp, rfl, Sep.xt (by assumption)⟩
      · rw [mtM_put _ _ _ (by simp; omega) (by omega), ← takeD _ _ (by assumption)] at hS
        (refine ih _ _ ⟨k + 1, ?_⟩ ?_; rotate_left; (focus ((simp only [push_cast, ↓reduceIte, Nat.reduceAdd, Nat.reduceLeDiff, Nat.reduceEqDiff, Nat.reduceLT, Int.reduceToNat, toN_i, h18, h17, h16, hu0, h5] <;> omega))); ((repeat' apply And.intro) <;> first | exact dj | (simp only [push_cast, ↓reduceIte, Nat.reduceAdd, Nat.reduceLeDiff, Nat.reduceEqDiff, Nat.reduceLT, Int.reduceToNat, h18, h17, h16, hu0, h5] <;> omega) | skip))
        rw [e, dropD _ _ (by assumption), newF, if_pos (by assumption), if_neg (by omega), ← takeD _ _ (by assumption)]
      · (have fct := (And.intro @h18 (And.intro @h17 (And.intro @h16 (And.intro @hu0 @h5)))); (first | refine G.r1 ?_ | refine G.r2 ?_ | refine G.r3 ?_ | refine G.r0 ?_ | refine G.d0 ?_); (try simp (disch := first | exact dis | fail) only [push_cast, ↓reduceIte, Nat.reduceAdd, Nat.reduceLeDiff, Nat.reduceEqDiff, Nat.reduceLT, Int.reduceToNat, fct]); (try clear fct))
        right
        have hk2 : k = names.length := by omega
        subst hk2
        rw [List.take_length, List.drop_length] at e
        rw [List.take_length] at hS
        refine ⟨by rw [e]; rfl, _, _, _, rfl, hS⟩
end Go.Proofs.YtdikpaochhacmaaGreatDoor
namespace Go.Proofs.YtdikpaochhacmaaGreatDoor
set_option linter.unusedSimpArgs false
set_option linter.unusedVariables false
attribute [local irreducible] SemK UnitK StK AlcK BslK CallK CallV Instr.box Builtin.append_ Instr.makeSlice Instr.makeMap Instr.lookup Instr.mapUpdate Instr.sliceAt convert
open Go.RowKit
end Go.Proofs.YtdikpaochhacmaaGreatDoor
namespace Go.Proofs.YtdikpaochhacmaaGreatDoor
set_option linter.unusedSimpArgs false
set_option linter.unusedVariables false
attribute [local irreducible] SemK UnitK StK AlcK BslK CallK CallV Instr.box Builtin.append_ Instr.makeSlice Instr.makeMap Instr.lookup Instr.mapUpdate Instr.sliceAt convert
open Go.RowKit
def c51 : MC := (.seq (.reg [qq 2 (.mv (.const (S [])))]) (.seq (.seq (.reg [qm 3 0]) (.blk 0 (.seq (.reg [qq 5 (.bin .eql (.tmp 3) (ki 1)), qm 4 5]) (.cond (.tmp 4) (.seq (.reg [qq 2 (.mv (.const (S [116, 101, 120, 116])))]) .ret) (.seq (.reg [qq 7 (.bin .eql (.tmp 3) (ki 2)), qm 6 7]) (.cond (.tmp 6) (.seq (.reg [qq 2 (.mv (.const (S [105, 110, 116])))]) .ret) (.seq (.reg [qq 9 (.bin .eql (.tmp 3) (ki 3)), qm 8 9]) (.cond (.tmp 8) (.seq (.reg [qq 2 (.mv (.const (S [98, 111, 111, 108])))]) .ret) .skip)))))))) (.seq (.reg [qq 2 (.mv (.const (S [])))]) .ret)))
theorem k51 : conv Tryz.prog 10 (Tryz.f51.body.getD .skip) = c51 := by kernel_rfl
theorem in51 {a0 : Value} {w : World} {R : Value → World → Prop} (h : G Tryz.prog Tryz.f51 10 [.c c51] R (frL 0 [a0]) w) : Ret Tryz.prog 51 #[a0] w R := G.enter (args := [a0]) Tryz.func51 (c := Tryz.f51.body.getD .skip) (by kernel_rfl) (by kernel_rfl) (by simp) k51 h
theorem sword_spec (k : Int) (w : World) : Pu Tryz.prog 51 #[I k] w (S (wordM k)) := by
  refine in51 ?_
  have hS := Sep.start w
  unfold wordM
  repeat' (first | ((with_reducible apply G.a); exact rfl) | refine G.reg fun K hK => ?_ | (with_reducible (refine hK _ _ ?_); clear hK K) | (have hk := hK; clear hk; simp (disch := first | exact dis | fail) only [push_cast, ↓reduceIte, Nat.reduceAdd, Nat.reduceLeDiff, Nat.reduceEqDiff, Nat.reduceLT, Int.reduceToNat, fct]) | (refine G.cn ?_ ?_ <;> intro hc <;> first | (with_reducible exact False.elim hc) | (exfalso; omega) | skip))
  all_goals
    (first | refine G.r1 ?_ | refine G.r2 ?_ | refine G.r3 ?_ | refine G.r0 ?_ | refine G.d0 ?_); (try simp (disch := first | exact dis | fail) only [push_cast, ↓reduceIte, Nat.reduceAdd, Nat.reduceLeDiff, Nat.reduceEqDiff, Nat.reduceLT, Int.reduceToNat, fct])
    (refine ⟨?_, Sep.xt (by assumption)⟩)
    first | rw [if_pos (by omega)] | rw [if_neg (by omega), if_pos (by omega)] | rw [if_neg (by omega), if_neg (by omega), if_pos (by omega)] | rw [if_neg (by omega), if_neg (by omega), if_neg (by omega)]
def c28l1 : MC := (.seq (.reg [qq 14 (.bin .lss (.tmp 13) (.tmp 12))]) (.seq (.cond (.tmp 14) .skip (.exit 0)) (.seq (.blk 1 (.seq (.reg [qm 15 13, qq 16 (.adr 3 (.tmp 11) (.tmp 13)), qq 17 (.ld (.some 3) (.tmp 16)), qq 6 (.alc 76 [(S []), (.int .i64 0), (.bool false)]), qm 5 15, qn (.st 3 (.tmp 6) (.tmp 17))]) (.seq (.blk 2 (.seq (.reg [qq 19 (.fad 1 (.tmp 6)), qq 20 (.ld none (.tmp 19)), qq 21 (.call 51 [(.tmp 20)]), qq 22 (.bin .eql (.tmp 21) (.const (S []))), qm 18 22]) (.cond (.tmp 18) (.seq (.reg [qm 23 5, qm 2 23, qq 3 (.mv (ki 21))]) .ret) (.seq (.reg [qq 25 (.fad 0 (.tmp 6)), qq 26 (.ld none (.tmp 25)), qq 27 (.call 52 [(.tmp 26)]), qq 28 (.un .not (.tmp 27)), qm 24 28]) (.cond (.tmp 24) (.seq (.reg [qm 29 5, qm 2 29, qq 3 (.mv (ki 14))]) .ret) (.seq (.reg [qm 31 4, qq 32 (.fad 0 (.tmp 6)), qq 33 (.ld none (.tmp 32)), qq 34 (.raw (.lookup 129 (.tmp 31) (.tmp 33) false) 4), qm 30 34]) (.cond (.tmp 30) (.seq (.reg [qm 35 5, qm 2 35, qq 3 (.mv (ki 15))]) .ret) .skip))))))) (.reg [qm 36 4, qq 37 (.fad 0 (.tmp 6)), qq 38 (.ld none (.tmp 37)), qn (.raw (.mapUpdate 129 (.tmp 36) (.tmp 38) (kb true)) 0)])))) (.reg [qq 39 (.bin .add (.tmp 13) (ki 1)), qm 13 39]))))
def c28 : MC := (.seq (.reg [qq 2 (.mv (ki 0)), qq 3 (.mv (ki 0))]) (.seq (.seq (.reg [qm 7 0, qq 8 (.len (.tmp 7)), qq 9 (.bin .eql (.tmp 8) (ki 0))]) (.cond (.tmp 9) (.seq (.reg [qq 2 (.mv (ki 0)), qq 3 (.mv (ki 13))]) .ret) .skip)) (.seq (.reg [qq 10 (.raw (.makeMap 129 none) 129), qm 4 10]) (.seq (.seq (.reg [qm 11 0, qq 12 (.len (.tmp 11)), qq 13 (.mv (ki 0))]) (.blk 0 (.loop c28l1))) (.seq (.reg [qm 40 0, qq 41 (.len (.tmp 40)), qm 2 41, qq 3 (.mv (ki 0))]) .ret)))))
theorem k28 : conv Tryz.prog 42 (Tryz.f28.body.getD .skip) = c28 := by kernel_rfl
theorem in28 {a0 : Value} {w : World} {R : Value → World → Prop} (h : G Tryz.prog Tryz.f28 42 [.c c28] R (frL 0 [a0]) w) : Ret Tryz.prog 28 #[a0] w R := G.enter (args := [a0]) Tryz.func28 (c := Tryz.f28.body.getD .skip) (by kernel_rfl) (by kernel_rfl) (by simp) k28 h
theorem check_spec {v : Value} {l : List Col} {w : World} (hr : Rd w eC v l) (hl2 : ∀ c ∈ l, c.name.length ≤ 100000000000) : Pu Tryz.prog 28 #[v] w (.tuple #[I (checkM (l.map nkC)).1, I (checkM (l.map nkC)).2]) := by
  refine in28 ?_
  have hS := Sep.start w
  have hbd := hr.bd
  repeat' (first | ((with_reducible apply G.a); exact rfl) | refine G.reg fun K hK => ?_ | (with_reducible (refine hK _ _ ?_); clear hK K) | (have hk := hK; clear hk; simp (disch := first | exact dis | fail) only [push_cast, ↓reduceIte, Nat.reduceAdd, Nat.reduceLeDiff, Nat.reduceEqDiff, Nat.reduceLT, Int.reduceToNat, fct]) | (refine zalc ?_; intro gb wb hS) | ((with_reducible refine gSt ?_); refine zs2 ?_; intro wb hS) | (refine zmm Value.bool ?_; intro gb wb hS) | (refine G.cn ?_ ?_ <;> intro hc <;> first | (with_reducible exact False.elim hc) | (exfalso; omega) | skip))
  · (first | refine G.r1 ?_ | refine G.r2 ?_ | refine G.r3 ?_ | refine G.r0 ?_ | refine G.d0 ?_); (try simp (disch := first | exact dis | fail) only [push_cast, ↓reduceIte, Nat.reduceAdd, Nat.reduceLeDiff, Nat.reduceEqDiff, Nat.reduceLT, Int.reduceToNat, fct])
    have h0 : checkM (l.map nkC) = (0, 13) := by simp only [checkM, List.length_map]; rw [if_pos (by omega)]
    rw [h0]
    exact ⟨rfl, Sep.xt (by assumption)⟩
  · have h0 : checkM (l.map nkC) = checkF [] (l.map nkC) := by simp only [checkM, List.length_map]; rw [if_neg (by omega)]
    refine G.loop (fun r w' => ∃ k : Nat, k ≤ l.length ∧ r 13 = I k ∧ r 12 = I l.length ∧ r 11 = v ∧ r 0 = v ∧ r 4 = .map (some gb) ∧ checkM (l.map nkC) = checkF ((l.map (·.name)).take k) ((l.map nkC).drop k) ∧ Sep w w' [mapC gb Value.bool (mbM ((l.map (·.name)).take k))]) (fun r _ => l.length - toN (r 13)) ?_ ?_
    · refine ⟨0, ?_⟩
      rw [← mbM_nil] at hS
      ((repeat' apply And.intro) <;> first | exact dj | (simp only [push_cast, ↓reduceIte, Nat.reduceAdd, Nat.reduceLeDiff, Nat.reduceEqDiff, Nat.reduceLT, Int.reduceToNat] <;> omega) | skip)
    · rintro u wl ⟨k, hk, h13, h12, h11, hu0, h4, e, hS⟩ ih
      by_cases hlt : (k : Int) < l.length
      · have hlen := hl2 _ (getD_mem l k hlt)
        have hnk : (l.map nkC).drop k = ((l.getD k default).name, (l.getD k default).kind) :: (l.map nkC).drop (k + 1) := mapD nkC l k hlt
        have htk := mapT (·.name) l k hlt
        have hll := mapL (·.name) l k hk
        rw [hnk, checkF_cons, hll] at e
        (have fct := (And.intro @h13 (And.intro @h12 (And.intro @h11 (And.intro @hu0 (And.intro @h4 @mbM_get))))); repeat' (first | ((with_reducible apply G.a); exact rfl) | refine G.reg fun K hK => ?_ | (with_reducible (refine hK _ _ ?_); clear hK K) | (have hk := hK; clear hk; simp (disch := first | exact dis | fail) only [push_cast, ↓reduceIte, Nat.reduceAdd, Nat.reduceLeDiff, Nat.reduceEqDiff, Nat.reduceLT, Int.reduceToNat, fct]) | (refine zalc ?_; intro gb wb hS) | ((with_reducible refine gSt ?_); refine zs2 ?_; intro wb hS) | (refine zcp 51 (sword_spec _ _) ?_; intro wb hS) | (refine zcp 52 (valid_spec _ _ (by omega)) ?_; intro wb hS) | (refine zlk ?_) | (refine zmu ?_; intro wb hS) | (refine G.cn ?_ ?_ <;> intro hc <;> first | (with_reducible exact False.elim hc) | (exfalso; omega) | skip))) <;> (try clear fct)
        · (have fct := (And.intro @h13 (And.intro @h12 (And.intro @h11 (And.intro @hu0 @h4)))); (first | refine G.r1 ?_ | refine G.r2 ?_ | refine G.r3 ?_ | refine G.r0 ?_ | refine G.d0 ?_); (try simp (disch := first | exact dis | fail) only [push_cast, ↓reduceIte, Nat.reduceAdd, Nat.reduceLeDiff, Nat.reduceEqDiff, Nat.reduceLT, Int.reduceToNat, fct]); (try clear fct))
          (refine ⟨?_, Sep.xt (by assumption)⟩)
          rw [if_neg ((wordM_nil _).1 hc)] at e
          rw [e]
        · (have fct := (And.intro @h13 (And.intro @h12 (And.intro @h11 (And.intro @hu0 @h4)))); (first | refine G.r1 ?_ | refine G.r2 ?_ | refine G.r3 ?_ | refine G.r0 ?_ | refine G.d0 ?_); (try simp (disch := first | exact dis | fail) only [push_cast, ↓reduceIte, Nat.reduceAdd, Nat.reduceLeDiff, Nat.reduceEqDiff, Nat.reduceLT, Int.reduceToNat, fct]); (try clear fct))
          (refine ⟨?_, Sep.xt (by assumption)⟩)
          rw [if_pos (by have := mt (wordM_nil _).2 ‹_›; omega), if_neg (by rw [hc]; simp)] at e
          rw [e]
        · (have fct := (And.intro @h13 (And.intro @h12 (And.intro @h11 (And.intro @hu0 @h4)))); (first | refine G.r1 ?_ | refine G.r2 ?_ | refine G.r3 ?_ | refine G.r0 ?_ | refine G.d0 ?_); (try simp (disch := first | exact dis | fail) only [push_cast, ↓reduceIte, Nat.reduceAdd, Nat.reduceLeDiff, Nat.reduceEqDiff, Nat.reduceLT, Int.reduceToNat, fct]); (try clear fct))
          (refine ⟨?_, Sep.xt (by assumption)⟩)
          rw [if_pos (by have := mt (wordM_nil _).2 ‹_›; omega), if_pos ‹_›, if_pos hc] at e
          rw [e]
        · rw [mbM_put, ← htk] at hS
          rw [if_pos (by have := mt (wordM_nil _).2 ‹_›; omega), if_pos ‹_›, if_neg (by omega), ← htk] at e
          (refine ih _ _ ⟨k + 1, ?_⟩ ?_; rotate_left; (focus ((simp only [push_cast, ↓reduceIte, Nat.reduceAdd, Nat.reduceLeDiff, Nat.reduceEqDiff, Nat.reduceLT, Int.reduceToNat, toN_i, h13, h12, h11, hu0, h4] <;> omega))); ((repeat' apply And.intro) <;> first | exact dj | (simp only [push_cast, ↓reduceIte, Nat.reduceAdd, Nat.reduceLeDiff, Nat.reduceEqDiff, Nat.reduceLT, Int.reduceToNat, h13, h12, h11, hu0, h4] <;> omega) | skip))
      · (have fct := (And.intro @h13 (And.intro @h12 (And.intro @h11 (And.intro @hu0 @h4)))); repeat' (first | ((with_reducible apply G.a); exact rfl) | refine G.reg fun K hK => ?_ | (with_reducible (refine hK _ _ ?_); clear hK K) | (have hk := hK; clear hk; simp (disch := first | exact dis | fail) only [push_cast, ↓reduceIte, Nat.reduceAdd, Nat.reduceLeDiff, Nat.reduceEqDiff, Nat.reduceLT, Int.reduceToNat, fct]) | (refine zalc ?_; intro gb wb hS) | ((with_reducible refine gSt ?_); refine zs2 ?_; intro wb hS) | (refine G.cn ?_ ?_ <;> intro hc <;> first | (with_reducible exact False.elim hc) | (exfalso; omega) | skip))) <;> (try clear fct)
        (have fct := (And.intro @h13 (And.intro @h12 (And.intro @h11 (And.intro @hu0 @h4)))); (first | refine G.r1 ?_ | refine G.r2 ?_ | refine G.r3 ?_ | refine G.r0 ?_ | refine G.d0 ?_); (try simp (disch := first | exact dis | fail) only [push_cast, ↓reduceIte, Nat.reduceAdd, Nat.reduceLeDiff, Nat.reduceEqDiff, Nat.reduceLT, Int.reduceToNat, fct]); (try clear fct))
        (refine ⟨?_, Sep.xt (by assumption)⟩)
        rw [List.drop_eq_nil_of_le (by simp; omega), List.take_of_length_le (by simp; omega)] at e
        rw [e]; simp [checkF]
def c46l1 : MC := (.seq (.reg [qq 9 (.bin .lss (.tmp 8) (.tmp 7))]) (.seq (.cond (.tmp 9) .skip (.exit 0)) (.seq (.blk 1 (.seq (.reg [qq 10 (.adr 3 (.tmp 6) (.tmp 8)), qq 11 (.ld (.some 3) (.tmp 10)), qq 5 (.alc 106 [(S []), (.int .i64 0), (.int .i64 0)]), qn (.st 3 (.tmp 5) (.tmp 11))]) (.reg [qm 12 3, qq 13 (.fad 0 (.tmp 5)), qq 14 (.ld none (.tmp 13)), qq 15 (.bsl 9 [(S [])] 1 [⟨0, ⟨1, (.tmp 14)⟩⟩]), qq 16 (.raw (.call ⟨(.builtin .append), #[(.tmp 12), (.tmp 15)], #[49, 49]⟩) 49), qm 3 16]))) (.reg [qq 17 (.bin .add (.tmp 8) (ki 1)), qm 8 17]))))
def c46 : MC := (.seq (.reg [qq 2 (.mv (.const (.slice none 0 0)))]) (.seq (.reg [qq 3 (.mv (.const (.slice none 0 0)))]) (.seq (.seq (.reg [qm 6 0, qq 7 (.len (.tmp 6)), qq 8 (.mv (ki 0))]) (.blk 0 (.loop c46l1))) (.seq (.reg [qm 18 3, qm 2 18]) .ret))))
end Go.Proofs.YtdikpaochhacmaaGreatDoor
namespace Go.Proofs.YtdikpaochhacmaaGreatDoor
set_option linter.unusedSimpArgs false
set_option linter.unusedVariables false
attribute [local irreducible] SemK UnitK StK AlcK BslK CallK CallV Instr.box Builtin.append_ Instr.makeSlice Instr.makeMap Instr.lookup Instr.mapUpdate Instr.sliceAt convert
open Go.RowKit
theorem new_ok {v : Value} {names : List Str} {w : World} (hr : Rd w eS v names) (hl : names.length ≤ 1000000000) (hl2 : ∀ s ∈ names, s.length ≤ 100000000000) (hn : (newM names).2 = 0) :
    Ret Tryz.prog 57 #[v] w fun res w' => ∃ g sv r, res = .tuple #[.pointer (some ⟨g, 0, none⟩), I names.length, I 0] ∧ Sep w w' [boxC g 188 [sv, .map (some r)], accC sv 9 eS names, mapC r I (mtM names)] :=
  (new_spec hr hl hl2).mono fun res w' h => by
    rcases h with ⟨h, _⟩ | ⟨_, h⟩
    · exact absurd hn h
    · exact h
theorem new_bad {v : Value} {names : List Str} {w : World} (hr : Rd w eS v names) (hl : names.length ≤ 1000000000) (hl2 : ∀ s ∈ names, s.length ≤ 100000000000) (hn : (newM names).2 ≠ 0) :
    Pu Tryz.prog 57 #[v] w (.tuple #[.pointer none, I (newM names).1, I (newM names).2]) :=
  (new_spec hr hl hl2).mono fun res w' h => by
    rcases h with ⟨_, h⟩ | ⟨h, _⟩
    · exact h
    · exact absurd h hn
end Go.Proofs.YtdikpaochhacmaaGreatDoor
namespace Go.Proofs.YtdikpaochhacmaaGreatDoor
set_option linter.unusedSimpArgs false
set_option linter.unusedVariables false
open Go.RowKit
end Go.Proofs.YtdikpaochhacmaaGreatDoor
