/- Texts of the proof, joined. -/
import Derived.Test.YtdikpaochhacmaaGreatDoortBu
import Derived.Test.YtdikpaochhacmaaGreatDoortW15
namespace Go.Proofs.YtdikpaochhacmaaGreatDoor
set_option linter.unusedSimpArgs false
set_option linter.unusedVariables false
attribute [local irreducible] SemK UnitK StK AlcK BslK CallK CallV Instr.box Builtin.append_ Instr.makeSlice Instr.makeMap Instr.lookup Instr.mapUpdate Instr.sliceAt convert
open Go.RowKit
def c44l1 : MC := (.seq (.reg [qq 9 (.bin .lss (.tmp 8) (.tmp 7))]) (.seq (.cond (.tmp 9) .skip (.exit 0)) (.seq (.blk 1 (.seq (.reg [qq 10 (.adr 3 (.tmp 6) (.tmp 8)), qq 11 (.ld (.some 3) (.tmp 10)), qq 5 (.alc 76 [(S []), (.int .i64 0), (.bool false)]), qn (.st 3 (.tmp 5) (.tmp 11))]) (.reg [qm 12 3, qq 13 (.fad 0 (.tmp 5)), qq 14 (.ld none (.tmp 13)), qq 15 (.bsl 9 [(S [])] 1 [⟨0, ⟨1, (.tmp 14)⟩⟩]), qq 16 (.raw (.call ⟨(.builtin .append), #[(.tmp 12), (.tmp 15)], #[49, 49]⟩) 49), qm 3 16]))) (.reg [qq 17 (.bin .add (.tmp 8) (ki 1)), qm 8 17]))))
def c44 : MC := (.seq (.reg [qq 2 (.mv (.const (.slice none 0 0)))]) (.seq (.reg [qq 3 (.mv (.const (.slice none 0 0)))]) (.seq (.seq (.reg [qm 6 0, qq 7 (.len (.tmp 6)), qq 8 (.mv (ki 0))]) (.blk 0 (.loop c44l1))) (.seq (.reg [qm 18 3, qm 2 18]) .ret))))
theorem k44 : conv Tryz.prog 19 (Tryz.f44.body.getD .skip) = c44 := by kernel_rfl
theorem in44 {a0 : Value} {w : World} {R : Value → World → Prop} (h : G Tryz.prog Tryz.f44 19 [.c c44] R (frL 0 [a0]) w) : Ret Tryz.prog 44 #[a0] w R := G.enter (args := [a0]) Tryz.func44 (c := Tryz.f44.body.getD .skip) (by kernel_rfl) (by kernel_rfl) (by simp) k44 h
theorem snames_spec {v : Value} {l : List Col} {w : World} (hr : Rd w eC v l) (hl : l.length ≤ 1000000000) : Ret Tryz.prog 44 #[v] w fun v' w' => Sep w w' [accC v' 9 eS (namesC l)] := by
  refine in44 ?_
  have hS := (Sep.start w).nil 9 eS
  have hbd := hr.bd
  unfold namesC
  repeat' (first | ((with_reducible apply G.a); exact rfl) | refine G.reg fun K hK => ?_ | (with_reducible (refine hK _ _ ?_); clear hK K) | (have hk := hK; clear hk; simp (disch := first | exact dis | fail) only [push_cast, ↓reduceIte, Nat.reduceAdd, Nat.reduceLeDiff, Nat.reduceEqDiff, Nat.reduceLT, Int.reduceToNat, fct]) | ((first | refine zalc ?_ | refine zbsl ?_); intro gb wb hS) | ((with_reducible refine gSt ?_); refine zs2 ?_; intro wb hS) | (refine G.cn ?_ ?_ <;> intro hc <;> first | (with_reducible exact False.elim hc) | (exfalso; omega) | skip))
  refine G.loop (fun r w' => ∃ (k : Nat) (lv : Value), k ≤ l.length ∧ r 8 = I k ∧ r 7 = I l.length ∧ r 6 = v ∧ r 3 = lv ∧ Sep w w' [accC lv 9 eS ((l.map (·.name)).take k)]) (fun r _ => l.length - toN (r 8)) ?_ ?_
  · refine ⟨0, .slice none 0 0, ?_⟩
    ((repeat' apply And.intro) <;> first | exact dj | (simp only [push_cast, ↓reduceIte, Nat.reduceAdd, Nat.reduceLeDiff, Nat.reduceEqDiff, Nat.reduceLT, Int.reduceToNat] <;> omega) | skip)
  · clear hS
    rintro u wl ⟨k, lv, hk, h8, h7, h6, h3, hS⟩ ih
    by_cases hlt : (k : Int) < l.length
    · have htk := mapT (·.name) l k hlt
      have hll := mapL (·.name) l k hk
      (have fct := (And.intro @h8 (And.intro @h7 (And.intro @h6 @h3))); repeat' (first | ((with_reducible apply G.a); exact rfl) | refine G.reg fun K hK => ?_ | (with_reducible (refine hK _ _ ?_); clear hK K) | (have hk := hK; clear hk; simp (disch := first | exact dis | fail) only [push_cast, ↓reduceIte, Nat.reduceAdd, Nat.reduceLeDiff, Nat.reduceEqDiff, Nat.reduceLT, Int.reduceToNat, fct]) | ((first | refine zalc ?_ | refine zbsl ?_); intro gb wb hS) | ((with_reducible refine gSt ?_); refine zs2 ?_; intro wb hS) | (refine zap ?_; intro vb wb hS) | (refine G.cn ?_ ?_ <;> intro hc <;> first | (with_reducible exact False.elim hc) | (exfalso; omega) | skip))) <;> (try clear fct)
      rw [← htk] at hS
      (refine ih _ _ ⟨k + 1, vb, ?_⟩ ?_; rotate_left; (focus ((simp only [push_cast, ↓reduceIte, Nat.reduceAdd, Nat.reduceLeDiff, Nat.reduceEqDiff, Nat.reduceLT, Int.reduceToNat, toN_i, h8, h7, h6, h3] <;> omega))); ((repeat' apply And.intro) <;> first | exact dj | (simp only [push_cast, ↓reduceIte, Nat.reduceAdd, Nat.reduceLeDiff, Nat.reduceEqDiff, Nat.reduceLT, Int.reduceToNat, h8, h7, h6, h3] <;> omega) | skip))
    · (have fct := (And.intro @h8 (And.intro @h7 (And.intro @h6 @h3))); repeat' (first | ((with_reducible apply G.a); exact rfl) | refine G.reg fun K hK => ?_ | (with_reducible (refine hK _ _ ?_); clear hK K) | (have hk := hK; clear hk; simp (disch := first | exact dis | fail) only [push_cast, ↓reduceIte, Nat.reduceAdd, Nat.reduceLeDiff, Nat.reduceEqDiff, Nat.reduceLT, Int.reduceToNat, fct]) | ((first | refine zalc ?_ | refine zbsl ?_); intro gb wb hS) | ((with_reducible refine gSt ?_); refine zs2 ?_; intro wb hS) | (refine G.cn ?_ ?_ <;> intro hc <;> first | (with_reducible exact False.elim hc) | (exfalso; omega) | skip))) <;> (try clear fct)
      (have fct := (And.intro @h8 (And.intro @h7 (And.intro @h6 @h3))); (first | refine G.r1 ?_ | refine G.r2 ?_ | refine G.r3 ?_ | refine G.r0 ?_ | refine G.d0 ?_); (try simp (disch := first | exact dis | fail) only [push_cast, ↓reduceIte, Nat.reduceAdd, Nat.reduceLeDiff, Nat.reduceEqDiff, Nat.reduceLT, Int.reduceToNat, fct]); (try clear fct))
      rw [List.take_of_length_le (by simp; omega)] at hS
      exact hS
end Go.Proofs.YtdikpaochhacmaaGreatDoor
