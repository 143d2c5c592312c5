/- Texts of the proof, joined. -/
import Derived.Test.YtigifbjdmdcboaazP15
import Derived.Test.YtigifbjdmdcboaazR02
import Derived.Test.YtigifbjdmdcboaazW02
namespace Go.Proofs.Ytigifbjdmdcboaa
set_option linter.unusedSimpArgs false
set_option linter.unusedVariables false
attribute [local irreducible] SemK UnitK StK AlcK BslK CallK CallV Instr.box Builtin.append_ Instr.makeSlice Instr.makeMap Instr.lookup Instr.mapUpdate Instr.sliceAt convert
open Go.RowKit
end Go.Proofs.Ytigifbjdmdcboaa
namespace Go.Proofs.Ytigifbjdmdcboaa
set_option linter.unusedSimpArgs false
set_option linter.unusedVariables false
attribute [local irreducible] SemK UnitK StK AlcK BslK CallK CallV Instr.box Builtin.append_ Instr.makeSlice Instr.makeMap Instr.lookup Instr.mapUpdate Instr.sliceAt convert
open Go.RowKit
theorem same_step {α : Type} [Inhabited α] (a b : List α) (k : Nat) (hl : a.length = b.length) (hk : (k : Int) < a.length) (h : a.take k = b.take k) (he : a.getD k default = b.getD k default) : a.take (k + 1) = b.take (k + 1) := by
  rw [takeD a k hk, takeD b k (by omega), h, he]
theorem same_no {α : Type} [Inhabited α] (a b : List α) (k : Nat) (he : ¬ a.getD k default = b.getD k default) : a ≠ b := fun h => he (by rw [h])
def c39l1 : MC := (.seq (.reg [qq 14 (.bin .lss (.tmp 13) (.tmp 12))]) (.seq (.cond (.tmp 14) .skip (.exit 0)) (.seq (.blk 1 (.seq (.reg [qm 15 13, qm 5 15]) (.seq (.drg [qm 16 0, qm 17 5, qq 18 (.adr 1 (.tmp 16) (.tmp 17)), qq 19 (.ld none (.tmp 18)), qm 20 1, qm 21 5, qq 22 (.adr 1 (.tmp 20) (.tmp 21)), qq 23 (.ld none (.tmp 22)), qq 24 (.bin .neq (.tmp 19) (.tmp 23))] none) (.cond (.tmp 24) (.seq (.reg [qq 4 (.mv (kb false))]) .ret) .skip)))) (.reg [qq 25 (.bin .add (.tmp 13) (ki 1)), qm 13 25]))))
def c39 : MC := (.seq (.reg [qq 4 (.mv (kb false))]) (.seq (.seq (.reg [qm 6 0, qq 7 (.len (.tmp 6)), qm 8 1, qq 9 (.len (.tmp 8)), qq 10 (.bin .neq (.tmp 7) (.tmp 9))]) (.cond (.tmp 10) (.seq (.reg [qq 4 (.mv (kb false))]) .ret) .skip)) (.seq (.seq (.reg [qm 11 0, qq 12 (.len (.tmp 11)), qq 13 (.mv (ki 0))]) (.blk 0 (.loop c39l1))) (.seq (.reg [qq 4 (.mv (kb true))]) .ret))))
theorem k39 : conv Try.prog 26 (Try.f39.body.getD .skip) = c39 := by kernel_rfl
theorem in39 {a0 a1 : Value} {w : World} {R : Value → World → Prop} (h : G Try.prog Try.f39 26 [.c c39] R (frL 0 [a0, a1]) w) : Ret Try.prog 39 #[a0, a1] w R := G.enter (args := [a0, a1]) Try.func39 (c := Try.f39.body.getD .skip) (by kernel_rfl) (by kernel_rfl) (by simp) k39 h
theorem same05_spec {va vb : Value} {a b : List Str} {w : World} (ha : Rd w eS va a) (hb : Rd w eS vb b) : Pu Try.prog 39 #[va, vb] w (.bool (decide (a = b))) := by
  refine in39 ?_
  have hS := Sep.start w
  have hbd := ha.bd
  repeat' (first | ((with_reducible apply G.a); exact rfl) | refine G.reg fun K hK => ?_ | (with_reducible (refine hK _ _ ?_); clear hK K) | (with_reducible (refine hK _ ?_); clear hK K; intro wd hxd; have hS := Sep.xx hxd) | (have hk := hK; clear hk; simp (disch := first | exact dis | fail) only [push_cast, ↓reduceIte, Nat.reduceAdd, Nat.reduceLeDiff, Nat.reduceEqDiff, Nat.reduceLT, Int.reduceToNat, fct]) | refine G.drg mixed fun K hK => ?_ | (refine G.cn ?_ ?_ <;> intro hc <;> first | (with_reducible exact False.elim hc) | (exfalso; omega) | skip))
  · (first | refine G.r1 ?_ | refine G.r2 ?_ | refine G.r3 ?_ | refine G.r0 ?_); (try simp (disch := first | exact dis | fail) only [push_cast, ↓reduceIte, Nat.reduceAdd, Nat.reduceLeDiff, Nat.reduceEqDiff, Nat.reduceLT, Int.reduceToNat, fct])
    (refine ⟨?_, Sep.xt (by assumption)⟩)
    rw [decide_eq_false (fun h => hc (by rw [h]))]
  · refine G.loop (fun r w' => ∃ k : Nat, k ≤ a.length ∧ r 13 = I k ∧ r 12 = I a.length ∧ r 0 = va ∧ r 1 = vb ∧ a.take k = b.take k ∧ Sep w w' []) (fun r _ => a.length - toN (r 13)) ?_ ?_
    · refine ⟨0, ?_⟩
      ((repeat' apply And.intro) <;> first | exact dj | (simp only [push_cast, ↓reduceIte, Nat.reduceAdd, Nat.reduceLeDiff, Nat.reduceEqDiff, Nat.reduceLT, Int.reduceToNat] <;> omega) | skip)
    · rintro u wl ⟨k, hk, h13, h12, h0, h1, e, hS⟩ ih
      (have fct := (And.intro @h13 (And.intro @h12 (And.intro @h0 @h1))); repeat' (first | ((with_reducible apply G.a); exact rfl) | refine G.reg fun K hK => ?_ | (with_reducible (refine hK _ _ ?_); clear hK K) | (with_reducible (refine hK _ ?_); clear hK K; intro wd hxd; have hS := Sep.xx hxd) | (have hk := hK; clear hk; simp (disch := first | exact dis | fail) only [push_cast, ↓reduceIte, Nat.reduceAdd, Nat.reduceLeDiff, Nat.reduceEqDiff, Nat.reduceLT, Int.reduceToNat, fct]) | refine G.drg mixed fun K hK => ?_ | (refine G.cn ?_ ?_ <;> intro hc <;> first | (with_reducible exact False.elim hc) | (exfalso; omega) | skip))) <;> (try clear fct)
      · (have fct := (And.intro @h13 (And.intro @h12 (And.intro @h0 @h1))); (first | refine G.r1 ?_ | refine G.r2 ?_ | refine G.r3 ?_ | refine G.r0 ?_); (try simp (disch := first | exact dis | fail) only [push_cast, ↓reduceIte, Nat.reduceAdd, Nat.reduceLeDiff, Nat.reduceEqDiff, Nat.reduceLT, Int.reduceToNat, fct]); (try clear fct))
        (refine ⟨?_, Sep.xt (by assumption)⟩)
        rw [decide_eq_false (same_no a b k hc)]
      · (refine ih _ _ ⟨k + 1, ?_⟩ ?_; rotate_left; (focus ((simp only [push_cast, ↓reduceIte, Nat.reduceAdd, Nat.reduceLeDiff, Nat.reduceEqDiff, Nat.reduceLT, Int.reduceToNat, toN_i, h13, h12, h0, h1] <;> omega))); ((repeat' apply And.intro) <;> first | exact dj | (simp only [push_cast, ↓reduceIte, Nat.reduceAdd, Nat.reduceLeDiff, Nat.reduceEqDiff, Nat.reduceLT, Int.reduceToNat, h13, h12, h0, h1] <;> omega) | skip))
        exact same_step a b k (by omega) (by assumption) e hc
      · (have fct := (And.intro @h13 (And.intro @h12 (And.intro @h0 @h1))); (first | refine G.r1 ?_ | refine G.r2 ?_ | refine G.r3 ?_ | refine G.r0 ?_); (try simp (disch := first | exact dis | fail) only [push_cast, ↓reduceIte, Nat.reduceAdd, Nat.reduceLeDiff, Nat.reduceEqDiff, Nat.reduceLT, Int.reduceToNat, fct]); (try clear fct))
        (refine ⟨?_, Sep.xt (by assumption)⟩)
        rw [List.take_of_length_le (by omega), List.take_of_length_le (by omega)] at e
        rw [decide_eq_true e]
def c27l1 : MC := (.seq (.reg [qq 34 (.bin .lss (.tmp 33) (.tmp 32))]) (.seq (.cond (.tmp 34) .skip (.exit 2)) (.seq (.blk 3 (.seq (.reg [qq 35 (.adr 1 (.tmp 31) (.tmp 33)), qq 36 (.ld none (.tmp 35)), qm 12 36]) (.seq (.seq (.reg [qm 37 12, qq 38 (.lenS (.tmp 37)), qm 39 3, qq 40 (.bin .gtr (.tmp 38) (.tmp 39))]) (.cond (.tmp 40) (.seq (.reg [qq 8 (.mv (kb true))]) .ret) .skip)) (.reg [qm 41 3, qm 42 12, qq 43 (.lenS (.tmp 42)), qq 44 (.bin .sub (.tmp 41) (.tmp 43)), qm 3 44])))) (.reg [qq 45 (.bin .add (.tmp 33) (ki 1)), qm 33 45]))))
def c27l2 : MC := (.seq (.reg [qq 20 (.bin .lss (.tmp 19) (.tmp 18))]) (.seq (.cond (.tmp 20) .skip (.exit 0)) (.seq (.blk 1 (.seq (.reg [qq 21 (.adr 1 (.tmp 17) (.tmp 19)), qq 22 (.ld none (.tmp 21)), qm 10 22]) (.seq (.seq (.reg [qm 23 10, qq 24 (.len (.tmp 23)), qm 25 2, qq 26 (.bin .gtr (.tmp 24) (.tmp 25))]) (.cond (.tmp 26) (.seq (.reg [qq 8 (.mv (kb true))]) .ret) .skip)) (.seq (.reg [qm 27 2, qm 28 10, qq 29 (.len (.tmp 28)), qq 30 (.bin .sub (.tmp 27) (.tmp 29)), qm 2 30]) (.seq (.reg [qm 31 10, qq 32 (.len (.tmp 31)), qq 33 (.mv (ki 0))]) (.blk 2 (.loop c27l1))))))) (.reg [qq 46 (.bin .add (.tmp 19) (ki 1)), qm 19 46]))))
def c27 : MC := (.seq (.reg [qq 8 (.mv (kb false))]) (.seq (.seq (.reg [qm 13 0, qq 14 (.len (.tmp 13)), qm 15 1, qq 16 (.bin .gtr (.tmp 14) (.tmp 15))]) (.cond (.tmp 16) (.seq (.reg [qq 8 (.mv (kb true))]) .ret) .skip)) (.seq (.seq (.reg [qm 17 0, qq 18 (.len (.tmp 17)), qq 19 (.mv (ki 0))]) (.blk 0 (.loop c27l2))) (.seq (.reg [qq 8 (.mv (kb false))]) .ret))))
theorem k27 : conv Try.prog 47 (Try.f27.body.getD .skip) = c27 := by kernel_rfl
theorem in27 {a0 a1 a2 a3 : Value} {w : World} {R : Value → World → Prop} (h : G Try.prog Try.f27 47 [.c c27] R (frL 0 [a0, a1, a2, a3]) w) : Ret Try.prog 27 #[a0, a1, a2, a3] w R := G.enter (args := [a0, a1, a2, a3]) Try.func27 (c := Try.f27.body.getD .skip) (by kernel_rfl) (by kernel_rfl) (by simp) k27 h
theorem great_spec {v : Value} {t : List (List Str)} {n f b : Int} {w : World} (hr : RdN w eS v t) (hf : 0 ≤ f ∧ f ≤ 1000000000000) (hb : 0 ≤ b ∧ b ≤ 1000000000000) :
    Pu Try.prog 27 #[v, I n, I f, I b] w (.bool (greatM t n f b)) := by
  obtain ⟨vs, hv, hl, hrow⟩ := hr
  refine in27 ?_
  have hS := Sep.start w
  have hbd := hv.bd
  repeat' (first | ((with_reducible apply G.a); exact rfl) | refine G.reg fun K hK => ?_ | (with_reducible (refine hK _ _ ?_); clear hK K) | (have hk := hK; clear hk; simp (disch := first | exact dis | fail) only [push_cast, ↓reduceIte, Nat.reduceAdd, Nat.reduceLeDiff, Nat.reduceEqDiff, Nat.reduceLT, Int.reduceToNat, fct]) | (refine G.cn ?_ ?_ <;> intro hc <;> first | (with_reducible exact False.elim hc) | (exfalso; omega) | skip))
  · (first | refine G.r1 ?_ | refine G.r2 ?_ | refine G.r3 ?_ | refine G.r0 ?_); (try simp (disch := first | exact dis | fail) only [push_cast, ↓reduceIte, Nat.reduceAdd, Nat.reduceLeDiff, Nat.reduceEqDiff, Nat.reduceLT, Int.reduceToNat, fct])
    (refine ⟨?_, Sep.xt (by assumption)⟩)
    simp only [greatM]; rw [if_pos (by omega)]
  · have h0 : greatM t n f b = gTab t f b := by simp only [greatM]; rw [if_neg (by omega)]
    refine G.loop (fun r w' => ∃ (k : Nat) (f' b' : Int), k ≤ t.length ∧ r 19 = I k ∧ r 18 = I vs.length ∧ r 17 = v ∧ r 2 = I f' ∧ r 3 = I b' ∧ 0 ≤ f' ∧ f' ≤ 1000000000000 ∧ 0 ≤ b' ∧ b' ≤ 1000000000000 ∧ greatM t n f b = gTab (t.drop k) f' b' ∧ Sep w w' []) (fun r _ => t.length - toN (r 19)) ?_ ?_
    · refine ⟨0, f, b, ?_⟩
      ((repeat' apply And.intro) <;> first | exact dj | (simp only [push_cast, ↓reduceIte, Nat.reduceAdd, Nat.reduceLeDiff, Nat.reduceEqDiff, Nat.reduceLT, Int.reduceToNat] <;> omega) | skip)
    · rintro u wl ⟨k, f', b', hk, h19, h18, h17, h2, h3, hf1, hf2, hb1, hb2, e, hS⟩ ih
      by_cases hlt : (k : Int) < t.length
      · have hRow := (hrow k hlt).ext hS.x
        have hrb := hRow.bd
        rw [dropD _ _ hlt, gTab] at e
        (have fct := (And.intro @h19 (And.intro @h18 (And.intro @h17 (And.intro @h2 @h3)))); repeat' (first | ((with_reducible apply G.a); exact rfl) | refine G.reg fun K hK => ?_ | (with_reducible (refine hK _ _ ?_); clear hK K) | (have hk := hK; clear hk; simp (disch := first | exact dis | fail) only [push_cast, ↓reduceIte, Nat.reduceAdd, Nat.reduceLeDiff, Nat.reduceEqDiff, Nat.reduceLT, Int.reduceToNat, fct]) | (refine G.cn ?_ ?_ <;> intro hc <;> first | (with_reducible exact False.elim hc) | (exfalso; omega) | skip))) <;> (try clear fct)
        · (have fct := (And.intro @h19 (And.intro @h18 (And.intro @h17 (And.intro @h2 @h3)))); (first | refine G.r1 ?_ | refine G.r2 ?_ | refine G.r3 ?_ | refine G.r0 ?_); (try simp (disch := first | exact dis | fail) only [push_cast, ↓reduceIte, Nat.reduceAdd, Nat.reduceLeDiff, Nat.reduceEqDiff, Nat.reduceLT, Int.reduceToNat, fct]); (try clear fct))
          (refine ⟨?_, Sep.xt (by assumption)⟩)
          rw [e, if_pos (by omega)]
        · rw [if_neg (by omega)] at e
          refine G.loop (fun r w' => ∃ (j : Nat) (b2 : Int), j ≤ (t.getD k default).length ∧ r 33 = I j ∧ r 32 = I (t.getD k default).length ∧ r 31 = vs.getD k default ∧ r 19 = I k ∧ r 18 = I vs.length ∧ r 17 = v ∧ r 2 = I (f' - (t.getD k default).length) ∧ r 3 = I b2 ∧ 0 ≤ b2 ∧ b2 ≤ 1000000000000 ∧ gRow (t.getD k default) b' = gRow ((t.getD k default).drop j) b2 ∧ Sep w w' []) (fun r _ => (t.getD k default).length - toN (r 33)) ?_ ?_
          · refine ⟨0, b', ?_⟩
            ((repeat' apply And.intro) <;> first | exact dj | (simp only [push_cast, ↓reduceIte, Nat.reduceAdd, Nat.reduceLeDiff, Nat.reduceEqDiff, Nat.reduceLT, Int.reduceToNat, h19, h18, h17, h2, h3] <;> omega) | skip)
          · clear hS
            rintro u2 wl2 ⟨j, b2, hj, g33, g32, g31, g19, g18, g17, g2, g3, hb3, hb4, e2, hS⟩ ih2
            have hRow := (hrow k hlt).ext hS.x
            by_cases hjt : (j : Int) < (t.getD k default).length
            · rw [dropD _ _ hjt, gRow] at e2
              (have fct := (And.intro @g33 (And.intro @g32 (And.intro @g31 (And.intro @g19 (And.intro @g18 (And.intro @g17 (And.intro @g2 @g3))))))); repeat' (first | ((with_reducible apply G.a); exact rfl) | refine G.reg fun K hK => ?_ | (with_reducible (refine hK _ _ ?_); clear hK K) | (have hk := hK; clear hk; simp (disch := first | exact dis | fail) only [push_cast, ↓reduceIte, Nat.reduceAdd, Nat.reduceLeDiff, Nat.reduceEqDiff, Nat.reduceLT, Int.reduceToNat, fct]) | (refine G.cn ?_ ?_ <;> intro hc <;> first | (with_reducible exact False.elim hc) | (exfalso; omega) | skip))) <;> (try clear fct)
              · (have fct := (And.intro @g33 (And.intro @g32 (And.intro @g31 (And.intro @g19 (And.intro @g18 (And.intro @g17 (And.intro @g2 @g3))))))); (first | refine G.r1 ?_ | refine G.r2 ?_ | refine G.r3 ?_ | refine G.r0 ?_); (try simp (disch := first | exact dis | fail) only [push_cast, ↓reduceIte, Nat.reduceAdd, Nat.reduceLeDiff, Nat.reduceEqDiff, Nat.reduceLT, Int.reduceToNat, fct]); (try clear fct))
                (refine ⟨?_, Sep.xt (by assumption)⟩)
                rw [e, e2, if_pos (by omega)]
              · rw [if_neg (by omega)] at e2
                refine ih2 _ _ ⟨j + 1, b2 - ((t.getD k default).getD j default).length, ?_⟩ ?_
                · ((repeat' apply And.intro) <;> first | exact dj | (simp only [push_cast, ↓reduceIte, Nat.reduceAdd, Nat.reduceLeDiff, Nat.reduceEqDiff, Nat.reduceLT, Int.reduceToNat, g33, g32, g31, g19, g18, g17, g2, g3] <;> omega) | skip)
                · (simp only [push_cast, ↓reduceIte, Nat.reduceAdd, Nat.reduceLeDiff, Nat.reduceEqDiff, Nat.reduceLT, Int.reduceToNat, toN_i, g33, g32, g31, g19, g18, g17, g2, g3] <;> omega)
            · rw [List.drop_eq_nil_of_le (by omega), gRow] at e2
              rw [e2] at e
              (have fct := (And.intro @g33 (And.intro @g32 (And.intro @g31 (And.intro @g19 (And.intro @g18 (And.intro @g17 (And.intro @g2 @g3))))))); repeat' (first | ((with_reducible apply G.a); exact rfl) | refine G.reg fun K hK => ?_ | (with_reducible (refine hK _ _ ?_); clear hK K) | (have hk := hK; clear hk; simp (disch := first | exact dis | fail) only [push_cast, ↓reduceIte, Nat.reduceAdd, Nat.reduceLeDiff, Nat.reduceEqDiff, Nat.reduceLT, Int.reduceToNat, fct]) | (refine G.cn ?_ ?_ <;> intro hc <;> first | (with_reducible exact False.elim hc) | (exfalso; omega) | skip))) <;> (try clear fct)
              refine ih _ _ ⟨k + 1, f' - (t.getD k default).length, b2, ?_⟩ ?_
              · ((repeat' apply And.intro) <;> first | exact dj | (simp only [push_cast, ↓reduceIte, Nat.reduceAdd, Nat.reduceLeDiff, Nat.reduceEqDiff, Nat.reduceLT, Int.reduceToNat, g33, g32, g31, g19, g18, g17, g2, g3] <;> omega) | skip)
              · (simp only [push_cast, ↓reduceIte, Nat.reduceAdd, Nat.reduceLeDiff, Nat.reduceEqDiff, Nat.reduceLT, Int.reduceToNat, toN_i, h19, g33, g32, g31, g19, g18, g17, g2, g3] <;> omega)
      · rw [List.drop_eq_nil_of_le (by omega), gTab] at e
        (have fct := (And.intro @h19 (And.intro @h18 (And.intro @h17 (And.intro @h2 @h3)))); repeat' (first | ((with_reducible apply G.a); exact rfl) | refine G.reg fun K hK => ?_ | (with_reducible (refine hK _ _ ?_); clear hK K) | (have hk := hK; clear hk; simp (disch := first | exact dis | fail) only [push_cast, ↓reduceIte, Nat.reduceAdd, Nat.reduceLeDiff, Nat.reduceEqDiff, Nat.reduceLT, Int.reduceToNat, fct]) | (refine G.cn ?_ ?_ <;> intro hc <;> first | (with_reducible exact False.elim hc) | (exfalso; omega) | skip))) <;> (try clear fct)
        (have fct := (And.intro @h19 (And.intro @h18 (And.intro @h17 (And.intro @h2 @h3)))); (first | refine G.r1 ?_ | refine G.r2 ?_ | refine G.r3 ?_ | refine G.r0 ?_); (try simp (disch := first | exact dis | fail) only [push_cast, ↓reduceIte, Nat.reduceAdd, Nat.reduceLeDiff, Nat.reduceEqDiff, Nat.reduceLT, Int.reduceToNat, fct]); (try clear fct))
        (refine ⟨?_, Sep.xt (by assumption)⟩)
        rw [e]
end Go.Proofs.Ytigifbjdmdcboaa
namespace Go.Proofs.Ytigifbjdmdcboaa
set_option linter.unusedSimpArgs false
set_option linter.unusedVariables false
open Go.RowKit
theorem gRow_some {r : List Str} {b b' : Int} (hb : 0 ≤ b) (h : gRow r b = some b') : (totL r : Int) ≤ b ∧ b' = b - totL r := by
  rw [gRow_eq r b hb] at h
  split at h
  · simp at h; exact ⟨by assumption, h.symm⟩
  · simp at h
theorem gTab_no : ∀ (t : List (List Str)) (f b : Int), 0 ≤ b → gTab t f b = false → ∀ r ∈ t, (r.length : Int) ≤ f ∧ ∀ x ∈ r, (x.length : Int) ≤ b
  | [], _, _, _, _, r, hr => by simp at hr
  | q :: t, f, b, hb, h, r, hr => by
    rw [gTab] at h
    split at h
    · simp at h
    · rename_i h1
      cases hg : gRow q b with
      | none => rw [hg] at h; simp at h
      | some b' =>
        rw [hg] at h
        obtain ⟨h2, h3⟩ := gRow_some hb hg
        rcases List.mem_cons.1 hr with e | hr
        · rw [e]
          exact ⟨by omega, fun x hx => by have := totL_mem hx; omega⟩
        · obtain ⟨h4, h5⟩ := gTab_no t (f - q.length) b' (by omega) h r hr
          exact ⟨by omega, fun x hx => by have := h5 x hx; omega⟩
theorem great_no {t : List (List Str)} {n f b : Int} (hb : 0 ≤ b) (h : greatM t n f b = false) : (t.length : Int) ≤ n ∧ ∀ r ∈ t, (r.length : Int) ≤ f ∧ ∀ x ∈ r, (x.length : Int) ≤ b := by
  unfold greatM at h
  split at h
  · simp at h
  · exact ⟨by omega, gTab_no t f b hb h⟩
end Go.Proofs.Ytigifbjdmdcboaa
