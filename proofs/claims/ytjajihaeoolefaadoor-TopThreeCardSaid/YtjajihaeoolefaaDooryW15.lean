/- Texts of the proof, joined. -/
import Derived.Test.YtjajihaeoolefaaDooryP15
import Derived.Test.YtjajihaeoolefaaDooryR02
import Derived.Test.YtjajihaeoolefaaDooryW02
namespace Go.Proofs.YtjajihaeoolefaaDoor
set_option linter.unusedSimpArgs false
set_option linter.unusedVariables false
attribute [local irreducible] SemK UnitK StK AlcK BslK CallK CallV Instr.box Builtin.append_ Instr.makeSlice Instr.makeMap Instr.lookup Instr.mapUpdate Instr.sliceAt convert
open Go.RowKit
end Go.Proofs.YtjajihaeoolefaaDoor
namespace Go.Proofs.YtjajihaeoolefaaDoor
set_option linter.unusedSimpArgs false
set_option linter.unusedVariables false
attribute [local irreducible] SemK UnitK StK AlcK BslK CallK CallV Instr.box Builtin.append_ Instr.makeSlice Instr.makeMap Instr.lookup Instr.mapUpdate Instr.sliceAt convert
open Go.RowKit
end Go.Proofs.YtjajihaeoolefaaDoor
namespace Go.Proofs.YtjajihaeoolefaaDoor
set_option linter.unusedSimpArgs false
set_option linter.unusedVariables false
attribute [local irreducible] SemK UnitK StK AlcK BslK CallK CallV Instr.box Builtin.append_ Instr.makeSlice Instr.makeMap Instr.lookup Instr.mapUpdate Instr.sliceAt convert
open Go.RowKit
def c58 : MC := (.seq (.reg [qq 2 (.mv (.const (S [])))]) (.seq (.seq (.reg [qm 3 0]) (.blk 0 (.seq (.reg [qq 5 (.bin .eql (.tmp 3) (ki 1)), qm 4 5]) (.cond (.tmp 4) (.seq (.reg [qq 2 (.mv (.const (S [116, 101, 120, 116])))]) .ret) (.seq (.reg [qq 7 (.bin .eql (.tmp 3) (ki 2)), qm 6 7]) (.cond (.tmp 6) (.seq (.reg [qq 2 (.mv (.const (S [105, 110, 116])))]) .ret) (.seq (.reg [qq 9 (.bin .eql (.tmp 3) (ki 3)), qm 8 9]) (.cond (.tmp 8) (.seq (.reg [qq 2 (.mv (.const (S [98, 111, 111, 108])))]) .ret) .skip)))))))) (.seq (.reg [qq 2 (.mv (.const (S [])))]) .ret)))
theorem k58 : conv Tryd.prog 10 (Tryd.f58.body.getD .skip) = c58 := by kernel_rfl
theorem in58 {a0 : Value} {w : World} {R : Value → World → Prop} (h : G Tryd.prog Tryd.f58 10 [.c c58] R (frL 0 [a0]) w) : Ret Tryd.prog 58 #[a0] w R := G.enter (args := [a0]) Tryd.func58 (c := Tryd.f58.body.getD .skip) (by kernel_rfl) (by kernel_rfl) (by simp) k58 h
theorem sword_spec (k : Int) (w : World) : Pu Tryd.prog 58 #[I k] w (S (wordM k)) := by
  refine in58 ?_
  have hS := Sep.start w
  unfold wordM
  repeat' (first | ((with_reducible apply G.a); exact rfl) | refine G.reg fun K hK => ?_ | (with_reducible (refine hK _ _ ?_); clear hK K) | (have hk := hK; clear hk; simp (disch := first | exact dis | fail) only [push_cast, ↓reduceIte, Nat.reduceAdd, Nat.reduceLeDiff, Nat.reduceEqDiff, Nat.reduceLT, Int.reduceToNat, fct]) | (refine G.cn ?_ ?_ <;> intro hc <;> first | (with_reducible exact False.elim hc) | (exfalso; omega) | skip))
  all_goals
    (first | refine G.r1 ?_ | refine G.r2 ?_ | refine G.r3 ?_ | refine G.r0 ?_ | refine G.d0 ?_); (try simp (disch := first | exact dis | fail) only [push_cast, ↓reduceIte, Nat.reduceAdd, Nat.reduceLeDiff, Nat.reduceEqDiff, Nat.reduceLT, Int.reduceToNat, fct])
    (refine ⟨?_, Sep.xt (by assumption)⟩)
    first | rw [if_pos (by omega)] | rw [if_neg (by omega), if_pos (by omega)] | rw [if_neg (by omega), if_neg (by omega), if_pos (by omega)] | rw [if_neg (by omega), if_neg (by omega), if_neg (by omega)]
def c44l1 : MC := (.seq (.reg [qq 14 (.bin .lss (.tmp 13) (.tmp 12))]) (.seq (.cond (.tmp 14) .skip (.exit 0)) (.seq (.blk 1 (.seq (.reg [qm 15 13, qq 16 (.adr 3 (.tmp 11) (.tmp 13)), qq 17 (.ld (.some 3) (.tmp 16)), qq 6 (.alc 88 [(S []), (.int .i64 0), (.bool false)]), qm 5 15, qn (.st 3 (.tmp 6) (.tmp 17))]) (.seq (.blk 2 (.seq (.reg [qq 19 (.fad 1 (.tmp 6)), qq 20 (.ld none (.tmp 19)), qq 21 (.call 58 [(.tmp 20)]), qq 22 (.bin .eql (.tmp 21) (.const (S []))), qm 18 22]) (.cond (.tmp 18) (.seq (.reg [qm 23 5, qm 2 23, qq 3 (.mv (ki 21))]) .ret) (.seq (.reg [qq 25 (.fad 0 (.tmp 6)), qq 26 (.ld none (.tmp 25)), qq 27 (.call 59 [(.tmp 26)]), qq 28 (.un .not (.tmp 27)), qm 24 28]) (.cond (.tmp 24) (.seq (.reg [qm 29 5, qm 2 29, qq 3 (.mv (ki 14))]) .ret) (.seq (.reg [qm 31 4, qq 32 (.fad 0 (.tmp 6)), qq 33 (.ld none (.tmp 32)), qq 34 (.raw (.lookup 98 (.tmp 31) (.tmp 33) false) 4), qm 30 34]) (.cond (.tmp 30) (.seq (.reg [qm 35 5, qm 2 35, qq 3 (.mv (ki 15))]) .ret) .skip))))))) (.reg [qm 36 4, qq 37 (.fad 0 (.tmp 6)), qq 38 (.ld none (.tmp 37)), qn (.raw (.mapUpdate 98 (.tmp 36) (.tmp 38) (kb true)) 0)])))) (.reg [qq 39 (.bin .add (.tmp 13) (ki 1)), qm 13 39]))))
def c44 : MC := (.seq (.reg [qq 2 (.mv (ki 0)), qq 3 (.mv (ki 0))]) (.seq (.seq (.reg [qm 7 0, qq 8 (.len (.tmp 7)), qq 9 (.bin .eql (.tmp 8) (ki 0))]) (.cond (.tmp 9) (.seq (.reg [qq 2 (.mv (ki 0)), qq 3 (.mv (ki 13))]) .ret) .skip)) (.seq (.reg [qq 10 (.raw (.makeMap 98 none) 98), qm 4 10]) (.seq (.seq (.reg [qm 11 0, qq 12 (.len (.tmp 11)), qq 13 (.mv (ki 0))]) (.blk 0 (.loop c44l1))) (.seq (.reg [qm 40 0, qq 41 (.len (.tmp 40)), qm 2 41, qq 3 (.mv (ki 0))]) .ret)))))
theorem k44 : conv Tryd.prog 42 (Tryd.f44.body.getD .skip) = c44 := by kernel_rfl
theorem in44 {a0 : Value} {w : World} {R : Value → World → Prop} (h : G Tryd.prog Tryd.f44 42 [.c c44] R (frL 0 [a0]) w) : Ret Tryd.prog 44 #[a0] w R := G.enter (args := [a0]) Tryd.func44 (c := Tryd.f44.body.getD .skip) (by kernel_rfl) (by kernel_rfl) (by simp) k44 h
theorem check_spec {v : Value} {l : List Col} {w : World} (hr : Rd w eC v l) (hl2 : ∀ c ∈ l, c.name.length ≤ 100000000000) : Pu Tryd.prog 44 #[v] w (.tuple #[I (checkM (l.map nkC)).1, I (checkM (l.map nkC)).2]) := by
  refine in44 ?_
  have hS := Sep.start w
  have hbd := hr.bd
  repeat' (first | ((with_reducible apply G.a); exact rfl) | refine G.reg fun K hK => ?_ | (with_reducible (refine hK _ _ ?_); clear hK K) | (have hk := hK; clear hk; simp (disch := first | exact dis | fail) only [push_cast, ↓reduceIte, Nat.reduceAdd, Nat.reduceLeDiff, Nat.reduceEqDiff, Nat.reduceLT, Int.reduceToNat, fct]) | (refine zalc ?_; intro gb wb hS) | ((with_reducible refine gSt ?_); refine zs2 ?_; intro wb hS) | (refine zmm Value.bool ?_; intro gb wb hS) | (refine G.cn ?_ ?_ <;> intro hc <;> first | (with_reducible exact False.elim hc) | (exfalso; omega) | skip))
  · (first | refine G.r1 ?_ | refine G.r2 ?_ | refine G.r3 ?_ | refine G.r0 ?_ | refine G.d0 ?_); (try simp (disch := first | exact dis | fail) only [push_cast, ↓reduceIte, Nat.reduceAdd, Nat.reduceLeDiff, Nat.reduceEqDiff, Nat.reduceLT, Int.reduceToNat, fct])
    have h0 : checkM (l.map nkC) = (0, 13) := by simp only [checkM, List.length_map]; rw [if_pos (by omega)]
    rw [h0]
    exact ⟨rfl, Sep.xt (by assumption)⟩
  · have h0 : checkM (l.map nkC) = checkF [] (l.map nkC) := by simp only [checkM, List.length_map]; rw [if_neg (by omega)]
    refine G.loop (fun r w' => ∃ k : Nat, k ≤ l.length ∧ r 13 = I k ∧ r 12 = I l.length ∧ r 11 = v ∧ r 0 = v ∧ r 4 = .map (some gb) ∧ checkM (l.map nkC) = checkF ((l.map (·.name)).take k) ((l.map nkC).drop k) ∧ Sep w w' [mapC gb Value.bool (mbM ((l.map (·.name)).take k))]) (fun r _ => l.length - toN (r 13)) ?_ ?_
    · refine ⟨0, ?_⟩
      rw [← mbM_nil] at hS
      ((repeat' apply And.intro) <;> first | exact dj | (simp only [push_cast, ↓reduceIte, Nat.reduceAdd, Nat.reduceLeDiff, Nat.reduceEqDiff, Nat.reduceLT, Int.reduceToNat] <;> omega) | skip)
    · rintro u wl ⟨k, hk, h13, h12, h11, hu0, h4, e, hS⟩ ih
      by_cases hlt : (k : Int) < l.length
      · have hlen := hl2 _ (getD_mem l k hlt)
        have hnk : (l.map nkC).drop k = ((l.getD k default).name, (l.getD k default).kind) :: (l.map nkC).drop (k + 1) := mapD nkC l k hlt
        have htk := mapT (·.name) l k hlt
        have hll := mapL (·.name) l k hk
        rw [hnk, checkF_cons, hll] at e
        (have fct := (And.intro @h13 (And.intro @h12 (And.intro @h11 (And.intro @hu0 (And.intro @h4 @mbM_get))))); repeat' (first | ((with_reducible apply G.a); exact rfl) | refine G.reg fun K hK => ?_ | (with_reducible (refine hK _ _ ?_); clear hK K) | (have hk := hK; clear hk; simp (disch := first | exact dis | fail) only [push_cast, ↓reduceIte, Nat.reduceAdd, Nat.reduceLeDiff, Nat.reduceEqDiff, Nat.reduceLT, Int.reduceToNat, fct]) | (refine zalc ?_; intro gb wb hS) | ((with_reducible refine gSt ?_); refine zs2 ?_; intro wb hS) | (refine zcp 58 (sword_spec _ _) ?_; intro wb hS) | (refine zcp 59 (valid_spec _ _ (by omega)) ?_; intro wb hS) | (refine zlk ?_) | (refine zmu ?_; intro wb hS) | (refine G.cn ?_ ?_ <;> intro hc <;> first | (with_reducible exact False.elim hc) | (exfalso; omega) | skip))) <;> (try clear fct)
        · (have fct := (And.intro @h13 (And.intro @h12 (And.intro @h11 (And.intro @hu0 @h4)))); (first | refine G.r1 ?_ | refine G.r2 ?_ | refine G.r3 ?_ | refine G.r0 ?_ | refine G.d0 ?_); (try simp (disch := first | exact dis | fail) only [push_cast, ↓reduceIte, Nat.reduceAdd, Nat.reduceLeDiff, Nat.reduceEqDiff, Nat.reduceLT, Int.reduceToNat, fct]); (try clear fct))
          (refine ⟨?_, Sep.xt (by assumption)⟩)
          rw [if_neg ((wordM_nil _).1 hc)] at e
          rw [e]
        · (have fct := (And.intro @h13 (And.intro @h12 (And.intro @h11 (And.intro @hu0 @h4)))); (first | refine G.r1 ?_ | refine G.r2 ?_ | refine G.r3 ?_ | refine G.r0 ?_ | refine G.d0 ?_); (try simp (disch := first | exact dis | fail) only [push_cast, ↓reduceIte, Nat.reduceAdd, Nat.reduceLeDiff, Nat.reduceEqDiff, Nat.reduceLT, Int.reduceToNat, fct]); (try clear fct))
          (refine ⟨?_, Sep.xt (by assumption)⟩)
          rw [if_pos (by have := mt (wordM_nil _).2 ‹_›; omega), if_neg (by rw [hc]; simp)] at e
          rw [e]
        · (have fct := (And.intro @h13 (And.intro @h12 (And.intro @h11 (And.intro @hu0 @h4)))); (first | refine G.r1 ?_ | refine G.r2 ?_ | refine G.r3 ?_ | refine G.r0 ?_ | refine G.d0 ?_); (try simp (disch := first | exact dis | fail) only [push_cast, ↓reduceIte, Nat.reduceAdd, Nat.reduceLeDiff, Nat.reduceEqDiff, Nat.reduceLT, Int.reduceToNat, fct]); (try clear fct))
          (refine ⟨?_, Sep.xt (by assumption)⟩)
          rw [if_pos (by have := mt (wordM_nil _).2 ‹_›; omega), if_pos ‹_›, if_pos hc] at e
          rw [e]
        · rw [mbM_put, ← htk] at hS
          rw [if_pos (by have := mt (wordM_nil _).2 ‹_›; omega), if_pos ‹_›, if_neg (by omega), ← htk] at e
          (refine ih _ _ ⟨k + 1, ?_⟩ ?_; rotate_left; (focus ((simp only [push_cast, ↓reduceIte, Nat.reduceAdd, Nat.reduceLeDiff, Nat.reduceEqDiff, Nat.reduceLT, Int.reduceToNat, toN_i, h13, h12, h11, hu0, h4] <;> omega))); ((repeat' apply And.intro) <;> first | exact dj | (simp only [push_cast, ↓reduceIte, Nat.reduceAdd, Nat.reduceLeDiff, Nat.reduceEqDiff, Nat.reduceLT, Int.reduceToNat, h13, h12, h11, hu0, h4] <;> omega) | skip))
      · (have fct := (And.intro @h13 (And.intro @h12 (And.intro @h11 (And.intro @hu0 @h4)))); repeat' (first | ((with_reducible apply G.a); exact rfl) | refine G.reg fun K hK => ?_ | (with_reducible (refine hK _ _ ?_); clear hK K) | (have hk := hK; clear hk; simp (disch := first | exact dis | fail) only [push_cast, ↓reduceIte, Nat.reduceAdd, Nat.reduceLeDiff, Nat.reduceEqDiff, Nat.reduceLT, Int.reduceToNat, fct]) | (refine zalc ?_; intro gb wb hS) | ((with_reducible refine gSt ?_); refine zs2 ?_; intro wb hS) | (refine G.cn ?_ ?_ <;> intro hc <;> first | (with_reducible exact False.elim hc) | (exfalso; omega) | skip))) <;> (try clear fct)
        (have fct := (And.intro @h13 (And.intro @h12 (And.intro @h11 (And.intro @hu0 @h4)))); (first | refine G.r1 ?_ | refine G.r2 ?_ | refine G.r3 ?_ | refine G.r0 ?_ | refine G.d0 ?_); (try simp (disch := first | exact dis | fail) only [push_cast, ↓reduceIte, Nat.reduceAdd, Nat.reduceLeDiff, Nat.reduceEqDiff, Nat.reduceLT, Int.reduceToNat, fct]); (try clear fct))
        (refine ⟨?_, Sep.xt (by assumption)⟩)
        rw [List.drop_eq_nil_of_le (by simp; omega), List.take_of_length_le (by simp; omega)] at e
        rw [e]; simp [checkF]
def c32l1 : MC := (.seq (.reg [qq 10 (.bin .lss (.tmp 9) (.tmp 8))]) (.seq (.cond (.tmp 10) .skip (.exit 0)) (.seq (.blk 1 (.seq (.reg [qq 11 (.adr 3 (.tmp 7) (.tmp 9)), qq 12 (.ld (.some 3) (.tmp 11)), qq 5 (.alc 88 [(S []), (.int .i64 0), (.bool false)]), qn (.st 3 (.tmp 5) (.tmp 12))]) (.seq (.reg [qq 13 (.fad 0 (.tmp 5)), qq 14 (.ld none (.tmp 13)), qq 15 (.fad 1 (.tmp 5)), qq 16 (.ld none (.tmp 15)), qq 17 (.bld [(S []), (.int .i64 0), (.int .i64 0)] [⟨0, ⟨1, (.tmp 14)⟩⟩, ⟨1, ⟨1, (.tmp 16)⟩⟩]), qq 6 (.alc 121 [(S []), (.int .i64 0), (.int .i64 0)]), qn (.st 3 (.tmp 6) (.tmp 17))]) (.seq (.seq (.reg [qq 18 (.fad 2 (.tmp 5)), qq 19 (.ld none (.tmp 18))]) (.cond (.tmp 19) (.reg [qq 20 (.fad 2 (.tmp 6)), qn (.st 1 (.tmp 20) (ki 1))]) .skip)) (.reg [qm 21 3, qq 22 (.ld (.some 3) (.tmp 6)), qq 23 (.bsl 121 [(S []), (.int .i64 0), (.int .i64 0)] 1 [⟨0, ⟨3, (.tmp 22)⟩⟩]), qq 24 (.raw (.call ⟨(.builtin .append), #[(.tmp 21), (.tmp 23)], #[41, 41]⟩) 41), qm 3 24]))))) (.reg [qq 25 (.bin .add (.tmp 9) (ki 1)), qm 9 25]))))
def c32 : MC := (.seq (.reg [qq 2 (.mv (.const (.slice none 0 0)))]) (.seq (.reg [qq 3 (.mv (.const (.slice none 0 0)))]) (.seq (.seq (.reg [qm 7 0, qq 8 (.len (.tmp 7)), qq 9 (.mv (ki 0))]) (.blk 0 (.loop c32l1))) (.seq (.reg [qm 26 3, qm 2 26]) .ret))))
theorem k32 : conv Tryd.prog 27 (Tryd.f32.body.getD .skip) = c32 := by kernel_rfl
theorem in32 {a0 : Value} {w : World} {R : Value → World → Prop} (h : G Tryd.prog Tryd.f32 27 [.c c32] R (frL 0 [a0]) w) : Ret Tryd.prog 32 #[a0] w R := G.enter (args := [a0]) Tryd.func32 (c := Tryd.f32.body.getD .skip) (by kernel_rfl) (by kernel_rfl) (by simp) k32 h
theorem ref_spec {v : Value} {l : List Col} {w : World} (hr : Rd w eC v l) (hl : l.length ≤ 1000000000) : Ret Tryd.prog 32 #[v] w fun v' w' => Sep w w' [accC v' 121 eR (l.map toR)] := by
  refine in32 ?_
  have hS := (Sep.start w).nil 121 eR
  have hbd := hr.bd
  repeat' (first | ((with_reducible apply G.a); exact rfl) | refine G.reg fun K hK => ?_ | (with_reducible (refine hK _ _ ?_); clear hK K) | (have hk := hK; clear hk; simp (disch := first | exact dis | fail) only [push_cast, ↓reduceIte, Nat.reduceAdd, Nat.reduceLeDiff, Nat.reduceEqDiff, Nat.reduceLT, Int.reduceToNat, fct]) | ((first | refine zalc ?_ | refine zbsl ?_); intro gb wb hS) | ((with_reducible refine gSt ?_); refine zs2 ?_; intro wb hS) | (refine G.cn ?_ ?_ <;> intro hc <;> first | (with_reducible exact False.elim hc) | (exfalso; omega) | skip))
  refine G.loop (fun r w' => ∃ (k : Nat) (lv : Value), k ≤ l.length ∧ r 9 = I k ∧ r 8 = I l.length ∧ r 7 = v ∧ r 3 = lv ∧ Sep w w' [accC lv 121 eR ((l.map toR).take k)]) (fun r _ => l.length - toN (r 9)) ?_ ?_
  · refine ⟨0, .slice none 0 0, ?_⟩
    ((repeat' apply And.intro) <;> first | exact dj | (simp only [push_cast, ↓reduceIte, Nat.reduceAdd, Nat.reduceLeDiff, Nat.reduceEqDiff, Nat.reduceLT, Int.reduceToNat] <;> omega) | skip)
  · clear hS
    rintro u wl ⟨k, lv, hk, h9, h8, h7, h3, hS⟩ ih
    by_cases hlt : (k : Int) < l.length
    · have htk := mapT toR l k hlt
      have hll := mapL toR l k hk
      (have fct := (And.intro @h9 (And.intro @h8 (And.intro @h7 @h3))); repeat' (first | ((with_reducible apply G.a); exact rfl) | refine G.reg fun K hK => ?_ | (with_reducible (refine hK _ _ ?_); clear hK K) | (have hk := hK; clear hk; simp (disch := first | exact dis | fail) only [push_cast, ↓reduceIte, Nat.reduceAdd, Nat.reduceLeDiff, Nat.reduceEqDiff, Nat.reduceLT, Int.reduceToNat, fct]) | ((first | refine zalc ?_ | refine zbsl ?_); intro gb wb hS) | ((with_reducible refine gSt ?_); refine zs2 ?_; intro wb hS) | (refine G.cn ?_ ?_ <;> intro hc <;> first | (with_reducible exact False.elim hc) | (exfalso; omega) | skip))) <;> (try clear fct)
      all_goals
        ((refine zap (y := toR (l.getD k default)) ?_ (hy := by simp only [eR_f, toR, hc, ↓reduceIte, Bool.false_eq_true]); intro vb wb hS))
        rw [← htk] at hS
        (have fct := (And.intro @h9 (And.intro @h8 (And.intro @h7 @h3))); repeat' (first | ((with_reducible apply G.a); exact rfl) | refine G.reg fun K hK => ?_ | (with_reducible (refine hK _ _ ?_); clear hK K) | (have hk := hK; clear hk; simp (disch := first | exact dis | fail) only [push_cast, ↓reduceIte, Nat.reduceAdd, Nat.reduceLeDiff, Nat.reduceEqDiff, Nat.reduceLT, Int.reduceToNat, fct]) | ((first | refine zalc ?_ | refine zbsl ?_); intro gb wb hS) | ((with_reducible refine gSt ?_); refine zs2 ?_; intro wb hS) | (refine G.cn ?_ ?_ <;> intro hc <;> first | (with_reducible exact False.elim hc) | (exfalso; omega) | skip))) <;> (try clear fct)
        (refine ih _ _ ⟨k + 1, vb, ?_⟩ ?_; rotate_left; (focus ((simp only [push_cast, ↓reduceIte, Nat.reduceAdd, Nat.reduceLeDiff, Nat.reduceEqDiff, Nat.reduceLT, Int.reduceToNat, toN_i, h9, h8, h7, h3] <;> omega))); ((repeat' apply And.intro) <;> first | exact dj | (simp only [push_cast, ↓reduceIte, Nat.reduceAdd, Nat.reduceLeDiff, Nat.reduceEqDiff, Nat.reduceLT, Int.reduceToNat, h9, h8, h7, h3] <;> omega) | skip))
    · (have fct := (And.intro @h9 (And.intro @h8 (And.intro @h7 @h3))); repeat' (first | ((with_reducible apply G.a); exact rfl) | refine G.reg fun K hK => ?_ | (with_reducible (refine hK _ _ ?_); clear hK K) | (have hk := hK; clear hk; simp (disch := first | exact dis | fail) only [push_cast, ↓reduceIte, Nat.reduceAdd, Nat.reduceLeDiff, Nat.reduceEqDiff, Nat.reduceLT, Int.reduceToNat, fct]) | ((first | refine zalc ?_ | refine zbsl ?_); intro gb wb hS) | ((with_reducible refine gSt ?_); refine zs2 ?_; intro wb hS) | (refine G.cn ?_ ?_ <;> intro hc <;> first | (with_reducible exact False.elim hc) | (exfalso; omega) | skip))) <;> (try clear fct)
      (have fct := (And.intro @h9 (And.intro @h8 (And.intro @h7 @h3))); (first | refine G.r1 ?_ | refine G.r2 ?_ | refine G.r3 ?_ | refine G.r0 ?_ | refine G.d0 ?_); (try simp (disch := first | exact dis | fail) only [push_cast, ↓reduceIte, Nat.reduceAdd, Nat.reduceLeDiff, Nat.reduceEqDiff, Nat.reduceLT, Int.reduceToNat, fct]); (try clear fct))
      rw [List.take_of_length_le (by simp; omega)] at hS
      exact hS
end Go.Proofs.YtjajihaeoolefaaDoor
namespace Go.Proofs.YtjajihaeoolefaaDoor
set_option linter.unusedSimpArgs false
set_option linter.unusedVariables false
attribute [local irreducible] SemK UnitK StK AlcK BslK CallK CallV Instr.box Builtin.append_ Instr.makeSlice Instr.makeMap Instr.lookup Instr.mapUpdate Instr.sliceAt convert
open Go.RowKit
end Go.Proofs.YtjajihaeoolefaaDoor
namespace Go.Proofs.YtjajihaeoolefaaDoor
set_option linter.unusedSimpArgs false
set_option linter.unusedVariables false
attribute [local irreducible] SemK UnitK StK AlcK BslK CallK CallV Instr.box Builtin.append_ Instr.makeSlice Instr.makeMap Instr.lookup Instr.mapUpdate Instr.sliceAt convert
open Go.RowKit
end Go.Proofs.YtjajihaeoolefaaDoor
namespace Go.Proofs.YtjajihaeoolefaaDoor
set_option linter.unusedSimpArgs false
set_option linter.unusedVariables false
open Go.RowKit
end Go.Proofs.YtjajihaeoolefaaDoor
