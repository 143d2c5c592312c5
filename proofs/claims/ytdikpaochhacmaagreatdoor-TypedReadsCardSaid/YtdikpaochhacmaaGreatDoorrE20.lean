/- Texts of the proof, joined. -/
import Derived.Test.YtdikpaochhacmaaGreatDoorrY20
import Derived.Test.YtdikpaochhacmaaGreatDoorrB20
namespace Go.Proofs.YtdikpaochhacmaaGreatDoor
set_option linter.unusedSimpArgs false
set_option linter.unusedVariables false
attribute [local irreducible] SemK UnitK StK AlcK BslK CallK CallV Instr.box Builtin.append_ Instr.makeSlice Instr.makeMap Instr.lookup Instr.mapUpdate Instr.sliceAt convert
open Go.RowKit
theorem bcF_rng (names : List Str) (mode : Int) : ∀ (r : List Str) (out : List Int), (∀ p ∈ out, 0 ≤ p ∧ p < names.length) → ∀ p ∈ (bcF names mode r out).1, 0 ≤ p ∧ p < names.length
  | [], out, h => by rw [bcF]; exact h
  | c :: r, out, h => by
    rw [bcF_cons]
    split
    · simp
    · rename_i hc
      refine bcF_rng names mode r _ fun p hp => ?_
      rcases List.mem_append.1 hp with hp | hp
      · exact h p hp
      · rw [List.mem_singleton] at hp
        subst hp
        exact ⟨by omega, (atM_lt names c).2⟩
theorem bindCM_rng (names : List Str) (cs : List (Str × Int)) (mode : Int) : ∀ p ∈ (bindCM names cs mode).1, 0 ≤ p ∧ p < names.length := by
  have h0 : ∀ p ∈ ([] : List Int), 0 ≤ p ∧ p < names.length := by simp
  have hb := bcF_rng names mode (cs.map (·.1)) [] h0
  unfold bindCM
  by_cases h1 : mode < 1 ∨ 3 < mode
  · rw [if_pos h1]; exact h0
  rw [if_neg h1]
  by_cases h2 : (checkM cs).2 ≠ 0
  · rw [if_pos h2]; exact h0
  rw [if_neg h2]
  by_cases h3 : (newM names).2 ≠ 0
  · rw [if_pos h3]; exact h0
  rw [if_neg h3]
  by_cases h4 : (bcF names mode (cs.map (·.1)) []).2.2 ≠ 0
  · rw [if_pos h4]; exact h0
  rw [if_neg h4]
  split
  · split
    · exact h0
    · exact hb
  · exact hb
theorem pickF_ok (r : List Str) : ∀ (p : List Int) (out : List Str), (∀ x ∈ p, 0 ≤ x ∧ x < r.length) → (pickF r p out).2 = 0
  | [], out, _ => rfl
  | x :: p, out, h => by
    rw [pickF, if_neg (by have := h x (by simp); omega)]
    exact pickF_ok r p _ fun y hy => h y (List.mem_cons_of_mem _ hy)
theorem pickM_ok (r : List Str) (p : List Int) (h : ∀ x ∈ p, 0 ≤ x ∧ x < r.length) : (pickM r p).2 = 0 := by
  unfold pickM
  rw [if_neg]
  · exact pickF_ok r p [] h
  · rw [Bool.not_eq_true, List.any_eq_false]
    intro x hx
    have := h x hx
    simp; omega
def RrR (w : World) (p : List (List Val) × Bd) (res : Value) (w' : World) : Prop := ∃ v vs, res = .tuple #[v, .agg #[I p.2.k, I p.2.r, I p.2.c, I p.2.a]] ∧ Sep w w' [accC v 54 eV vs, frzC eRv vs p.1]
theorem RrR.none {w w' : World} {L : List Chk} {b : Bd} (hS : Sep w w' L) : RrR w ([], b) (.tuple #[.slice none 0 0, .agg #[I b.k, I b.r, I b.c, I b.a]]) w' :=
  ⟨_, [], rfl, (((Sep.sub hS Sub.n).frz0 eRv).nil 54 eV)⟩
def c10l1 : MC := (.seq (.seq (.reg [qm 85 20, qm 86 13, qq 87 (.len (.tmp 86)), qq 88 (.bin .lss (.tmp 85) (.tmp 87))]) (.cond (.tmp 88) .skip (.exit 0))) (.seq (.blk 1 (.seq (.seq (.drg [qm 91 13, qm 92 20, qq 93 (.adr 1 (.tmp 91) (.tmp 92)), qq 94 (.ld none (.tmp 93)), qq 95 (.len (.tmp 94)), qm 96 13, qq 97 (.adr 1 (.tmp 96) (ki 0)), qq 98 (.ld none (.tmp 97)), qq 99 (.len (.tmp 98)), qq 100 (.bin .neq (.tmp 95) (.tmp 99))] none) (.cond (.tmp 100) (.seq (.drg [qm 101 20, qm 102 13, qm 103 20, qq 104 (.adr 1 (.tmp 102) (.tmp 103)), qq 105 (.ld none (.tmp 104)), qq 106 (.len (.tmp 105)), qq 107 (.bld [(.int .i64 0), (.int .i64 0), (.int .i64 0), (.int .i64 0)] [⟨0, ⟨1, (ki 10)⟩⟩, ⟨1, ⟨1, (.tmp 101)⟩⟩, ⟨2, ⟨1, (.tmp 106)⟩⟩]), qq 8 (.mv (.const (.slice none 0 0))), qn (.st 4 (.tmp 9) (.tmp 107))] (.some (.leaf [qm 101 20, qm 102 13, qm 103 20, qq 104 (.adr 1 (.tmp 102) (.tmp 103)), qq 8 (.mv (.const (.slice none 0 0))), qq 105 (.ld none (.tmp 104)), qq 106 (.len (.tmp 105)), qq 107 (.bld [(.int .i64 0), (.int .i64 0), (.int .i64 0), (.int .i64 0)] [⟨0, ⟨1, (ki 10)⟩⟩, ⟨1, ⟨1, (.tmp 101)⟩⟩, ⟨2, ⟨1, (.tmp 106)⟩⟩]), qn (.st 4 (.tmp 9) (.tmp 107))]))) .ret) .skip)) (.seq (.reg [qm 109 13, qm 110 20, qq 111 (.adr 1 (.tmp 109) (.tmp 110)), qq 112 (.ld none (.tmp 111)), qm 113 16, qq 114 (.call 37 [(.tmp 112), (.tmp 113)]), qm 108 114, qq 115 (.ext 0 (.tmp 108)), qq 116 (.ext 1 (.tmp 108)), qm 21 115, qm 22 116]) (.seq (.reg [qm 118 21, qm 119 1, qq 120 (.call 18 [(.tmp 118), (.tmp 119)]), qm 117 120, qq 121 (.ext 0 (.tmp 117)), qq 122 (.ext 1 (.tmp 117)), qq 123 (.ext 2 (.tmp 117)), qm 23 121, qm 24 122, qm 25 123]) (.seq (.seq (.reg [qm 124 25, qq 125 (.bin .neq (.tmp 124) (ki 0))]) (.cond (.tmp 125) (.seq (.reg [qm 126 25, qm 127 20, qm 128 24, qq 129 (.bld [(.int .i64 0), (.int .i64 0), (.int .i64 0), (.int .i64 0)] [⟨0, ⟨1, (.tmp 126)⟩⟩, ⟨1, ⟨1, (.tmp 127)⟩⟩, ⟨2, ⟨1, (.tmp 128)⟩⟩]), qq 8 (.mv (.const (.slice none 0 0))), qn (.st 4 (.tmp 9) (.tmp 129))]) .ret) .skip)) (.reg [qm 130 19, qm 131 23, qq 132 (.bsl 54 [(.slice none 0 0)] 1 [⟨0, ⟨1, (.tmp 131)⟩⟩]), qq 133 (.raw (.call ⟨(.builtin .append), #[(.tmp 130), (.tmp 132)], #[35, 35]⟩) 35), qm 19 133])))))) (.reg [qm 89 20, qq 90 (.bin .add (.tmp 89) (ki 1)), qm 20 90])))
def c10 : MC := (.seq (.reg [qq 4 (.raw (.box 41 (.tmp 0)) 0), qq 8 (.mv (.const (.slice none 0 0))), qq 9 (.alc 37 [(.int .i64 0), (.int .i64 0), (.int .i64 0), (.int .i64 0)])]) (.seq (.seq (.reg [qm 27 1, qq 28 (.call 34 [(.tmp 27)]), qm 26 28, qq 29 (.ext 0 (.tmp 26)), qq 30 (.ext 1 (.tmp 26)), qm 10 29, qm 11 30]) (.seq (.reg [qm 31 11, qq 32 (.bin .neq (.tmp 31) (ki 0))]) (.cond (.tmp 32) (.seq (.reg [qm 33 11, qm 34 10, qq 35 (.bld [(.int .i64 0), (.int .i64 0), (.int .i64 0), (.int .i64 0)] [⟨0, ⟨1, (.tmp 33)⟩⟩, ⟨2, ⟨1, (.tmp 34)⟩⟩]), qq 8 (.mv (.const (.slice none 0 0))), qn (.st 4 (.tmp 9) (.tmp 35))]) .ret) .skip))) (.seq (.seq (.reg [qm 36 2, qq 37 (.bin .lss (.tmp 36) (ki 1)), qm 38 37, qmf 38 39 2, qf 38 40 (.bin .gtr (.tmp 39) (ki 3)), qq 41 (.pick (.tmp 38) (kb true) (.tmp 40))]) (.cond (.tmp 41) (.seq (.reg [qq 42 (.bld [(.int .i64 0), (.int .i64 0), (.int .i64 0), (.int .i64 0)] [⟨0, ⟨1, (ki 22)⟩⟩]), qq 8 (.mv (.const (.slice none 0 0))), qn (.st 4 (.tmp 9) (.tmp 42))]) .ret) .skip)) (.seq (.seq (.reg [qq 43 (.ld (.some 3) (.tmp 4)), qq 44 (.call 24 [(.tmp 43)]), qq 45 (.un .not (.tmp 44))]) (.cond (.tmp 45) (.seq (.reg [qq 46 (.bld [(.int .i64 0), (.int .i64 0), (.int .i64 0), (.int .i64 0)] [⟨0, ⟨1, (ki 1)⟩⟩]), qq 8 (.mv (.const (.slice none 0 0))), qn (.st 4 (.tmp 9) (.tmp 46))]) .ret) .skip)) (.seq (.reg [qq 47 (.bld [(.int .i64 0), (.int .i64 0), (.int .i64 0), (.int .i64 0)] [⟨0, ⟨1, (ki 2147483648)⟩⟩, ⟨1, ⟨1, (ki 2147483648)⟩⟩, ⟨2, ⟨1, (ki 2147483648)⟩⟩]), qq 12 (.alc 98 [(.int .i64 0), (.int .i64 0), (.int .i64 0), (.int .i64 0)]), qn (.st 4 (.tmp 12) (.tmp 47))]) (.seq (.reg [qq 49 (.ld (.some 3) (.tmp 4)), qq 50 (.ld (.some 4) (.tmp 12)), qm 51 3, qq 52 (.call 35 [(.tmp 49), (.tmp 50), (.tmp 51)]), qm 48 52, qq 53 (.ext 0 (.tmp 48)), qq 54 (.ext 1 (.tmp 48)), qq 55 (.ext 2 (.tmp 48)), qm 13 53, qm 14 54, qm 15 55]) (.seq (.seq (.reg [qm 56 13, qq 57 (.len (.tmp 56)), qq 58 (.bin .eql (.tmp 57) (ki 0)), qm 59 58, qmt 59 60 14, qt 59 61 (.bin .eql (.tmp 60) (ki 0)), qq 62 (.pick (.tmp 59) (.tmp 61) (kb false))]) (.cond (.tmp 62) (.seq (.reg [qq 63 (.bld [(.int .i64 0), (.int .i64 0), (.int .i64 0), (.int .i64 0)] [⟨0, ⟨1, (ki 25)⟩⟩]), qq 8 (.mv (.const (.slice none 0 0))), qn (.st 4 (.tmp 9) (.tmp 63))]) .ret) .skip)) (.seq (.seq (.reg [qm 64 13, qq 65 (.len (.tmp 64)), qq 66 (.bin .eql (.tmp 65) (ki 0))]) (.cond (.tmp 66) (.seq (.reg [qm 67 14, qm 68 15, qq 69 (.bld [(.int .i64 0), (.int .i64 0), (.int .i64 0), (.int .i64 0)] [⟨0, ⟨1, (.tmp 67)⟩⟩, ⟨3, ⟨1, (.tmp 68)⟩⟩]), qq 8 (.mv (.const (.slice none 0 0))), qn (.st 4 (.tmp 9) (.tmp 69))]) .ret) .skip)) (.seq (.reg [qm 71 13, qq 72 (.adr 1 (.tmp 71) (ki 0)), qq 73 (.ld none (.tmp 72)), qm 74 1, qm 75 2, qq 76 (.call 36 [(.tmp 73), (.tmp 74), (.tmp 75)]), qm 70 76, qq 77 (.ext 0 (.tmp 70)), qq 78 (.ext 1 (.tmp 70)), qq 79 (.ext 2 (.tmp 70)), qm 16 77, qm 17 78, qm 18 79]) (.seq (.seq (.reg [qm 80 18, qq 81 (.bin .neq (.tmp 80) (ki 0))]) (.cond (.tmp 81) (.seq (.reg [qm 82 18, qm 83 17, qq 84 (.bld [(.int .i64 0), (.int .i64 0), (.int .i64 0), (.int .i64 0)] [⟨0, ⟨1, (.tmp 82)⟩⟩, ⟨2, ⟨1, (.tmp 83)⟩⟩]), qq 8 (.mv (.const (.slice none 0 0))), qn (.st 4 (.tmp 9) (.tmp 84))]) .ret) .skip)) (.seq (.reg [qq 19 (.mv (.const (.slice none 0 0)))]) (.seq (.seq (.reg [qq 20 (.mv (ki 1))]) (.blk 0 (.loop c10l1))) (.seq (.seq (.reg [qm 134 14, qq 135 (.bin .neq (.tmp 134) (ki 0))]) (.cond (.tmp 135) (.seq (.reg [qm 136 14, qm 137 15, qq 138 (.bld [(.int .i64 0), (.int .i64 0), (.int .i64 0), (.int .i64 0)] [⟨0, ⟨1, (.tmp 136)⟩⟩, ⟨3, ⟨1, (.tmp 137)⟩⟩]), qq 8 (.mv (.const (.slice none 0 0))), qn (.st 4 (.tmp 9) (.tmp 138))]) .ret) .skip)) (.seq (.reg [qm 139 19, qq 140 (.bld [(.int .i64 0), (.int .i64 0), (.int .i64 0), (.int .i64 0)] []), qm 8 139, qn (.st 4 (.tmp 9) (.tmp 140))]) .ret))))))))))))))
theorem k10 : conv Tryz.prog 141 (Tryz.f10.body.getD .skip) = c10 := by kernel_rfl
theorem in10 {a0 a1 a2 a3 : Value} {w : World} {R : Value → World → Prop} (h : G Tryz.prog Tryz.f10 141 [.c c10] R (frL 0 [a0, a1, a2, a3]) w) : Ret Tryz.prog 10 #[a0, a1, a2, a3] w R := G.enter (args := [a0, a1, a2, a3]) Tryz.func10 (c := Tryz.f10.body.getD .skip) (by kernel_rfl) (by kernel_rfl) (by simp) k10 h
def rreadV (T : MC) : MC := match c10 with
  | .seq a (.seq b (.seq c (.seq d (.seq e (.seq f _))))) => .seq a (.seq b (.seq c (.seq d (.seq e (.seq f T)))))
  | _ => .skip
def rreadT : MC := match c10 with
  | .seq _ (.seq _ (.seq _ (.seq _ (.seq _ (.seq _ T))))) => T
  | _ => .skip
set_option maxHeartbeats 2000000 in
theorem rread_tail {v1 : Value} {l : List Col} {mode : Int} {w : World} {n : Nat} (h1 : Rd w eR v1 (l.map toR)) (hm : 1 ≤ mode ∧ mode ≤ 3) (hl1 : l.length ≤ 1000000000) (hl2 : ∀ c ∈ l, c.name.length ≤ 100000000000)
    {fk fa : Int} {recs : List (List Str)} {g9 : Nat} {v : Value} {vs : List Value} {ρ : Fr} {w' : World} (hmb : ∀ r ∈ recs, r.length ≤ 1000000000 ∧ ∀ f ∈ r, f.length ≤ 1000000) (hrl : recs.length ≤ 1000000000) (hS : Sep w w' [accC v 49 eV vs, frzC eS vs recs, boxC g9 37 [I 0, I 0, I 0, I 0]]) (q1 : ρ 1 = v1) (q2 : ρ 2 = I mode) (q9 : ρ 9 = .pointer (some ⟨g9, 0, none⟩)) (q13 : ρ 13 = v) (q14 : ρ 14 = I fk) (q15 : ρ 15 = I fa) :
    G Tryz.prog Tryz.f10 n [.c rreadT] (RrR w (rdT l mode fk fa recs)) ρ w' := by
  unfold rreadT c10
  dsimp only
  have hvl := hS.frzLen (.t .h)
  have hrv := Sep.rd (v := v) hS (.h)
  have hbd := hrv.bd
  cases recs with
  | nil =>
    obtain rfl : vs = [] := List.eq_nil_of_length_eq_zero hvl
    rw [rdT]
    by_cases hk : fk = 0
    · rw [if_neg (not_not_intro hk)]
      (have fct := (And.intro @q1 (And.intro @q2 (And.intro @q9 (And.intro @q13 (And.intro @q14 (And.intro @q15 @hk)))))); repeat' (first | ((with_reducible apply G.a); exact rfl) | refine G.reg fun K hK => ?_ | (with_reducible (refine hK _ _ ?_); clear hK K) | (with_reducible (refine hK _ ?_); clear hK K; intro wd hxd; have hS := Sep.xx hxd) | (have hk := hK; clear hk; simp (disch := first | exact dis | fail) only [push_cast, ↓reduceIte, Nat.reduceAdd, Nat.reduceLeDiff, Nat.reduceEqDiff, Nat.reduceLT, Int.reduceToNat, fct]) | ((first | refine brO_n ?_ ?_ | refine brQ_n ?_ ?_) <;> intro hb hc <;> first | (with_reducible exact False.elim hc) | (exfalso; omega) | (simp only [hb]; clear hb)) | ((first | refine zalc ?_ | refine zbsl ?_ | ((with_reducible refine gBox ?_); refine zbox ?_)); intro gb wb hS) | ((with_reducible refine gSt ?_); refine zs2 ?_; intro wb hS) | (refine G.drt mixed fun K hK wd hxd => ?_; have hS := Sep.xx hxd) | with_reducible refine OT_leaf ?_ | refine G.drg mixed fun K hK => ?_ | (refine G.cn ?_ ?_ <;> intro hc <;> first | (with_reducible exact False.elim hc) | (exfalso; omega) | skip))) <;> (try clear fct)
      all_goals
        (have fct := @q9; (first | refine G.r1 ?_ | refine G.r2 ?_ | refine G.r3 ?_ | refine G.r0 ?_ | refine G.d0 ?_); (try simp (disch := first | exact dis | fail) only [push_cast, ↓reduceIte, Nat.reduceAdd, Nat.reduceLeDiff, Nat.reduceEqDiff, Nat.reduceLT, Int.reduceToNat, fct]); (try clear fct))
        exact RrR.none (b := ⟨25, 0, 0, 0⟩) hS
    · rw [if_pos hk]
      (have fct := (And.intro @q1 (And.intro @q2 (And.intro @q9 (And.intro @q13 (And.intro @q14 (And.intro @q15 @hk)))))); repeat' (first | ((with_reducible apply G.a); exact rfl) | refine G.reg fun K hK => ?_ | (with_reducible (refine hK _ _ ?_); clear hK K) | (with_reducible (refine hK _ ?_); clear hK K; intro wd hxd; have hS := Sep.xx hxd) | (have hk := hK; clear hk; simp (disch := first | exact dis | fail) only [push_cast, ↓reduceIte, Nat.reduceAdd, Nat.reduceLeDiff, Nat.reduceEqDiff, Nat.reduceLT, Int.reduceToNat, fct]) | ((first | refine brO_n ?_ ?_ | refine brQ_n ?_ ?_) <;> intro hb hc <;> first | (with_reducible exact False.elim hc) | (exfalso; omega) | (simp only [hb]; clear hb)) | ((first | refine zalc ?_ | refine zbsl ?_ | ((with_reducible refine gBox ?_); refine zbox ?_)); intro gb wb hS) | ((with_reducible refine gSt ?_); refine zs2 ?_; intro wb hS) | (refine G.drt mixed fun K hK wd hxd => ?_; have hS := Sep.xx hxd) | with_reducible refine OT_leaf ?_ | refine G.drg mixed fun K hK => ?_ | (refine G.cn ?_ ?_ <;> intro hc <;> first | (with_reducible exact False.elim hc) | (exfalso; omega) | skip))) <;> (try clear fct)
      all_goals
        (have fct := @q9; (first | refine G.r1 ?_ | refine G.r2 ?_ | refine G.r3 ?_ | refine G.r0 ?_ | refine G.d0 ?_); (try simp (disch := first | exact dis | fail) only [push_cast, ↓reduceIte, Nat.reduceAdd, Nat.reduceLeDiff, Nat.reduceEqDiff, Nat.reduceLT, Int.reduceToNat, fct]); (try clear fct))
        exact RrR.none (b := ⟨fk, 0, 0, fa⟩) hS
  | cons r0 t =>
    have hvl' : (vs.length : Int) = t.length + 1 := by simp only [List.length_cons] at hvl; omega
    have hne : ¬ (vs.length : Int) = 0 := by omega
    have h00 : (0 : Int) < vs.length := by omega
    obtain ⟨b1, b2⟩ := hmb r0 (by simp)
    rw [rdT]
    have hbx := fun (wz : World) (hz : Ext w wz) (h : Rd wz eS (vs.getD 0 default) r0) => rbindC_spec (mode := mode) h (h1.ext hz) (by omega) b1 (by rw [List.length_map]; exact hl1) (fun s hs => by have := b2 s hs; omega) (fun c hc => by
      obtain ⟨c0, h0, rfl⟩ := List.mem_map.1 hc
      exact hl2 c0 h0)
    simp only [nk_toR] at hbx
    have hrng := bindCM_rng r0 (l.map nkC) mode
    have hpl : (bindCM r0 (l.map nkC) mode).1.length ≤ 1000000000 := bindCM_len _ _ _ _ (by rw [List.length_map]; exact hl1)
    generalize bindCM r0 (l.map nkC) mode = B at *
    by_cases hbe : B.2.2 = 0
    rotate_left
    · rw [if_pos hbe]
      (have fct := (And.intro @q1 (And.intro @q2 (And.intro @q9 (And.intro @q13 (And.intro @q14 (And.intro @q15 (And.intro @hbe @hne))))))); repeat' (first | ((with_reducible apply G.a); exact rfl) | refine G.reg fun K hK => ?_ | (with_reducible (refine hK _ _ ?_); clear hK K) | (with_reducible (refine hK _ ?_); clear hK K; intro wd hxd; have hS := Sep.xx hxd) | (have hk := hK; clear hk; simp (disch := first | exact dis | fail) only [push_cast, ↓reduceIte, Nat.reduceAdd, Nat.reduceLeDiff, Nat.reduceEqDiff, Nat.reduceLT, Int.reduceToNat, fct]) | ((first | refine brO_n ?_ ?_ | refine brQ_n ?_ ?_) <;> intro hb hc <;> first | (with_reducible exact False.elim hc) | (exfalso; omega) | (simp only [hb]; clear hb)) | ((first | refine zalc ?_ | refine zbsl ?_ | ((with_reducible refine gBox ?_); refine zbox ?_)); intro gb wb hS) | ((with_reducible refine gSt ?_); refine zs2 ?_; intro wb hS) | (refine zco 36 (hbx _ (Sep.xt (by assumption)) (Sep.frzAt (vs := vs) (xss := r0 :: t) hS (by repeat constructor) (i := 0) (by simp))) ?_; rintro vb wb ⟨pv, rfl, hS2⟩; have hS := hS2.ap; simp only [apps] at hS) | (refine G.drt mixed fun K hK wd hxd => ?_; have hS := Sep.xx hxd) | with_reducible refine OT_leaf ?_ | refine G.drg mixed fun K hK => ?_ | (refine G.cn ?_ ?_ <;> intro hc <;> first | (with_reducible exact False.elim hc) | (exfalso; omega) | skip))) <;> (try clear fct)
      all_goals
        (have fct := @q9; (first | refine G.r1 ?_ | refine G.r2 ?_ | refine G.r3 ?_ | refine G.r0 ?_ | refine G.d0 ?_); (try simp (disch := first | exact dis | fail) only [push_cast, ↓reduceIte, Nat.reduceAdd, Nat.reduceLeDiff, Nat.reduceEqDiff, Nat.reduceLT, Int.reduceToNat, fct]); (try clear fct))
        exact RrR.none (b := ⟨B.2.2, 0, B.2.1, 0⟩) hS
    · rw [if_neg (not_not_intro hbe)]
      (have fct := (And.intro @q1 (And.intro @q2 (And.intro @q9 (And.intro @q13 (And.intro @q14 (And.intro @q15 (And.intro @hbe @hne))))))); repeat' (first | ((with_reducible apply G.a); exact rfl) | refine G.reg fun K hK => ?_ | (with_reducible (refine hK _ _ ?_); clear hK K) | (with_reducible (refine hK _ ?_); clear hK K; intro wd hxd; have hS := Sep.xx hxd) | (have hk := hK; clear hk; simp (disch := first | exact dis | fail) only [push_cast, ↓reduceIte, Nat.reduceAdd, Nat.reduceLeDiff, Nat.reduceEqDiff, Nat.reduceLT, Int.reduceToNat, fct]) | ((first | refine brO_n ?_ ?_ | refine brQ_n ?_ ?_) <;> intro hb hc <;> first | (with_reducible exact False.elim hc) | (exfalso; omega) | (simp only [hb]; clear hb)) | ((first | refine zalc ?_ | refine zbsl ?_ | ((with_reducible refine gBox ?_); refine zbox ?_)); intro gb wb hS) | ((with_reducible refine gSt ?_); refine zs2 ?_; intro wb hS) | (refine zco 36 (hbx _ (Sep.xt (by assumption)) (Sep.frzAt (vs := vs) (xss := r0 :: t) hS (by repeat constructor) (i := 0) (by simp))) ?_; rintro vb wb ⟨pv, rfl, hS2⟩; have hS := hS2.ap; simp only [apps] at hS) | (refine G.drt mixed fun K hK wd hxd => ?_; have hS := Sep.xx hxd) | with_reducible refine OT_leaf ?_ | refine G.drg mixed fun K hK => ?_ | (refine G.cn ?_ ?_ <;> intro hc <;> first | (with_reducible exact False.elim hc) | (exfalso; omega) | skip))) <;> (try clear fct)
      all_goals
        clear hS2
        generalize B.1 = p at *
        have hS := (hS.frz0 eRv).nil 54 eV
        refine G.loop (fun u wz => ∃ (k : Nat) (rv : Value) (us : List Value) (out : List (List Val)), k ≤ t.length ∧ out.length = k ∧ u 20 = I (k + 1) ∧ u 1 = v1 ∧ u 9 = .pointer (some ⟨g9, 0, none⟩) ∧ u 13 = v ∧ u 14 = I fk ∧ u 15 = I fa ∧ u 16 = pv ∧ u 19 = rv ∧ rdF r0.length p l fk fa t [] = rdF r0.length p l fk fa (t.drop k) out ∧
          Sep w wz [accC rv 54 eV us, frzC eRv us out, accC pv 3 eI p, accC v 49 eV vs, frzC eS vs (r0 :: t), boxC g9 37 [I 0, I 0, I 0, I 0]]) (fun u _ => t.length + 1 - toN (u 20)) ?_ ?_
        · exact ⟨0, .slice none 0 0, [], [], Nat.zero_le _, rfl, by simp only [push_cast, ↓reduceIte, Nat.reduceAdd, Nat.reduceLeDiff, Nat.reduceEqDiff, Nat.reduceLT, Int.reduceToNat] <;> rfl, by simp only [push_cast, ↓reduceIte, Nat.reduceAdd, Nat.reduceLeDiff, Nat.reduceEqDiff, Nat.reduceLT, Int.reduceToNat, q1] <;> rfl, by simp only [push_cast, ↓reduceIte, Nat.reduceAdd, Nat.reduceLeDiff, Nat.reduceEqDiff, Nat.reduceLT, Int.reduceToNat, q9] <;> rfl, by simp only [push_cast, ↓reduceIte, Nat.reduceAdd, Nat.reduceLeDiff, Nat.reduceEqDiff, Nat.reduceLT, Int.reduceToNat, q13] <;> rfl, by simp only [push_cast, ↓reduceIte, Nat.reduceAdd, Nat.reduceLeDiff, Nat.reduceEqDiff, Nat.reduceLT, Int.reduceToNat, q14] <;> rfl, by simp only [push_cast, ↓reduceIte, Nat.reduceAdd, Nat.reduceLeDiff, Nat.reduceEqDiff, Nat.reduceLT, Int.reduceToNat, q15] <;> rfl, by simp only [push_cast, ↓reduceIte, Nat.reduceAdd, Nat.reduceLeDiff, Nat.reduceEqDiff, Nat.reduceLT, Int.reduceToNat] <;> rfl, by simp only [push_cast, ↓reduceIte, Nat.reduceAdd, Nat.reduceLeDiff, Nat.reduceEqDiff, Nat.reduceLT, Int.reduceToNat] <;> rfl, rfl, hS⟩
        · clear hS q1 q2 q9 q13 q14 q15 hrv
          rintro u wl ⟨k, rv, us, out, hk, ho, q20, q1, q9, q13, q14, q15, q16, q19, e, hS⟩ ih
          have hmk : toN (u 20) = k + 1 := by rw [q20]; simp only [toN]; omega
          have hul := hS.frzLen (.t .h)
          have hkn : ((k : Int) + 1).toNat = k + 1 := by omega
          by_cases hlt : (k : Int) < t.length
          · have hrv := Sep.rd (v := v) (xs := vs) hS (by repeat constructor)
            have hlb : (k : Int) + 1 < vs.length := by omega
            have hr0 : Rd wl eS (vs.getD 0 default) r0 := Sep.frzAt (vs := vs) (xss := r0 :: t) hS (by repeat constructor) (i := 0) (by simp)
            have hrk : Rd wl eS (vs.getD (k + 1) default) (t.getD k []) := Sep.frzAt (vs := vs) (xss := r0 :: t) hS (by repeat constructor) (i := k + 1) (by simp; omega)
            obtain ⟨b3, b4⟩ := hmb (t.getD k []) (List.mem_cons_of_mem _ (getD_mem t k hlt))
            rw [rdF_at _ _ _ _ _ t k out hlt, ho] at e
            have hfx : ∀ {w2 : World}, Ext wl w2 → Rd w2 eS (vs.getD (k + 1) default) (t.getD k []) := fun hx => hrk.ext hx
            generalize t.getD k [] = r at *
            by_cases hw : (r.length : Int) = r0.length
            rotate_left
            · rw [if_pos hw] at e
              (have fct := (And.intro @q20 (And.intro @q1 (And.intro @q9 (And.intro @q13 (And.intro @q14 (And.intro @q15 (And.intro @q16 (And.intro @q19 (And.intro @hkn @hw))))))))); repeat' (first | ((with_reducible apply G.a); exact rfl) | refine G.reg fun K hK => ?_ | (with_reducible (refine hK _ _ ?_); clear hK K) | (with_reducible (refine hK _ ?_); clear hK K; intro wd hxd; have hS := Sep.xx hxd) | (have hk := hK; clear hk; simp (disch := first | exact dis | fail) only [push_cast, ↓reduceIte, Nat.reduceAdd, Nat.reduceLeDiff, Nat.reduceEqDiff, Nat.reduceLT, Int.reduceToNat, fct]) | ((first | refine brO_n ?_ ?_ | refine brQ_n ?_ ?_) <;> intro hb hc <;> first | (with_reducible exact False.elim hc) | (exfalso; omega) | (simp only [hb]; clear hb)) | ((first | refine zalc ?_ | refine zbsl ?_ | ((with_reducible refine gBox ?_); refine zbox ?_)); intro gb wb hS) | ((with_reducible refine gSt ?_); refine zs2 ?_; intro wb hS) | (refine G.drt mixed fun K hK wd hxd => ?_; have hS := Sep.xx hxd) | with_reducible refine OT_leaf ?_ | refine G.drg mixed fun K hK => ?_ | (refine G.cn ?_ ?_ <;> intro hc <;> first | (with_reducible exact False.elim hc) | (exfalso; omega) | skip))) <;> (try clear fct)
              all_goals
                rw [e]
                (have fct := (And.intro @q20 (And.intro @q1 (And.intro @q9 (And.intro @q13 (And.intro @q14 (And.intro @q15 (And.intro @q16 @q19))))))); (first | refine G.r1 ?_ | refine G.r2 ?_ | refine G.r3 ?_ | refine G.r0 ?_ | refine G.d0 ?_); (try simp (disch := first | exact dis | fail) only [push_cast, ↓reduceIte, Nat.reduceAdd, Nat.reduceLeDiff, Nat.reduceEqDiff, Nat.reduceLT, Int.reduceToNat, fct]); (try clear fct))
                exact RrR.none (b := ⟨10, (k : Int) + 1, (r.length : Int), 0⟩) hS
            · rw [if_neg (not_not_intro hw)] at e
              have hpo := pickM_ok r p fun x hx => by have := hrng x hx; omega
              rw [if_neg (not_not_intro hpo)] at e
              obtain ⟨c1, c2⟩ := pickM_sub r p 1000000 b4
              by_cases hx : (rowM (pickM r p).1 l).2.2 = 0
              rotate_left
              · rw [if_pos hx] at e
                (have fct := (And.intro @q20 (And.intro @q1 (And.intro @q9 (And.intro @q13 (And.intro @q14 (And.intro @q15 (And.intro @q16 (And.intro @q19 (And.intro @hkn (And.intro @hw @hx)))))))))); repeat' (first | ((with_reducible apply G.a); exact rfl) | refine G.reg fun K hK => ?_ | (with_reducible (refine hK _ _ ?_); clear hK K) | (with_reducible (refine hK _ ?_); clear hK K; intro wd hxd; have hS := Sep.xx hxd) | (have hk := hK; clear hk; simp (disch := first | exact dis | fail) only [push_cast, ↓reduceIte, Nat.reduceAdd, Nat.reduceLeDiff, Nat.reduceEqDiff, Nat.reduceLT, Int.reduceToNat, fct]) | ((first | refine brO_n ?_ ?_ | refine brQ_n ?_ ?_) <;> intro hb hc <;> first | (with_reducible exact False.elim hc) | (exfalso; omega) | (simp only [hb]; clear hb)) | ((first | refine zalc ?_ | refine zbsl ?_ | ((with_reducible refine gBox ?_); refine zbox ?_)); intro gb wb hS) | ((with_reducible refine gSt ?_); refine zs2 ?_; intro wb hS) | (refine zco 37 (rpick_spec (r := r) (places := p) (hfx (by assumption)) (Sep.rd hS (by repeat constructor)) hpl) ?_; rintro vb wb ⟨fv, rfl, hS2⟩; have hS := hS2.ap; simp only [apps] at hS) | (refine zco 18 (rrow_spec (r := (pickM r p).1) (l := l) (Sep.rd hS (by repeat constructor)) (h1.ext hS.x) c1 (by omega)) ?_; rintro vb wb ⟨lv, rfl, hS2⟩; have hS := hS2.ap; simp only [apps] at hS) | (refine G.drt mixed fun K hK wd hxd => ?_; have hS := Sep.xx hxd) | with_reducible refine OT_leaf ?_ | refine G.drg mixed fun K hK => ?_ | (refine G.cn ?_ ?_ <;> intro hc <;> first | (with_reducible exact False.elim hc) | (exfalso; omega) | skip))) <;> (try clear fct)
                all_goals
                  rw [e]
                  (have fct := (And.intro @q20 (And.intro @q1 (And.intro @q9 (And.intro @q13 (And.intro @q14 (And.intro @q15 (And.intro @q16 @q19))))))); (first | refine G.r1 ?_ | refine G.r2 ?_ | refine G.r3 ?_ | refine G.r0 ?_ | refine G.d0 ?_); (try simp (disch := first | exact dis | fail) only [push_cast, ↓reduceIte, Nat.reduceAdd, Nat.reduceLeDiff, Nat.reduceEqDiff, Nat.reduceLT, Int.reduceToNat, fct]); (try clear fct))
                  exact RrR.none (b := ⟨(rowM (pickM r p).1 l).2.2, (k : Int) + 1, (rowM (pickM r p).1 l).2.1, 0⟩) hS
              · rw [if_neg (not_not_intro hx)] at e
                (have fct := (And.intro @q20 (And.intro @q1 (And.intro @q9 (And.intro @q13 (And.intro @q14 (And.intro @q15 (And.intro @q16 (And.intro @q19 (And.intro @hkn (And.intro @hw @hx)))))))))); repeat' (first | ((with_reducible apply G.a); exact rfl) | refine G.reg fun K hK => ?_ | (with_reducible (refine hK _ _ ?_); clear hK K) | (with_reducible (refine hK _ ?_); clear hK K; intro wd hxd; have hS := Sep.xx hxd) | (have hk := hK; clear hk; simp (disch := first | exact dis | fail) only [push_cast, ↓reduceIte, Nat.reduceAdd, Nat.reduceLeDiff, Nat.reduceEqDiff, Nat.reduceLT, Int.reduceToNat, fct]) | ((first | refine brO_n ?_ ?_ | refine brQ_n ?_ ?_) <;> intro hb hc <;> first | (with_reducible exact False.elim hc) | (exfalso; omega) | (simp only [hb]; clear hb)) | ((first | refine zalc ?_ | refine zbsl ?_ | ((with_reducible refine gBox ?_); refine zbox ?_)); intro gb wb hS) | ((with_reducible refine gSt ?_); refine zs2 ?_; intro wb hS) | (refine zco 37 (rpick_spec (r := r) (places := p) (hfx (by assumption)) (Sep.rd hS (by repeat constructor)) hpl) ?_; rintro vb wb ⟨fv, rfl, hS2⟩; have hS := hS2.ap; simp only [apps] at hS) | (refine zco 18 (rrow_spec (r := (pickM r p).1) (l := l) (Sep.rd hS (by repeat constructor)) (h1.ext hS.x) c1 (by omega)) ?_; rintro vb wb ⟨lv, rfl, hS2⟩; have hS := hS2.ap; simp only [apps] at hS) | (refine zap ?_; intro vb wb hS) | (refine G.drt mixed fun K hK wd hxd => ?_; have hS := Sep.xx hxd) | with_reducible refine OT_leaf ?_ | refine G.drg mixed fun K hK => ?_ | (refine G.cn ?_ ?_ <;> intro hc <;> first | (with_reducible exact False.elim hc) | (exfalso; omega) | skip))) <;> (try clear fct)
                all_goals
                  clear hS2
                  have hS := hS.frzPush (.h) (.t (.t .h))
                  (have fct := (And.intro @q20 (And.intro @q1 (And.intro @q9 (And.intro @q13 (And.intro @q14 (And.intro @q15 (And.intro @q16 @q19))))))); repeat' (first | ((with_reducible apply G.a); exact rfl) | refine G.reg fun K hK => ?_ | (with_reducible (refine hK _ _ ?_); clear hK K) | (with_reducible (refine hK _ ?_); clear hK K; intro wd hxd; have hS := Sep.xx hxd) | (have hk := hK; clear hk; simp (disch := first | exact dis | fail) only [push_cast, ↓reduceIte, Nat.reduceAdd, Nat.reduceLeDiff, Nat.reduceEqDiff, Nat.reduceLT, Int.reduceToNat, fct]) | ((first | refine brO_n ?_ ?_ | refine brQ_n ?_ ?_) <;> intro hb hc <;> first | (with_reducible exact False.elim hc) | (exfalso; omega) | (simp only [hb]; clear hb)) | ((first | refine zalc ?_ | refine zbsl ?_ | ((with_reducible refine gBox ?_); refine zbox ?_)); intro gb wb hS) | ((with_reducible refine gSt ?_); refine zs2 ?_; intro wb hS) | (refine G.drt mixed fun K hK wd hxd => ?_; have hS := Sep.xx hxd) | with_reducible refine OT_leaf ?_ | refine G.drg mixed fun K hK => ?_ | (refine G.cn ?_ ?_ <;> intro hc <;> first | (with_reducible exact False.elim hc) | (exfalso; omega) | skip))) <;> (try clear fct)
                  have fct := (And.intro @q20 (And.intro @q1 (And.intro @q9 (And.intro @q13 (And.intro @q14 (And.intro @q15 (And.intro @q16 @q19))))))); refine ih _ _ ⟨k + 1, vb, us ++ [lv], out ++ [(rowM (pickM r p).1 l).1], by omega, by simp [ho], by exact sf, by exact sf, by exact sf, by exact sf, by exact sf, by exact sf, by exact sf, by exact sf, e, (Sep.sub hS (by repeat first | exact Sub.rfl' | exact Sub.n | exact Sub.nil0 | (refine Sub.c (by repeat constructor) ?_) | refine Sub.skip ?_))⟩ ?_
                  have hm2 : toN (I ((k : Int) + 1 + 1)) = k + 2 := by simp only [toN]; omega
                  rw [hmk]; simp only [push_cast, ↓reduceIte, Nat.reduceAdd, Nat.reduceLeDiff, Nat.reduceEqDiff, Nat.reduceLT, Int.reduceToNat, q20, q1, q9, q13, q14, q15, q16, q19, hm2]; omega
          · rw [rdF_end _ _ _ _ _ t k out hlt] at e
            rw [e]
            have hrv := Sep.rd (v := v) (xs := vs) hS (by repeat constructor)
            by_cases hk0 : fk = 0
            · rw [if_neg (not_not_intro hk0)]
              (have fct := (And.intro @q20 (And.intro @q1 (And.intro @q9 (And.intro @q13 (And.intro @q14 (And.intro @q15 (And.intro @q16 (And.intro @q19 @hk0)))))))); repeat' (first | ((with_reducible apply G.a); exact rfl) | refine G.reg fun K hK => ?_ | (with_reducible (refine hK _ _ ?_); clear hK K) | (with_reducible (refine hK _ ?_); clear hK K; intro wd hxd; have hS := Sep.xx hxd) | (have hk := hK; clear hk; simp (disch := first | exact dis | fail) only [push_cast, ↓reduceIte, Nat.reduceAdd, Nat.reduceLeDiff, Nat.reduceEqDiff, Nat.reduceLT, Int.reduceToNat, fct]) | ((first | refine brO_n ?_ ?_ | refine brQ_n ?_ ?_) <;> intro hb hc <;> first | (with_reducible exact False.elim hc) | (exfalso; omega) | (simp only [hb]; clear hb)) | ((first | refine zalc ?_ | refine zbsl ?_ | ((with_reducible refine gBox ?_); refine zbox ?_)); intro gb wb hS) | ((with_reducible refine gSt ?_); refine zs2 ?_; intro wb hS) | (refine G.drt mixed fun K hK wd hxd => ?_; have hS := Sep.xx hxd) | with_reducible refine OT_leaf ?_ | refine G.drg mixed fun K hK => ?_ | (refine G.cn ?_ ?_ <;> intro hc <;> first | (with_reducible exact False.elim hc) | (exfalso; omega) | skip))) <;> (try clear fct)
              all_goals
                (have fct := (And.intro @q20 (And.intro @q1 (And.intro @q9 (And.intro @q13 (And.intro @q14 (And.intro @q15 (And.intro @q16 @q19))))))); (first | refine G.r1 ?_ | refine G.r2 ?_ | refine G.r3 ?_ | refine G.r0 ?_ | refine G.d0 ?_); (try simp (disch := first | exact dis | fail) only [push_cast, ↓reduceIte, Nat.reduceAdd, Nat.reduceLeDiff, Nat.reduceEqDiff, Nat.reduceLT, Int.reduceToNat, fct]); (try clear fct))
                exact ⟨rv, us, rfl, (Sep.sub hS (by repeat first | exact Sub.rfl' | exact Sub.n | exact Sub.nil0 | (refine Sub.c (by repeat constructor) ?_) | refine Sub.skip ?_))⟩
            · rw [if_pos hk0]
              (have fct := (And.intro @q20 (And.intro @q1 (And.intro @q9 (And.intro @q13 (And.intro @q14 (And.intro @q15 (And.intro @q16 (And.intro @q19 @hk0)))))))); repeat' (first | ((with_reducible apply G.a); exact rfl) | refine G.reg fun K hK => ?_ | (with_reducible (refine hK _ _ ?_); clear hK K) | (with_reducible (refine hK _ ?_); clear hK K; intro wd hxd; have hS := Sep.xx hxd) | (have hk := hK; clear hk; simp (disch := first | exact dis | fail) only [push_cast, ↓reduceIte, Nat.reduceAdd, Nat.reduceLeDiff, Nat.reduceEqDiff, Nat.reduceLT, Int.reduceToNat, fct]) | ((first | refine brO_n ?_ ?_ | refine brQ_n ?_ ?_) <;> intro hb hc <;> first | (with_reducible exact False.elim hc) | (exfalso; omega) | (simp only [hb]; clear hb)) | ((first | refine zalc ?_ | refine zbsl ?_ | ((with_reducible refine gBox ?_); refine zbox ?_)); intro gb wb hS) | ((with_reducible refine gSt ?_); refine zs2 ?_; intro wb hS) | (refine G.drt mixed fun K hK wd hxd => ?_; have hS := Sep.xx hxd) | with_reducible refine OT_leaf ?_ | refine G.drg mixed fun K hK => ?_ | (refine G.cn ?_ ?_ <;> intro hc <;> first | (with_reducible exact False.elim hc) | (exfalso; omega) | skip))) <;> (try clear fct)
              all_goals
                (have fct := (And.intro @q20 (And.intro @q1 (And.intro @q9 (And.intro @q13 (And.intro @q14 (And.intro @q15 (And.intro @q16 @q19))))))); (first | refine G.r1 ?_ | refine G.r2 ?_ | refine G.r3 ?_ | refine G.r0 ?_ | refine G.d0 ?_); (try simp (disch := first | exact dis | fail) only [push_cast, ↓reduceIte, Nat.reduceAdd, Nat.reduceLeDiff, Nat.reduceEqDiff, Nat.reduceLT, Int.reduceToNat, fct]); (try clear fct))
                exact RrR.none (b := ⟨fk, 0, 0, fa⟩) hS
theorem rpar_wide {d : Dl} {s : Str} (w : World) (hr : rightD d = true) (hl : s.length ≤ 900000) :
    Ret Tryz.prog 35 #[(.agg #[I d.dl, I d.q, I d.e]), .agg #[I 2147483648, I 2147483648, I 2147483648, I 0], S s] w fun res w' => ∃ v vs, res = .tuple #[v, I (parM d wideL s).k, I (parM d wideL s).a] ∧ Sep w w' [accC v 49 eV vs, frzC eS vs (List.map Prod.fst (parM d wideL s).rs)] :=
  rparse_spec (l := wideL) (right_rt hr) hl (by decide) (by decide) (by decide) (by decide)
set_option maxHeartbeats 1000000 in
theorem rread_pre {n : Nat} {TT : MC} {v1 : Value} (d : Dl) (hd : byD d) {l : List Col} (mode : Int) (s : Str) (w : World) (h1 : Rd w eR v1 (l.map toR)) (hs : s.length ≤ 100000) (hl1 : l.length ≤ 1000000000) (hl2 : ∀ c ∈ l, c.name.length ≤ 100000000000)
    (ht : ∀ {fk fa : Int} {recs : List (List Str)} {g9 : Nat} {v : Value} {vs : List Value} {ρ : Fr} {w' : World}, (1 ≤ mode ∧ mode ≤ 3) → (∀ r ∈ recs, r.length ≤ 1000000000 ∧ ∀ f ∈ r, f.length ≤ 1000000) → recs.length ≤ 1000000000 → Sep w w' [accC v 49 eV vs, frzC eS vs recs, boxC g9 37 [I 0, I 0, I 0, I 0]] → ρ 1 = v1 → ρ 2 = I mode → ρ 9 = .pointer (some ⟨g9, 0, none⟩) → ρ 13 = v → ρ 14 = I fk → ρ 15 = I fa →
      G Tryz.prog Tryz.f10 n [.c TT] (RrR w (rdT l mode fk fa recs)) ρ w') :
    G Tryz.prog Tryz.f10 n [.c (rreadV TT)] (RrR w (readM d l mode s)) (frL 0 [(.agg #[I d.dl, I d.q, I d.e]), v1, I mode, S s]) w := by
  unfold rreadV c10
  dsimp only
  have hS := Sep.start w
  unfold readM
  have hck := fun (wz : World) (hz : Ext w wz) => rcheck_spec (h1.ext hz) (fun c hc => by
      obtain ⟨c0, h0, rfl⟩ := List.mem_map.1 hc
      exact hl2 c0 h0) (by rw [List.length_map]; exact hl1)
  simp only [nk_toR] at hck
  generalize checkM (l.map nkC) = C at *
  by_cases hc1 : C.2 = 0
  rotate_left
  · rw [if_pos hc1]
    (have fct := @hc1; repeat' (first | ((with_reducible apply G.a); exact rfl) | refine G.reg fun K hK => ?_ | (with_reducible (refine hK _ _ ?_); clear hK K) | (with_reducible (refine hK _ ?_); clear hK K; intro wd hxd; have hS := Sep.xx hxd) | (have hk := hK; clear hk; simp (disch := first | exact dis | fail) only [push_cast, ↓reduceIte, Nat.reduceAdd, Nat.reduceLeDiff, Nat.reduceEqDiff, Nat.reduceLT, Int.reduceToNat, fct]) | ((first | refine brO_n ?_ ?_ | refine brQ_n ?_ ?_) <;> intro hb hc <;> first | (with_reducible exact False.elim hc) | (exfalso; omega) | (simp only [hb]; clear hb)) | ((first | refine zalc ?_ | refine zbsl ?_ | ((with_reducible refine gBox ?_); refine zbox ?_)); intro gb wb hS) | ((with_reducible refine gSt ?_); refine zs2 ?_; intro wb hS) | (refine zcp 34 (hck _ hS.x) ?_; intro wb hS) | (refine zcp 24 (rightR_spec d hd _) ?_; intro wb hS) | (refine G.drt mixed fun K hK wd hxd => ?_; have hS := Sep.xx hxd) | with_reducible refine OT_leaf ?_ | refine G.drg mixed fun K hK => ?_ | (refine G.cn ?_ ?_ <;> intro hc <;> first | (with_reducible exact False.elim hc) | (exfalso; omega) | skip))) <;> (try clear fct)
    all_goals
      (first | refine G.r1 ?_ | refine G.r2 ?_ | refine G.r3 ?_ | refine G.r0 ?_ | refine G.d0 ?_); (try simp (disch := first | exact dis | fail) only [push_cast, ↓reduceIte, Nat.reduceAdd, Nat.reduceLeDiff, Nat.reduceEqDiff, Nat.reduceLT, Int.reduceToNat, fct])
      exact RrR.none (b := ⟨C.2, 0, C.1, 0⟩) hS
  · rw [if_neg (not_not_intro hc1)]
    by_cases hmo : mode < 1 ∨ 3 < mode
    · rw [if_pos hmo]
      (have fct := @hc1; repeat' (first | ((with_reducible apply G.a); exact rfl) | refine G.reg fun K hK => ?_ | (with_reducible (refine hK _ _ ?_); clear hK K) | (with_reducible (refine hK _ ?_); clear hK K; intro wd hxd; have hS := Sep.xx hxd) | (have hk := hK; clear hk; simp (disch := first | exact dis | fail) only [push_cast, ↓reduceIte, Nat.reduceAdd, Nat.reduceLeDiff, Nat.reduceEqDiff, Nat.reduceLT, Int.reduceToNat, fct]) | ((first | refine brO_n ?_ ?_ | refine brQ_n ?_ ?_) <;> intro hb hc <;> first | (with_reducible exact False.elim hc) | (exfalso; omega) | (simp only [hb]; clear hb)) | ((first | refine zalc ?_ | refine zbsl ?_ | ((with_reducible refine gBox ?_); refine zbox ?_)); intro gb wb hS) | ((with_reducible refine gSt ?_); refine zs2 ?_; intro wb hS) | (refine zcp 34 (hck _ hS.x) ?_; intro wb hS) | (refine zcp 24 (rightR_spec d hd _) ?_; intro wb hS) | (refine G.drt mixed fun K hK wd hxd => ?_; have hS := Sep.xx hxd) | with_reducible refine OT_leaf ?_ | refine G.drg mixed fun K hK => ?_ | (refine G.cn ?_ ?_ <;> intro hc <;> first | (with_reducible exact False.elim hc) | (exfalso; omega) | skip))) <;> (try clear fct)
      all_goals
        (first | refine G.r1 ?_ | refine G.r2 ?_ | refine G.r3 ?_ | refine G.r0 ?_ | refine G.d0 ?_); (try simp (disch := first | exact dis | fail) only [push_cast, ↓reduceIte, Nat.reduceAdd, Nat.reduceLeDiff, Nat.reduceEqDiff, Nat.reduceLT, Int.reduceToNat, fct])
        exact RrR.none (b := ⟨22, 0, 0, 0⟩) hS
    · rw [if_neg hmo]
      have hm : 1 ≤ mode ∧ mode ≤ 3 := by omega
      cases hr : rightD d
      · rw [if_pos rfl]
        (have fct := (And.intro @hc1 @hr); repeat' (first | ((with_reducible apply G.a); exact rfl) | refine G.reg fun K hK => ?_ | (with_reducible (refine hK _ _ ?_); clear hK K) | (with_reducible (refine hK _ ?_); clear hK K; intro wd hxd; have hS := Sep.xx hxd) | (have hk := hK; clear hk; simp (disch := first | exact dis | fail) only [push_cast, ↓reduceIte, Nat.reduceAdd, Nat.reduceLeDiff, Nat.reduceEqDiff, Nat.reduceLT, Int.reduceToNat, fct]) | ((first | refine brO_n ?_ ?_ | refine brQ_n ?_ ?_) <;> intro hb hc <;> first | (with_reducible exact False.elim hc) | (exfalso; omega) | (simp only [hb]; clear hb)) | ((first | refine zalc ?_ | refine zbsl ?_ | ((with_reducible refine gBox ?_); refine zbox ?_)); intro gb wb hS) | ((with_reducible refine gSt ?_); refine zs2 ?_; intro wb hS) | (refine zcp 34 (hck _ hS.x) ?_; intro wb hS) | (refine zcp 24 (rightR_spec d hd _) ?_; intro wb hS) | (refine G.drt mixed fun K hK wd hxd => ?_; have hS := Sep.xx hxd) | with_reducible refine OT_leaf ?_ | refine G.drg mixed fun K hK => ?_ | (refine G.cn ?_ ?_ <;> intro hc <;> first | (with_reducible exact False.elim hc) | (exfalso; omega) | skip))) <;> (try clear fct)
        all_goals
          (first | refine G.r1 ?_ | refine G.r2 ?_ | refine G.r3 ?_ | refine G.r0 ?_ | refine G.d0 ?_); (try simp (disch := first | exact dis | fail) only [push_cast, ↓reduceIte, Nat.reduceAdd, Nat.reduceLeDiff, Nat.reduceEqDiff, Nat.reduceLT, Int.reduceToNat, fct])
          exact RrR.none (b := ⟨1, 0, 0, 0⟩) hS
      · rw [if_neg (by decide)]
        have hp := fun w => rpar_wide (s := s) w hr (by omega)
        have hmb := parM_mb d wideL s
        have hpl := parM_len d wideL s
        generalize parM d wideL s = R at *
        (have fct := (And.intro @hc1 @hr); repeat' (first | ((with_reducible apply G.a); exact rfl) | refine G.reg fun K hK => ?_ | (with_reducible (refine hK _ _ ?_); clear hK K) | (with_reducible (refine hK _ ?_); clear hK K; intro wd hxd; have hS := Sep.xx hxd) | (have hk := hK; clear hk; simp (disch := first | exact dis | fail) only [push_cast, ↓reduceIte, Nat.reduceAdd, Nat.reduceLeDiff, Nat.reduceEqDiff, Nat.reduceLT, Int.reduceToNat, fct]) | ((first | refine brO_n ?_ ?_ | refine brQ_n ?_ ?_) <;> intro hb hc <;> first | (with_reducible exact False.elim hc) | (exfalso; omega) | (simp only [hb]; clear hb)) | ((first | refine zalc ?_ | refine zbsl ?_ | ((with_reducible refine gBox ?_); refine zbox ?_)); intro gb wb hS) | ((with_reducible refine gSt ?_); refine zs2 ?_; intro wb hS) | (refine zcp 34 (hck _ hS.x) ?_; intro wb hS) | (refine zcp 24 (rightR_spec d hd _) ?_; intro wb hS) | (refine zco 35 (hp _) ?_; rintro vb wb ⟨v, vs, rfl, hS2⟩; have hS := hS2.ap; simp only [apps] at hS) | (refine G.drt mixed fun K hK wd hxd => ?_; have hS := Sep.xx hxd) | with_reducible refine OT_leaf ?_ | refine G.drg mixed fun K hK => ?_ | (refine G.cn ?_ ?_ <;> intro hc <;> first | (with_reducible exact False.elim hc) | (exfalso; omega) | skip))) <;> (try clear fct)
        all_goals
          refine ht (vs := vs) hm (fun r hr => ?_) (by rw [List.length_map]; omega) (Sep.sub hS (by repeat first | exact Sub.rfl' | exact Sub.n | exact Sub.nil0 | (refine Sub.c (by repeat constructor) ?_) | refine Sub.skip ?_)) (by simp only [push_cast, ↓reduceIte, Nat.reduceAdd, Nat.reduceLeDiff, Nat.reduceEqDiff, Nat.reduceLT, Int.reduceToNat]) (by simp only [push_cast, ↓reduceIte, Nat.reduceAdd, Nat.reduceLeDiff, Nat.reduceEqDiff, Nat.reduceLT, Int.reduceToNat]) (by simp only [push_cast, ↓reduceIte, Nat.reduceAdd, Nat.reduceLeDiff, Nat.reduceEqDiff, Nat.reduceLT, Int.reduceToNat] <;> rfl) (by simp only [push_cast, ↓reduceIte, Nat.reduceAdd, Nat.reduceLeDiff, Nat.reduceEqDiff, Nat.reduceLT, Int.reduceToNat]) (by simp only [push_cast, ↓reduceIte, Nat.reduceAdd, Nat.reduceLeDiff, Nat.reduceEqDiff, Nat.reduceLT, Int.reduceToNat]) (by simp only [push_cast, ↓reduceIte, Nat.reduceAdd, Nat.reduceLeDiff, Nat.reduceEqDiff, Nat.reduceLT, Int.reduceToNat])
          have hb := hmb r hr
          exact ⟨by omega, fun f hf => by have := hb.2 f hf; omega⟩
theorem rread20_spec {v1 : Value} (d : Dl) (hd : byD d) {l : List Col} (mode : Int) (s : Str) (w : World) (h1 : Rd w eR v1 (l.map toR)) (hs : s.length ≤ 100000) (hl1 : l.length ≤ 1000000000) (hl2 : ∀ c ∈ l, c.name.length ≤ 100000000000) :
    Ret Tryz.prog 10 #[(.agg #[I d.dl, I d.q, I d.e]), v1, I mode, S s] w (RrR w (readM d l mode s)) := by
  refine in10 ?_
  change G _ _ _ [.c (rreadV rreadT)] _ _ _
  exact rread_pre d hd mode s w h1 hs hl1 hl2 fun hm hmb hrl hS q1 q2 q9 q13 q14 q15 => rread_tail h1 hm hl1 hl2 hmb hrl hS q1 q2 q9 q13 q14 q15
end Go.Proofs.YtdikpaochhacmaaGreatDoor
