/- Texts of the proof, joined. -/
import Derived.Test.YtcglgnbeliljoaawC07
namespace Go.Proofs.Ytcglgnbeliljoaa
set_option linter.unusedSimpArgs false
set_option linter.unusedVariables false
attribute [local irreducible] SemK UnitK StK AlcK BslK CallK CallV Instr.box Builtin.append_ Instr.makeSlice Instr.makeMap Instr.lookup Instr.mapUpdate Instr.sliceAt convert
open Go.RowKit
structure TakeG {α : Type} (E : Enc α) (et : TypeId) (tv : Value) (N : Nat) (all : Nat → List α) (TSL : Nat → List Chk → Prop) (go : Nat → Bool) : Prop where
  ok : ∀ {i : Nat} {rv : Value} {w0 w : World} {M L : List Chk} {d : Option Nat} {ρ : Fr} {next : Fr → World → Prop}, TSL i L → i < N → (∀ j, 0 < j → j ≤ i → go j = true) → Sep w0 w (accC rv et E (all i) :: (M ++ L)) →
    (∀ w' L', TSL (i + 1) L' → Sep w0 w' (M ++ L') → next (updO ρ d (.bool (go (i + 1)))) w') → CallY Try.prog tv [rv] w d ρ next
def Upto (N : Nat) (go : Nat → Bool) (j : Nat) : Prop := j ≤ N ∧ (j = N ∨ (0 < j ∧ go j = false)) ∧ ∀ i, 0 < i → i < j → go i = true
def c7 : MC := (.seq (.reg [qq 1 (.raw (.box 3 (.tmp 0)) 0), qq 2 (.mv (.const .nilFunc))]) (.seq (.reg [qq 3 (.raw (.makeFunc (.func 14) #[] #[(.tmp 1)]) 27), qm 2 3]) .ret))
theorem k7 : conv Try.prog 4 (Try.f7.body.getD .skip) = c7 := by kernel_rfl
theorem in7 {a0 : Value} {w : World} {R : Value → World → Prop} (h : G Try.prog Try.f7 4 [.c c7] R (frL 0 [a0]) w) : Ret Try.prog 7 #[a0] w R := G.enter (args := [a0]) Try.func7 (c := Try.f7.body.getD .skip) (by kernel_rfl) (by kernel_rfl) (by simp) k7 h
theorem ways_spec (n : Int) (w : World) : Ret Try.prog 7 #[I n] w fun res w' => ∃ g, res = .func (.func 14) #[] #[.pointer (some ⟨g, 0, none⟩)] ∧ Sep w w' [boxC g 3 [I n]] := by
  refine in7 ?_
  have hS := Sep.start w
  repeat' (first | ((with_reducible apply G.a); exact rfl) | refine G.reg fun K hK => ?_ | (with_reducible (refine hK _ _ ?_); clear hK K) | (have hk := hK; clear hk; simp (disch := first | exact dis | fail) only [push_cast, ↓reduceIte, Nat.reduceAdd, Nat.reduceLeDiff, Nat.reduceEqDiff, Nat.reduceLT, Int.reduceToNat, fct]) | (((with_reducible refine gBox ?_); refine zbox ?_); intro gb wb hS) | ((with_reducible (show SemK _ (Instr.makeFunc _ _ _) _ _ _ _)); refine ⟨_, _, rfl, ?_⟩))
  all_goals
    (first | refine G.r1 ?_ | refine G.r2 ?_ | refine G.r3 ?_ | refine G.r0 ?_ | refine G.d0 ?_); (try simp (disch := first | exact dis | fail) only [push_cast, ↓reduceIte, Nat.reduceAdd, Nat.reduceLeDiff, Nat.reduceEqDiff, Nat.reduceLT, Int.reduceToNat, fct])
    simp only [push_cast, ↓reduceIte, Nat.reduceAdd, Nat.reduceLeDiff, Nat.reduceEqDiff, Nat.reduceLT, Int.reduceToNat, List.map_toArray, List.map_cons, List.map_nil]
    exact ⟨_, rfl, (Sep.sub hS (by repeat first | exact Sub.rfl' | exact Sub.n | exact Sub.nil0 | (refine Sub.c (by repeat constructor) ?_) | refine Sub.skip ?_))⟩
def c14l1 : MC := (.seq (.seq (.reg [qm 19 7, qq 20 (.ld none (.tmp 1)), qq 21 (.bin .lss (.tmp 19) (.tmp 20))]) (.cond (.tmp 21) .skip (.exit 2))) (.seq (.blk 3 (.seq (.reg [qm 24 5, qm 25 7, qq 26 (.bin .sub (.tmp 25) (ki 1)), qq 27 (.raw (.binOp .shr 3 (.tmp 24) (.tmp 26) 3) 3), qq 28 (.raw (.binOp .and 3 (.tmp 27) (ki 1) 3) 3), qq 29 (.bin .eql (.tmp 28) (ki 1))]) (.cond (.tmp 29) (.reg [qm 30 6, qm 31 7, qq 32 (.bsl 3 [(.int .i64 0)] 1 [⟨0, ⟨1, (.tmp 31)⟩⟩]), qq 33 (.raw (.call ⟨(.builtin .append), #[(.tmp 30), (.tmp 32)], #[30, 30]⟩) 30), qm 6 33]) .skip))) (.reg [qm 22 7, qq 23 (.bin .add (.tmp 22) (ki 1)), qm 7 23])))
def c14l2 : MC := (.seq (.reg [qq 17 (.bin .lss (.tmp 16) (.tmp 15))]) (.seq (.cond (.tmp 17) .skip (.exit 0)) (.seq (.blk 1 (.seq (.reg [qm 18 16, qm 5 18]) (.seq (.reg [qq 6 (.mv (.const (.slice none 0 0)))]) (.seq (.seq (.reg [qq 7 (.mv (ki 1))]) (.blk 2 (.loop c14l1))) (.seq (.reg [qm 34 0, qm 35 6, qq 36 (.raw (.call ⟨(.value (.tmp 34)), #[(.tmp 35)], #[30]⟩) 4), qq 37 (.un .not (.tmp 36))]) (.cond (.tmp 37) .ret .skip)))))) (.reg [qq 38 (.bin .add (.tmp 16) (ki 1)), qm 16 38]))))
def c14 : MC := (.seq (.reg [qq 9 (.ld none (.tmp 1)), qq 10 (.call 6 [(.tmp 9)]), qm 8 10, qq 11 (.ext 0 (.tmp 8)), qq 12 (.ext 1 (.tmp 8)), qm 3 11, qm 4 12]) (.seq (.seq (.reg [qm 13 4, qq 14 (.bin .neq (.tmp 13) (ki 0))]) (.cond (.tmp 14) .ret .skip)) (.seq (.reg [qm 15 3, qq 16 (.mv (ki 0))]) (.blk 0 (.loop c14l2)))))
theorem k14 : conv Try.prog 39 (Try.f14.body.getD .skip) = c14 := by kernel_rfl
theorem in14 {a0 a1 : Value} {w : World} {R : Value → World → Prop} (h : G Try.prog Try.f14 39 [.c c14] R (frL 0 [a0, a1]) w) : Ret Try.prog 14 #[a0, a1] w R := G.enter (args := [a0, a1]) Try.func14 (c := Try.f14.body.getD .skip) (by kernel_rfl) (by kernel_rfl) (by simp) k14 h
set_option maxHeartbeats 1000000 in
theorem ways1_spec {tv : Value} {TSL : Nat → List Chk → Prop} {go : Nat → Bool} (n : Int) {N : Nat} (hN : cntM n = N) (hT : TakeG eI 3 tv N (wayN n.toNat) TSL go) {w0 w : World} {L : List Chk} {g : Nat} (hn : -9223372036854775808 ≤ n ∧ n ≤ 9223372036854775807) (hS : Sep w0 w (boxC g 3 [I n] :: L)) (hL : TSL 0 L) :
    Ret Try.prog 14 #[tv, .pointer (some ⟨g, 0, none⟩)] w fun _ w' => ∃ j L', Upto N go j ∧ TSL j L' ∧ Sep w0 w' (boxC g 3 [I n] :: L') := by
  subst hN
  refine in14 ?_
  by_cases hb : n < 0 ∨ 16 < n
  · have h1 : bad7M n ≠ 0 := by unfold bad7M; split <;> (try split) <;> omega
    have h2 : cntM n = 0 := by unfold cntM; rw [if_pos hb]
    rw [h2]
    have hc := fun w => count_spec n w hn
    rw [h2] at hc
    generalize bad7M n = bm at hc h1
    repeat' (first | ((with_reducible apply G.a); exact rfl) | (refine G.regyk 2 (⟨none, some 36, _⟩) (by rfl) fun K1 K hK hK1 => ?_; simp only [List.take_succ_cons, List.take_zero, List.drop_succ_cons, List.drop_zero] at hK1 ⊢) | refine G.reg fun K hK => ?_ | (with_reducible (refine hK _ _ ?_); clear hK K) | (have hk := hK; clear hk; simp (disch := first | exact dis | fail) only [push_cast, ↓reduceIte, Nat.reduceAdd, Nat.reduceLeDiff, Nat.reduceEqDiff, Nat.reduceLT, Int.reduceToNat, fct]) | (refine zbsl ?_; intro gb wb hS) | (refine zcv ?_) | (refine zcp 6 (hc _) ?_; intro wb hS) | (refine G.cn ?_ ?_ <;> intro hc <;> first | (with_reducible exact False.elim hc) | (exfalso; omega) | skip))
    all_goals
      (first | refine G.r1 ?_ | refine G.r2 ?_ | refine G.r3 ?_ | refine G.r0 ?_ | refine G.d0 ?_); (try simp (disch := first | exact dis | fail) only [push_cast, ↓reduceIte, Nat.reduceAdd, Nat.reduceLeDiff, Nat.reduceEqDiff, Nat.reduceLT, Int.reduceToNat, fct])
      exact ⟨0, L, ⟨Nat.le_refl _, .inl rfl, fun i _ _ => by omega⟩, hL, hS⟩
  · obtain ⟨k, rfl⟩ : ∃ k : Nat, n = k := ⟨n.toNat, by omega⟩
    have h1 : bad7M (k : Int) = 0 := by unfold bad7M; rw [if_neg (by omega), if_neg (by omega)]
    have hle := cntM_le (k : Int)
    have hc := fun w => count_spec (k : Int) w hn
    rw [h1] at hc
    have e : ((k : Int).toNat) = k := by omega
    rw [e] at hT
    generalize cntM (k : Int) = N at *
    repeat' (first | ((with_reducible apply G.a); exact rfl) | (refine G.regyk 2 (⟨none, some 36, _⟩) (by rfl) fun K1 K hK hK1 => ?_; simp only [List.take_succ_cons, List.take_zero, List.drop_succ_cons, List.drop_zero] at hK1 ⊢) | refine G.reg fun K hK => ?_ | (with_reducible (refine hK _ _ ?_); clear hK K) | (have hk := hK; clear hk; simp (disch := first | exact dis | fail) only [push_cast, ↓reduceIte, Nat.reduceAdd, Nat.reduceLeDiff, Nat.reduceEqDiff, Nat.reduceLT, Int.reduceToNat, fct]) | (refine zbsl ?_; intro gb wb hS) | (refine zcv ?_) | (refine zcp 6 (hc _) ?_; intro wb hS) | (refine G.cn ?_ ?_ <;> intro hc <;> first | (with_reducible exact False.elim hc) | (exfalso; omega) | skip))
    refine G.loop (fun r w' => ∃ (m : Nat) (L2 : List Chk), m ≤ N ∧ (∀ i, 0 < i → i ≤ m → go i = true) ∧ TSL m L2 ∧ r 0 = tv ∧ r 1 = .pointer (some ⟨g, 0, none⟩) ∧ r 15 = I N ∧ r 16 = I m ∧ Sep w0 w' (boxC g 3 [I k] :: L2)) (fun r _ => N - toN (r 16)) ?_ ?_
    · exact ⟨0, L, Nat.zero_le _, fun i _ _ => by omega, hL, by exact sf, by exact sf, by exact sf, by exact sf, hS⟩
    · clear hS hL
      rintro u wl ⟨m, L2, hmN, hgo, hL, q0, q1, q15, q16, hS⟩ ih
      have hm : toN (u 16) = m := by rw [q16]; simp [toN]
      by_cases hlt : m < N
      · (have fct := (And.intro @q0 (And.intro @q1 (And.intro @q15 @q16))); repeat' (first | ((with_reducible apply G.a); exact rfl) | (refine G.regyk 2 (⟨none, some 36, _⟩) (by rfl) fun K1 K hK hK1 => ?_; simp only [List.take_succ_cons, List.take_zero, List.drop_succ_cons, List.drop_zero] at hK1 ⊢) | refine G.reg fun K hK => ?_ | (with_reducible (refine hK _ _ ?_); clear hK K) | (have hk := hK; clear hk; simp (disch := first | exact dis | fail) only [push_cast, ↓reduceIte, Nat.reduceAdd, Nat.reduceLeDiff, Nat.reduceEqDiff, Nat.reduceLT, Int.reduceToNat, fct]) | (refine zbsl ?_; intro gb wb hS) | (refine zcv ?_) | (refine G.cn ?_ ?_ <;> intro hc <;> first | (with_reducible exact False.elim hc) | (exfalso; omega) | skip))) <;> (try clear fct)
        have hS := hS.nil 3 eI
        refine G.loop (fun r w' => ∃ (j : Nat) (lv : Value), (j = 0 ∨ j + 1 ≤ k) ∧ r 0 = tv ∧ r 1 = .pointer (some ⟨g, 0, none⟩) ∧ r 15 = I N ∧ r 16 = I m ∧ r 5 = I m ∧ r 6 = lv ∧ r 7 = I ((j : Int) + 1) ∧ Sep w0 w' (accC lv 3 eI (wayK m j) :: boxC g 3 [I k] :: L2)) (fun r _ => k - toN (r 7)) ?_ ?_
        · have fct := (And.intro @q0 (And.intro @q1 (And.intro @q15 @q16))); exact ⟨0, _, .inl rfl, by exact sf, by exact sf, by exact sf, by exact sf, by exact sf, by exact sf, by exact sf, hS⟩
        · clear hS q0 q1 q15 q16
          rintro u2 w2 ⟨j, lv, hj, q0, q1, q15, q16, q5, q6, q7, hS⟩ ih2
          have hm2 : toN (u2 7) = j + 1 := by rw [q7]; simp [toN] <;> omega
          have hwl := wayK_len m j
          have hdv : m / 2 ^ j ≤ 32768 := Nat.le_trans (Nat.div_le_self _ _) (by omega)
          have hws : wayK m (j + 1) = if (m / 2 ^ j) % 2 = 1 then wayK m j ++ [(j : Int) + 1] else wayK m j := rfl
          obtain ⟨q, hq⟩ : ∃ q, m / 2 ^ j = q := ⟨_, rfl⟩
          rw [hq] at hdv hws
          by_cases hlj : (j : Int) + 1 < k
          · by_cases hb1 : q % 2 = 1
            · rw [if_pos hb1] at hws
              (have fct := (And.intro @q0 (And.intro @q1 (And.intro @q15 (And.intro @q16 (And.intro @q5 (And.intro @q6 @q7)))))); repeat' (first | ((with_reducible apply G.a); exact rfl) | (refine G.regyk 2 (⟨none, some 36, _⟩) (by rfl) fun K1 K hK hK1 => ?_; simp only [List.take_succ_cons, List.take_zero, List.drop_succ_cons, List.drop_zero] at hK1 ⊢) | refine G.reg fun K hK => ?_ | (with_reducible (refine hK _ _ ?_); clear hK K) | (have hk := hK; clear hk; simp (disch := first | exact dis | fail) only [push_cast, ↓reduceIte, Nat.reduceAdd, Nat.reduceLeDiff, Nat.reduceEqDiff, Nat.reduceLT, Int.reduceToNat, fct]) | (refine zbsl ?_; intro gb wb hS) | (refine zcv ?_) | (refine zshr m j hq ?_) | (refine zand1 q 1 ?_) | (refine zap (y := (j : Int) + 1) ?_ (hy := by rfl); intro vb wb hS) | (refine G.cn ?_ ?_ <;> intro hc <;> first | (with_reducible exact False.elim hc) | (exfalso; omega) | skip))) <;> (try clear fct)
              all_goals
                have fct := (And.intro @q0 (And.intro @q1 (And.intro @q15 (And.intro @q16 (And.intro @q5 (And.intro @q6 @q7)))))); refine ih2 _ _ ⟨j + 1, _, .inr (by omega), by exact sf, by exact sf, by exact sf, by exact sf, by exact sf, by exact sf, by exact sf, by rw [hws]; exact hS⟩ ?_
                rw [hm2]; simp only [push_cast, ↓reduceIte, Nat.reduceAdd, Nat.reduceLeDiff, Nat.reduceEqDiff, Nat.reduceLT, Int.reduceToNat, toN_i, q0, q1, q15, q16, q5, q6, q7]; omega
            · rw [if_neg hb1] at hws
              have hb0 : q % 2 = 0 := by omega
              (have fct := (And.intro @q0 (And.intro @q1 (And.intro @q15 (And.intro @q16 (And.intro @q5 (And.intro @q6 @q7)))))); repeat' (first | ((with_reducible apply G.a); exact rfl) | (refine G.regyk 2 (⟨none, some 36, _⟩) (by rfl) fun K1 K hK hK1 => ?_; simp only [List.take_succ_cons, List.take_zero, List.drop_succ_cons, List.drop_zero] at hK1 ⊢) | refine G.reg fun K hK => ?_ | (with_reducible (refine hK _ _ ?_); clear hK K) | (have hk := hK; clear hk; simp (disch := first | exact dis | fail) only [push_cast, ↓reduceIte, Nat.reduceAdd, Nat.reduceLeDiff, Nat.reduceEqDiff, Nat.reduceLT, Int.reduceToNat, fct]) | (refine zbsl ?_; intro gb wb hS) | (refine zcv ?_) | (refine zshr m j hq ?_) | (refine zand1 q 0 ?_) | (refine G.cn ?_ ?_ <;> intro hc <;> first | (with_reducible exact False.elim hc) | (exfalso; omega) | skip))) <;> (try clear fct)
              all_goals
                have fct := (And.intro @q0 (And.intro @q1 (And.intro @q15 (And.intro @q16 (And.intro @q5 (And.intro @q6 @q7)))))); refine ih2 _ _ ⟨j + 1, _, .inr (by omega), by exact sf, by exact sf, by exact sf, by exact sf, by exact sf, by exact sf, by exact sf, by rw [hws]; exact hS⟩ ?_
                rw [hm2]; simp only [push_cast, ↓reduceIte, Nat.reduceAdd, Nat.reduceLeDiff, Nat.reduceEqDiff, Nat.reduceLT, Int.reduceToNat, toN_i, q0, q1, q15, q16, q5, q6, q7]; omega
          · have ew : wayK m j = wayN k m := by unfold wayN; congr 1; omega
            rw [ew] at hS
            cases hg : go (m + 1)
            · (have fct := (And.intro @q0 (And.intro @q1 (And.intro @q15 (And.intro @q16 (And.intro @q5 (And.intro @q6 (And.intro @q7 @hg))))))); repeat' (first | ((with_reducible apply G.a); exact rfl) | (refine G.regyk 2 (⟨none, some 36, _⟩) (by rfl) fun K1 K hK hK1 => ?_; simp only [List.take_succ_cons, List.take_zero, List.drop_succ_cons, List.drop_zero] at hK1 ⊢) | refine G.reg fun K hK => ?_ | (with_reducible (refine hK _ _ ?_); clear hK K) | (have hk := hK; clear hk; simp (disch := first | exact dis | fail) only [push_cast, ↓reduceIte, Nat.reduceAdd, Nat.reduceLeDiff, Nat.reduceEqDiff, Nat.reduceLT, Int.reduceToNat, fct]) | (refine zbsl ?_; intro gb wb hS) | (refine zcv ?_) | (with_reducible (refine hK1 _ _ ?_); clear hK1 K1) | (refine yc_no ?_ (by (first | (simp (disch := first | exact dis | fail) only [push_cast, ↓reduceIte, Nat.reduceAdd, Nat.reduceLeDiff, Nat.reduceEqDiff, Nat.reduceLT, Int.reduceToNat, List.map_cons, List.map_nil, gF, wantF, fct] <;> rfl) | fail))) | (refine yc_yes ?_ (by (first | (simp (disch := first | exact dis | fail) only [push_cast, ↓reduceIte, Nat.reduceAdd, Nat.reduceLeDiff, Nat.reduceEqDiff, Nat.reduceLT, Int.reduceToNat, List.map_cons, List.map_nil, gF, wantF, fct] <;> rfl) | fail)); (simp (disch := first | exact dis | fail) only [push_cast, ↓reduceIte, Nat.reduceAdd, Nat.reduceLeDiff, Nat.reduceEqDiff, Nat.reduceLT, Int.reduceToNat, List.map_cons, List.map_nil, gF, wantF, fct]); refine hT.ok (M := [boxC g 3 [I k]]) hL hlt hgo (by first | (exact Sep.sub (by assumption) (by repeat first | exact Sub.rfl' | exact Sub.n | exact Sub.nil0 | (refine Sub.c (by repeat constructor) ?_) | refine Sub.skip ?_)) | fail) ?_; intro wb L3 hL3 hS; simp only [apps] at hS) | fail | (refine G.cn ?_ ?_ <;> intro hc <;> first | (with_reducible exact False.elim hc) | (exfalso; omega) | skip))) <;> (try clear fct)
              all_goals
                (have fct := (And.intro @q0 (And.intro @q1 (And.intro @q15 (And.intro @q16 (And.intro @q5 (And.intro @q6 @q7)))))); (first | refine G.r1 ?_ | refine G.r2 ?_ | refine G.r3 ?_ | refine G.r0 ?_ | refine G.d0 ?_); (try simp (disch := first | exact dis | fail) only [push_cast, ↓reduceIte, Nat.reduceAdd, Nat.reduceLeDiff, Nat.reduceEqDiff, Nat.reduceLT, Int.reduceToNat, fct]); (try clear fct))
                exact ⟨m + 1, L3, ⟨by omega, .inr ⟨by omega, hg⟩, fun i h1 h2 => hgo i h1 (by omega)⟩, hL3, hS⟩
            · have hgo2 : ∀ i, 0 < i → i ≤ m + 1 → go i = true := fun i h1 h2 => by
                rcases (by omega : i ≤ m ∨ i = m + 1) with h | rfl
                · exact hgo i h1 h
                · exact hg
              (have fct := (And.intro @q0 (And.intro @q1 (And.intro @q15 (And.intro @q16 (And.intro @q5 (And.intro @q6 (And.intro @q7 @hg))))))); repeat' (first | ((with_reducible apply G.a); exact rfl) | (refine G.regyk 2 (⟨none, some 36, _⟩) (by rfl) fun K1 K hK hK1 => ?_; simp only [List.take_succ_cons, List.take_zero, List.drop_succ_cons, List.drop_zero] at hK1 ⊢) | refine G.reg fun K hK => ?_ | (with_reducible (refine hK _ _ ?_); clear hK K) | (have hk := hK; clear hk; simp (disch := first | exact dis | fail) only [push_cast, ↓reduceIte, Nat.reduceAdd, Nat.reduceLeDiff, Nat.reduceEqDiff, Nat.reduceLT, Int.reduceToNat, fct]) | (refine zbsl ?_; intro gb wb hS) | (refine zcv ?_) | (with_reducible (refine hK1 _ _ ?_); clear hK1 K1) | (refine yc_no ?_ (by (first | (simp (disch := first | exact dis | fail) only [push_cast, ↓reduceIte, Nat.reduceAdd, Nat.reduceLeDiff, Nat.reduceEqDiff, Nat.reduceLT, Int.reduceToNat, List.map_cons, List.map_nil, gF, wantF, fct] <;> rfl) | fail))) | (refine yc_yes ?_ (by (first | (simp (disch := first | exact dis | fail) only [push_cast, ↓reduceIte, Nat.reduceAdd, Nat.reduceLeDiff, Nat.reduceEqDiff, Nat.reduceLT, Int.reduceToNat, List.map_cons, List.map_nil, gF, wantF, fct] <;> rfl) | fail)); (simp (disch := first | exact dis | fail) only [push_cast, ↓reduceIte, Nat.reduceAdd, Nat.reduceLeDiff, Nat.reduceEqDiff, Nat.reduceLT, Int.reduceToNat, List.map_cons, List.map_nil, gF, wantF, fct]); refine hT.ok (M := [boxC g 3 [I k]]) hL hlt hgo (by first | (exact Sep.sub (by assumption) (by repeat first | exact Sub.rfl' | exact Sub.n | exact Sub.nil0 | (refine Sub.c (by repeat constructor) ?_) | refine Sub.skip ?_)) | fail) ?_; intro wb L3 hL3 hS; simp only [apps] at hS) | fail | (refine G.cn ?_ ?_ <;> intro hc <;> first | (with_reducible exact False.elim hc) | (exfalso; omega) | skip))) <;> (try clear fct)
              all_goals
                have fct := (And.intro @q0 (And.intro @q1 (And.intro @q15 (And.intro @q16 (And.intro @q5 (And.intro @q6 @q7)))))); refine ih _ _ ⟨m + 1, L3, by omega, hgo2, hL3, by exact sf, by exact sf, by exact sf, by exact sf, hS⟩ ?_
                rw [hm]; simp only [push_cast, ↓reduceIte, Nat.reduceAdd, Nat.reduceLeDiff, Nat.reduceEqDiff, Nat.reduceLT, Int.reduceToNat, toN_i, q0, q1, q15, q16, q5, q6, q7]; omega
      · have e : m = N := by omega
        subst e
        (have fct := (And.intro @q0 (And.intro @q1 (And.intro @q15 @q16))); repeat' (first | ((with_reducible apply G.a); exact rfl) | (refine G.regyk 2 (⟨none, some 36, _⟩) (by rfl) fun K1 K hK hK1 => ?_; simp only [List.take_succ_cons, List.take_zero, List.drop_succ_cons, List.drop_zero] at hK1 ⊢) | refine G.reg fun K hK => ?_ | (with_reducible (refine hK _ _ ?_); clear hK K) | (have hk := hK; clear hk; simp (disch := first | exact dis | fail) only [push_cast, ↓reduceIte, Nat.reduceAdd, Nat.reduceLeDiff, Nat.reduceEqDiff, Nat.reduceLT, Int.reduceToNat, fct]) | (refine zbsl ?_; intro gb wb hS) | (refine zcv ?_) | (refine G.cn ?_ ?_ <;> intro hc <;> first | (with_reducible exact False.elim hc) | (exfalso; omega) | skip))) <;> (try clear fct)
        all_goals
          (have fct := (And.intro @q0 (And.intro @q1 (And.intro @q15 @q16))); (first | refine G.r1 ?_ | refine G.r2 ?_ | refine G.r3 ?_ | refine G.r0 ?_ | refine G.d0 ?_); (try simp (disch := first | exact dis | fail) only [push_cast, ↓reduceIte, Nat.reduceAdd, Nat.reduceLeDiff, Nat.reduceEqDiff, Nat.reduceLT, Int.reduceToNat, fct]); (try clear fct))
          exact ⟨m, L2, ⟨Nat.le_refl _, .inl rfl, fun i h1 h2 => hgo i h1 (by omega)⟩, hL, hS⟩
end Go.Proofs.Ytcglgnbeliljoaa
