/- Texts of the proof, joined. -/
import Derived.Test.YtcglgnbeliljoaawW15
import Derived.Test.YtcglgnbeliljoaawOs
namespace Go.Proofs.Ytcglgnbeliljoaa
set_option linter.unusedSimpArgs false
set_option linter.unusedVariables false
attribute [local irreducible] SemK UnitK StK AlcK BslK CallK CallV Instr.box Builtin.append_ Instr.makeSlice Instr.makeMap Instr.lookup Instr.mapUpdate Instr.sliceAt convert
open Go.RowKit
section
variable {v : Value} {w : World} {sz : List Int} {s : Str}
def c15l1 : MC := (.seq (.reg [qq 18 (.bin .lss (.tmp 17) (.tmp 16))]) (.seq (.cond (.tmp 18) .skip (.exit 0)) (.seq (.blk 1 (.seq (.reg [qq 19 (.adr 1 (.tmp 15) (.tmp 17)), qq 20 (.ld none (.tmp 19)), qm 7 20]) (.reg [qm 21 5, qm 22 7, qq 23 (.raw (.call ⟨(.builtin .max), #[(.tmp 22), (ki 0)], #[3, 3]⟩) 3), qm 24 0, qq 25 (.lenS (.tmp 24)), qq 26 (.raw (.call ⟨(.builtin .min), #[(.tmp 23), (.tmp 25)], #[3, 3]⟩) 3), qq 27 (.bsl 3 [(.int .i64 0)] 1 [⟨0, ⟨1, (.tmp 26)⟩⟩]), qq 28 (.raw (.call ⟨(.builtin .append), #[(.tmp 21), (.tmp 27)], #[30, 30]⟩) 30), qm 5 28]))) (.reg [qq 29 (.bin .add (.tmp 17) (ki 1)), qm 17 29]))))
def c15l2 : MC := (.seq (.reg [qq 35 (.bin .lss (.tmp 34) (.tmp 33))]) (.seq (.cond (.tmp 35) .skip (.exit 2)) (.seq (.blk 3 (.seq (.reg [qq 36 (.adr 1 (.tmp 32) (.tmp 34)), qq 37 (.ld none (.tmp 36)), qm 11 37]) (.seq (.reg [qm 38 8, qm 39 0, qm 40 9, qm 41 11, qq 42 (.slS (.tmp 39) (.some (.tmp 40)) (.some (.tmp 41))), qq 43 (.bsl 9 [(S [])] 1 [⟨0, ⟨1, (.tmp 42)⟩⟩]), qq 44 (.raw (.call ⟨(.builtin .append), #[(.tmp 38), (.tmp 43)], #[37, 37]⟩) 37), qm 8 44]) (.reg [qm 45 11, qm 9 45])))) (.reg [qq 46 (.bin .add (.tmp 34) (ki 1)), qm 34 46]))))
def c15 : MC := (.seq (.reg [qq 4 (.mv (.const (.slice none 0 0)))]) (.seq (.reg [qm 12 1, qq 13 (.len (.tmp 12)), qq 14 (.raw (.makeSlice 30 (ki 0) (.tmp 13)) 30), qm 5 14]) (.seq (.seq (.reg [qm 15 1, qq 16 (.len (.tmp 15)), qq 17 (.mv (ki 0))]) (.blk 0 (.loop c15l1))) (.seq (.reg [qm 30 5, qq 31 (.call 19 [(.tmp 30)])]) (.seq (.reg [qq 8 (.mv (.const (.slice none 0 0)))]) (.seq (.reg [qq 9 (.mv (ki 0))]) (.seq (.seq (.reg [qm 32 5, qq 33 (.len (.tmp 32)), qq 34 (.mv (ki 0))]) (.blk 2 (.loop c15l2))) (.seq (.reg [qm 47 8, qm 48 0, qm 49 9, qq 50 (.slS (.tmp 48) (.some (.tmp 49)) none), qq 51 (.bsl 9 [(S [])] 1 [⟨0, ⟨1, (.tmp 50)⟩⟩]), qq 52 (.raw (.call ⟨(.builtin .append), #[(.tmp 47), (.tmp 51)], #[37, 37]⟩) 37), qm 4 52]) .ret))))))))
theorem k15 : conv Try.prog 53 (Try.f15.body.getD .skip) = c15 := by kernel_rfl
theorem in15 {a0 a1 : Value} {w : World} {R : Value → World → Prop} (h : G Try.prog Try.f15 53 [.c c15] R (frL 0 [a0, a1]) w) : Ret Try.prog 15 #[a0, a1] w R := G.enter (args := [a0, a1]) Try.func15 (c := Try.f15.body.getD .skip) (by kernel_rfl) (by kernel_rfl) (by simp) k15 h
set_option maxHeartbeats 1000000 in
theorem at_spec7 (hr : Rd w eI v sz) (hs : s.length ≤ 100000) (hl : sz.length ≤ 1000) : Ret Try.prog 15 #[S s, v] w fun res w' => Sep w w' [accC res 9 eS (atP s sz)] := by
  refine in15 ?_
  have hS := Sep.start w
  repeat' (first | ((with_reducible apply G.a); exact rfl) | refine G.reg fun K hK => ?_ | (with_reducible (refine hK _ _ ?_); clear hK K) | (have hk := hK; clear hk; simp (disch := first | exact dis | fail) only [push_cast, ↓reduceIte, Nat.reduceAdd, Nat.reduceLeDiff, Nat.reduceEqDiff, Nat.reduceLT, Int.reduceToNat, fct]) | (refine zbsl ?_; intro gb wb hS) | (refine zmk eI 0 ?_; intro vb wb hS) | (refine G.cn ?_ ?_ <;> intro hc <;> first | (with_reducible exact False.elim hc) | (exfalso; omega) | skip))
  refine G.loop (fun r w' => ∃ (k : Nat) (lv : Value), k ≤ sz.length ∧ r 0 = S s ∧ r 5 = lv ∧ r 15 = v ∧ r 16 = I sz.length ∧ r 17 = I k ∧ Sep w w' [accC lv 3 eI ((heldL sz s.length).take k)]) (fun r _ => sz.length - toN (r 17)) ?_ ?_
  · exact ⟨0, _, Nat.zero_le _, by exact sf, by exact sf, by exact sf, by exact sf, by exact sf, hS⟩
  · clear hS
    rintro u wl ⟨k, lv, hk, q0, q5, q15, q16, q17, hS⟩ ih
    have hm : toN (u 17) = k := by rw [q17]; simp [toN]
    have hhl := heldL_len sz s.length
    have htl : ((heldL sz s.length).take k).length = k := by simp [hhl]; omega
    by_cases hkk : (k : Int) < sz.length
    · have hmm := held_mm (sz.getD k default) s.length (by omega)
      have hsn := heldL_snoc sz s.length k hkk
      (have fct := (And.intro @q0 (And.intro @q5 (And.intro @q15 (And.intro @q16 (And.intro @q17 @hmm))))); repeat' (first | ((with_reducible apply G.a); exact rfl) | refine G.reg fun K hK => ?_ | (with_reducible (refine hK _ _ ?_); clear hK K) | (have hk := hK; clear hk; simp (disch := first | exact dis | fail) only [push_cast, ↓reduceIte, Nat.reduceAdd, Nat.reduceLeDiff, Nat.reduceEqDiff, Nat.reduceLT, Int.reduceToNat, fct]) | (refine zbsl ?_; intro gb wb hS) | (refine zap (y := heldI (sz.getD k default) s.length) ?_ (hy := by rfl); intro vb wb hS) | (refine G.cn ?_ ?_ <;> intro hc <;> first | (with_reducible exact False.elim hc) | (exfalso; omega) | skip))) <;> (try clear fct)
      all_goals
        have fct := (And.intro @q0 (And.intro @q5 (And.intro @q15 (And.intro @q16 @q17)))); refine ih _ _ ⟨k + 1, _, by omega, by exact sf, by exact sf, by exact sf, by exact sf, by exact sf, by rw [hsn]; exact hS⟩ ?_
        rw [hm]; simp only [push_cast, ↓reduceIte, Nat.reduceAdd, Nat.reduceLeDiff, Nat.reduceEqDiff, Nat.reduceLT, Int.reduceToNat, toN_i, q0, q5, q15, q16, q17]; omega
    · have hta : (heldL sz s.length).take k = heldL sz s.length := List.take_of_length_le (by omega)
      rw [hta] at hS htl
      have hsl := srt_len (heldL sz s.length)
      have hbd := srt_bd (heldL_bd (sz := sz) (n := s.length) (by omega))
      have hup := srt_up (heldL sz s.length)
      (have fct := (And.intro @q0 (And.intro @q5 (And.intro @q15 (And.intro @q16 (And.intro @q17 (And.intro @hsl @hhl)))))); repeat' (first | ((with_reducible apply G.a); exact rfl) | refine G.reg fun K hK => ?_ | (with_reducible (refine hK _ _ ?_); clear hK K) | (have hk := hK; clear hk; simp (disch := first | exact dis | fail) only [push_cast, ↓reduceIte, Nat.reduceAdd, Nat.reduceLeDiff, Nat.reduceEqDiff, Nat.reduceLT, Int.reduceToNat, fct]) | (refine zbsl ?_; intro gb wb hS) | ((with_reducible (show CallK _ 19 _ _ _ _ _)); refine sortK hS (by repeat constructor) (by omega) ?_; intro wb hS) | (refine G.cn ?_ ?_ <;> intro hc <;> first | (with_reducible exact False.elim hc) | (exfalso; omega) | skip))) <;> (try clear fct)
      have e0 : atP s sz = cutL s 0 (srt (heldL sz s.length)) ++ [s.drop (lastI 0 (srt (heldL sz s.length))).toNat] := rfl
      generalize srt (heldL sz s.length) = hs at *
      have hS := hS.nil 9 eS
      refine G.loop (fun r w' => ∃ (k : Nat) (l2 : Value), k ≤ hs.length ∧ r 0 = S s ∧ r 8 = l2 ∧ r 9 = I (lastI 0 (hs.take k)) ∧ r 32 = lv ∧ r 33 = I hs.length ∧ r 34 = I k ∧ Sep w w' [accC l2 9 eS (cutL s 0 (hs.take k)), accC lv 3 eI hs]) (fun r _ => hs.length - toN (r 34)) ?_ ?_
      · have fct := (And.intro @q0 (And.intro @q5 (And.intro @q15 (And.intro @q16 (And.intro @q17 (And.intro @hsl @hhl)))))); exact ⟨0, _, Nat.zero_le _, by exact sf, by exact sf, by exact sf, by exact sf, by exact sf, by exact sf, hS⟩
      · clear hS q0 q5 q15 q16 q17 hkk hk hm htl
        rintro u wl ⟨k, l2, hk, q0, q8, q9, q32, q33, q34, hS⟩ ih
        have hm : toN (u 34) = k := by rw [q34]; simp [toN]
        have hcl := cutL_len s (hs.take k) 0
        have htl : (hs.take k).length = k := by simp; omega
        by_cases hkk : (k : Int) < hs.length
        · obtain ⟨g1, g2, g3⟩ := up_at (by omega) hbd hup k hkk
          obtain ⟨c1, c2⟩ := cut_snoc s hs k hkk
          (have fct := (And.intro @q0 (And.intro @q8 (And.intro @q9 (And.intro @q32 (And.intro @q33 @q34))))); repeat' (first | ((with_reducible apply G.a); exact rfl) | refine G.reg fun K hK => ?_ | (with_reducible (refine hK _ _ ?_); clear hK K) | (have hk := hK; clear hk; simp (disch := first | exact dis | fail) only [push_cast, ↓reduceIte, Nat.reduceAdd, Nat.reduceLeDiff, Nat.reduceEqDiff, Nat.reduceLT, Int.reduceToNat, fct]) | (refine zbsl ?_; intro gb wb hS) | (refine zap (y := (s.drop (lastI 0 (hs.take k)).toNat).take ((hs.getD k default).toNat - (lastI 0 (hs.take k)).toNat)) ?_ (hy := by rfl); intro vb wb hS) | (refine G.cn ?_ ?_ <;> intro hc <;> first | (with_reducible exact False.elim hc) | (exfalso; omega) | skip))) <;> (try clear fct)
          all_goals
            have fct := (And.intro @q0 (And.intro @q8 (And.intro @q9 (And.intro @q32 (And.intro @q33 @q34))))); refine ih _ _ ⟨k + 1, _, by omega, by exact sf, by exact sf, by rw [c2]; simp only [push_cast, ↓reduceIte, Nat.reduceAdd, Nat.reduceLeDiff, Nat.reduceEqDiff, Nat.reduceLT, Int.reduceToNat, q0, q8, q9, q32, q33, q34], by exact sf, by exact sf, by exact sf, by rw [c1]; exact hS⟩ ?_
            rw [hm]; simp only [push_cast, ↓reduceIte, Nat.reduceAdd, Nat.reduceLeDiff, Nat.reduceEqDiff, Nat.reduceLT, Int.reduceToNat, toN_i, q0, q8, q9, q32, q33, q34]; omega
        · have hta : hs.take k = hs := List.take_of_length_le (by omega)
          rw [hta] at hS q9 hcl
          have hli := upI_last (upI_of (by omega) hbd hup)
          (have fct := (And.intro @q0 (And.intro @q8 (And.intro @q9 (And.intro @q32 (And.intro @q33 @q34))))); repeat' (first | ((with_reducible apply G.a); exact rfl) | refine G.reg fun K hK => ?_ | (with_reducible (refine hK _ _ ?_); clear hK K) | (have hk := hK; clear hk; simp (disch := first | exact dis | fail) only [push_cast, ↓reduceIte, Nat.reduceAdd, Nat.reduceLeDiff, Nat.reduceEqDiff, Nat.reduceLT, Int.reduceToNat, fct]) | (refine zbsl ?_; intro gb wb hS) | (refine zap (y := s.drop (lastI 0 hs).toNat) ?_ (hy := by rfl); intro vb wb hS) | (refine G.cn ?_ ?_ <;> intro hc <;> first | (with_reducible exact False.elim hc) | (exfalso; omega) | skip))) <;> (try clear fct)
          all_goals
            (have fct := (And.intro @q0 (And.intro @q8 (And.intro @q9 (And.intro @q32 (And.intro @q33 @q34))))); (first | refine G.r1 ?_ | refine G.r2 ?_ | refine G.r3 ?_ | refine G.r0 ?_ | refine G.d0 ?_); (try simp (disch := first | exact dis | fail) only [push_cast, ↓reduceIte, Nat.reduceAdd, Nat.reduceLeDiff, Nat.reduceEqDiff, Nat.reduceLT, Int.reduceToNat, fct]); (try clear fct))
            rw [e0]
            exact (Sep.sub hS (by repeat first | exact Sub.rfl' | exact Sub.n | (refine Sub.c (by repeat constructor) ?_) | refine Sub.skip ?_))
def mesL : Value → Nat | .slice _ n _ => n | _ => 0
theorem mesL_rd {α : Type} {E : Enc α} {v : Value} {xs : List α} {w : World} (h : Rd w E v xs) : mesL v = xs.length := by obtain ⟨p, cap, rfl, _⟩ := h; rfl
def c12l1 : MC := (.seq (.reg [qq 17 (.bin .lss (.tmp 16) (.tmp 15))]) (.seq (.cond (.tmp 17) .skip (.exit 0)) (.seq (.blk 1 (.seq (.reg [qq 18 (.adr 1 (.tmp 14) (.tmp 16)), qq 19 (.ld none (.tmp 18)), qm 7 19]) (.reg [qm 20 5, qm 21 7, qm 22 0, qq 23 (.lenS (.tmp 22)), qq 24 (.call 18 [(.tmp 21), (.tmp 23)]), qq 25 (.bsl 3 [(.int .i64 0)] 1 [⟨0, ⟨1, (.tmp 24)⟩⟩]), qq 26 (.raw (.call ⟨(.builtin .append), #[(.tmp 20), (.tmp 25)], #[30, 30]⟩) 30), qm 5 26]))) (.reg [qq 27 (.bin .add (.tmp 16) (ki 1)), qm 16 27]))))
def c12l2 : MC := (.seq (.reg [qq 34 (.bin .lss (.tmp 33) (.tmp 32))]) (.seq (.cond (.tmp 34) .skip (.exit 4)) (.seq (.blk 5 (.seq (.reg [qm 35 33, qm 11 35]) (.seq (.drg [qm 36 5, qm 37 11, qq 38 (.adr 1 (.tmp 36) (.tmp 37)), qq 39 (.ld none (.tmp 38)), qm 40 5, qm 41 10, qq 42 (.adr 1 (.tmp 40) (.tmp 41)), qq 43 (.ld none (.tmp 42)), qq 44 (.bin .lss (.tmp 39) (.tmp 43))] none) (.cond (.tmp 44) (.reg [qm 45 11, qm 10 45]) .skip)))) (.reg [qq 46 (.bin .add (.tmp 33) (ki 1)), qm 33 46]))))
def c12l3 : MC := (.seq (.reg [qq 64 (.bin .lss (.tmp 63) (.tmp 62))]) (.seq (.cond (.tmp 64) .skip (.exit 6)) (.seq (.blk 7 (.seq (.reg [qm 65 63, qm 13 65]) (.seq (.reg [qm 66 13, qm 67 10, qq 68 (.bin .neq (.tmp 66) (.tmp 67))]) (.cond (.tmp 68) (.reg [qm 69 12, qm 70 5, qm 71 13, qq 72 (.adr 1 (.tmp 70) (.tmp 71)), qq 73 (.ld none (.tmp 72)), qq 74 (.bsl 3 [(.int .i64 0)] 1 [⟨0, ⟨1, (.tmp 73)⟩⟩]), qq 75 (.raw (.call ⟨(.builtin .append), #[(.tmp 69), (.tmp 74)], #[30, 30]⟩) 30), qm 12 75]) .skip)))) (.reg [qq 76 (.bin .add (.tmp 63) (ki 1)), qm 63 76]))))
def c12l4 : MC := (.seq (.seq (.reg [qm 28 5, qq 29 (.len (.tmp 28)), qq 30 (.bin .gtr (.tmp 29) (ki 0))]) (.cond (.tmp 30) .skip (.exit 2))) (.blk 3 (.seq (.reg [qq 10 (.mv (ki 0))]) (.seq (.seq (.reg [qm 31 5, qq 32 (.len (.tmp 31)), qq 33 (.mv (ki 0))]) (.blk 4 (.loop c12l2))) (.seq (.reg [qm 47 8, qm 48 0, qm 49 9, qm 50 5, qm 51 10, qq 52 (.adr 1 (.tmp 50) (.tmp 51)), qq 53 (.ld none (.tmp 52)), qq 54 (.slS (.tmp 48) (.some (.tmp 49)) (.some (.tmp 53))), qq 55 (.bsl 9 [(S [])] 1 [⟨0, ⟨1, (.tmp 54)⟩⟩]), qq 56 (.raw (.call ⟨(.builtin .append), #[(.tmp 47), (.tmp 55)], #[37, 37]⟩) 37), qm 8 56]) (.seq (.reg [qm 57 5, qm 58 10, qq 59 (.adr 1 (.tmp 57) (.tmp 58)), qq 60 (.ld none (.tmp 59)), qm 9 60]) (.seq (.reg [qq 12 (.mv (.const (.slice none 0 0)))]) (.seq (.seq (.reg [qm 61 5, qq 62 (.len (.tmp 61)), qq 63 (.mv (ki 0))]) (.blk 6 (.loop c12l3))) (.reg [qm 77 12, qm 5 77])))))))))
def c12 : MC := (.seq (.reg [qq 4 (.mv (.const (.slice none 0 0)))]) (.seq (.reg [qq 5 (.mv (.const (.slice none 0 0)))]) (.seq (.seq (.reg [qm 14 1, qq 15 (.len (.tmp 14)), qq 16 (.mv (ki 0))]) (.blk 0 (.loop c12l1))) (.seq (.reg [qq 8 (.mv (.const (.slice none 0 0)))]) (.seq (.reg [qq 9 (.mv (ki 0))]) (.seq (.blk 2 (.loop c12l4)) (.seq (.reg [qm 78 8, qm 79 0, qm 80 9, qq 81 (.slS (.tmp 79) (.some (.tmp 80)) none), qq 82 (.bsl 9 [(S [])] 1 [⟨0, ⟨1, (.tmp 81)⟩⟩]), qq 83 (.raw (.call ⟨(.builtin .append), #[(.tmp 78), (.tmp 82)], #[37, 37]⟩) 37), qm 4 83]) .ret)))))))
theorem k12 : conv Try.prog 84 (Try.f12.body.getD .skip) = c12 := by kernel_rfl
theorem in12 {a0 a1 : Value} {w : World} {R : Value → World → Prop} (h : G Try.prog Try.f12 84 [.c c12] R (frL 0 [a0, a1]) w) : Ret Try.prog 12 #[a0, a1] w R := G.enter (args := [a0, a1]) Try.func12 (c := Try.f12.body.getD .skip) (by kernel_rfl) (by kernel_rfl) (by simp) k12 h
set_option maxHeartbeats 1000000 in
theorem rat7_spec (hr : Rd w eI v sz) (hs : s.length ≤ 100000) (hl : sz.length ≤ 1000) : Ret Try.prog 12 #[S s, v] w fun res w' => Sep w w' [accC res 9 eS (atP s sz)] := by
  refine in12 ?_
  have hS := Sep.start w
  repeat' (first | ((with_reducible apply G.a); exact rfl) | refine G.reg fun K hK => ?_ | (with_reducible (refine hK _ _ ?_); clear hK K) | (with_reducible (refine hK _ ?_); clear hK K; intro wd hxd; have hS := Sep.xx hxd) | (have hk := hK; clear hk; simp (disch := first | exact dis | fail) only [push_cast, ↓reduceIte, Nat.reduceAdd, Nat.reduceLeDiff, Nat.reduceEqDiff, Nat.reduceLT, Int.reduceToNat, fct]) | (refine zbsl ?_; intro gb wb hS) | (refine G.drt mixed fun K hK wd hxd => ?_; have hS := Sep.xx hxd) | refine G.drg mixed fun K hK => ?_ | (refine G.cn ?_ ?_ <;> intro hc <;> first | (with_reducible exact False.elim hc) | (exfalso; omega) | skip))
  have hS := hS.nil 3 eI
  refine G.loop (fun r w' => ∃ (k : Nat) (lv : Value), k ≤ sz.length ∧ r 0 = S s ∧ r 5 = lv ∧ r 14 = v ∧ r 15 = I sz.length ∧ r 16 = I k ∧ Sep w w' [accC lv 3 eI ((heldL sz s.length).take k)]) (fun r _ => sz.length - toN (r 16)) ?_ ?_
  · exact ⟨0, _, Nat.zero_le _, by exact sf, by exact sf, by exact sf, by exact sf, by exact sf, hS⟩
  · clear hS
    rintro u wl ⟨k, lv, hk, q0, q5, q14, q15, q16, hS⟩ ih
    have hm : toN (u 16) = k := by rw [q16]; simp [toN]
    have hhl := heldL_len sz s.length
    have htl : ((heldL sz s.length).take k).length = k := by simp [hhl]; omega
    by_cases hkk : (k : Int) < sz.length
    · have hsn := heldL_snoc sz s.length k hkk
      (have fct := (And.intro @q0 (And.intro @q5 (And.intro @q14 (And.intro @q15 @q16)))); repeat' (first | ((with_reducible apply G.a); exact rfl) | refine G.reg fun K hK => ?_ | (with_reducible (refine hK _ _ ?_); clear hK K) | (with_reducible (refine hK _ ?_); clear hK K; intro wd hxd; have hS := Sep.xx hxd) | (have hk := hK; clear hk; simp (disch := first | exact dis | fail) only [push_cast, ↓reduceIte, Nat.reduceAdd, Nat.reduceLeDiff, Nat.reduceEqDiff, Nat.reduceLT, Int.reduceToNat, fct]) | (refine zbsl ?_; intro gb wb hS) | (refine zcp 18 (held_spec _ _ _) ?_; intro wb hS) | (refine zap (y := heldI (sz.getD k default) s.length) ?_ (hy := by rfl); intro vb wb hS) | (refine G.drt mixed fun K hK wd hxd => ?_; have hS := Sep.xx hxd) | refine G.drg mixed fun K hK => ?_ | (refine G.cn ?_ ?_ <;> intro hc <;> first | (with_reducible exact False.elim hc) | (exfalso; omega) | skip))) <;> (try clear fct)
      all_goals
        have fct := (And.intro @q0 (And.intro @q5 (And.intro @q14 (And.intro @q15 @q16)))); refine ih _ _ ⟨k + 1, _, by omega, by exact sf, by exact sf, by exact sf, by exact sf, by exact sf, by rw [hsn]; exact hS⟩ ?_
        rw [hm]; simp only [push_cast, ↓reduceIte, Nat.reduceAdd, Nat.reduceLeDiff, Nat.reduceEqDiff, Nat.reduceLT, Int.reduceToNat, toN_i, q0, q5, q14, q15, q16]; omega
    · have hta : (heldL sz s.length).take k = heldL sz s.length := List.take_of_length_le (by omega)
      rw [hta] at hS htl
      (have fct := (And.intro @q0 (And.intro @q5 (And.intro @q14 (And.intro @q15 @q16)))); repeat' (first | ((with_reducible apply G.a); exact rfl) | refine G.reg fun K hK => ?_ | (with_reducible (refine hK _ _ ?_); clear hK K) | (with_reducible (refine hK _ ?_); clear hK K; intro wd hxd; have hS := Sep.xx hxd) | (have hk := hK; clear hk; simp (disch := first | exact dis | fail) only [push_cast, ↓reduceIte, Nat.reduceAdd, Nat.reduceLeDiff, Nat.reduceEqDiff, Nat.reduceLT, Int.reduceToNat, fct]) | (refine zbsl ?_; intro gb wb hS) | (refine G.drt mixed fun K hK wd hxd => ?_; have hS := Sep.xx hxd) | refine G.drg mixed fun K hK => ?_ | (refine G.cn ?_ ?_ <;> intro hc <;> first | (with_reducible exact False.elim hc) | (exfalso; omega) | skip))) <;> (try clear fct)
      have e0 : atP s sz = cutL s 0 (srt (heldL sz s.length)) ++ [s.drop (lastI 0 (srt (heldL sz s.length))).toNat] := rfl
      have hbd := srt_bd (heldL_bd (sz := sz) (n := s.length) (by omega))
      have hup := srt_up (heldL sz s.length)
      have hsl := srt_len (heldL sz s.length)
      generalize heldL sz s.length = hd at *
      generalize hhs : srt hd = hs at *
      have hS := hS.nil 9 eS
      refine G.loop (fun r w' => ∃ (p : Nat) (left : List Int) (lv l2 : Value), p + left.length = hs.length ∧ srt left = hs.drop p ∧ r 0 = S s ∧ r 5 = lv ∧ r 8 = l2 ∧ r 9 = I (lastI 0 (hs.take p)) ∧ Sep w w' [accC l2 9 eS (cutL s 0 (hs.take p)), accC lv 3 eI left]) (fun r w' => mesL (r 5)) ?_ ?_
      · have fct := (And.intro @q0 (And.intro @q5 (And.intro @q14 (And.intro @q15 @q16)))); exact ⟨0, hd, _, _, by omega, by rw [hhs]; rfl, by exact sf, by exact sf, by exact sf, by exact sf, hS⟩
      · clear hS q0 q5 q14 q15 q16 hkk hk hm htl
        rintro u wl ⟨p, left, lv, l2, hp, hle, q0, q5, q8, q9, hS⟩ ih
        have hcl := cutL_len s (hs.take p) 0
        have htl : (hs.take p).length = p := by simp; omega
        have hmL := mesL_rd (Sep.rd (xs := left) (e := eI) hS (by repeat constructor))
        have hmLo := hmL
        by_cases hle0 : left.length = 0
        · have hlz : left = [] := List.eq_nil_of_length_eq_zero hle0
          have hph : hs.take p = hs := List.take_of_length_le (by omega)
          rw [hph] at hS q9 hcl
          have hli := upI_last (upI_of (by omega) hbd hup)
          (have fct := (And.intro @q0 (And.intro @q5 (And.intro @q8 @q9))); repeat' (first | ((with_reducible apply G.a); exact rfl) | refine G.reg fun K hK => ?_ | (with_reducible (refine hK _ _ ?_); clear hK K) | (with_reducible (refine hK _ ?_); clear hK K; intro wd hxd; have hS := Sep.xx hxd) | (have hk := hK; clear hk; simp (disch := first | exact dis | fail) only [push_cast, ↓reduceIte, Nat.reduceAdd, Nat.reduceLeDiff, Nat.reduceEqDiff, Nat.reduceLT, Int.reduceToNat, fct]) | (refine zbsl ?_; intro gb wb hS) | (refine zap (y := s.drop (lastI 0 hs).toNat) ?_ (hy := by rfl); intro vb wb hS) | (refine G.drt mixed fun K hK wd hxd => ?_; have hS := Sep.xx hxd) | refine G.drg mixed fun K hK => ?_ | (refine G.cn ?_ ?_ <;> intro hc <;> first | (with_reducible exact False.elim hc) | (exfalso; omega) | skip))) <;> (try clear fct)
          all_goals
            (have fct := (And.intro @q0 (And.intro @q5 (And.intro @q8 @q9))); (first | refine G.r1 ?_ | refine G.r2 ?_ | refine G.r3 ?_ | refine G.r0 ?_ | refine G.d0 ?_); (try simp (disch := first | exact dis | fail) only [push_cast, ↓reduceIte, Nat.reduceAdd, Nat.reduceLeDiff, Nat.reduceEqDiff, Nat.reduceLT, Int.reduceToNat, fct]); (try clear fct))
            rw [e0]
            exact (Sep.sub hS (by repeat first | exact Sub.rfl' | exact Sub.n | (refine Sub.c (by repeat constructor) ?_) | refine Sub.skip ?_))
        · have hpp : (p : Int) < hs.length := by omega
          obtain ⟨g1, g2, g3⟩ := up_at (by omega) hbd hup p hpp
          obtain ⟨c1, c2⟩ := cut_snoc s hs p hpp
          have hdp := dropD hs p hpp
          (have fct := (And.intro @q0 (And.intro @q5 (And.intro @q8 @q9))); repeat' (first | ((with_reducible apply G.a); exact rfl) | refine G.reg fun K hK => ?_ | (with_reducible (refine hK _ _ ?_); clear hK K) | (with_reducible (refine hK _ ?_); clear hK K; intro wd hxd; have hS := Sep.xx hxd) | (have hk := hK; clear hk; simp (disch := first | exact dis | fail) only [push_cast, ↓reduceIte, Nat.reduceAdd, Nat.reduceLeDiff, Nat.reduceEqDiff, Nat.reduceLT, Int.reduceToNat, fct]) | (refine zbsl ?_; intro gb wb hS) | (refine G.drt mixed fun K hK wd hxd => ?_; have hS := Sep.xx hxd) | refine G.drg mixed fun K hK => ?_ | (refine G.cn ?_ ?_ <;> intro hc <;> first | (with_reducible exact False.elim hc) | (exfalso; omega) | skip))) <;> (try clear fct)
          refine G.loop (fun r w' => ∃ (i k : Nat), i ≤ left.length ∧ LeastAt left i k ∧ r 0 = S s ∧ r 5 = lv ∧ r 8 = l2 ∧ r 9 = I (lastI 0 (hs.take p)) ∧ r 10 = I k ∧ r 32 = I left.length ∧ r 33 = I i ∧ Sep w w' [accC l2 9 eS (cutL s 0 (hs.take p)), accC lv 3 eI left]) (fun r _ => left.length - toN (r 33)) ?_ ?_
          · have fct := (And.intro @q0 (And.intro @q5 (And.intro @q8 @q9))); exact ⟨0, 0, Nat.zero_le _, ⟨by omega, Nat.le_refl _, by omega⟩, by exact sf, by exact sf, by exact sf, by exact sf, by exact sf, by exact sf, by exact sf, hS⟩
          · clear hS q0 q8 q9 hmL
            have q5' := q5; clear q5
            rintro u2 wl2 ⟨i, k, hi, hlst, q0, q5, q8, q9, q10, q32, q33, hS⟩ ih2
            have hm2 : toN (u2 33) = i := by rw [q33]; simp [toN]
            have hkl := hlst.1
            have hmL := mesL_rd (Sep.rd (xs := left) (e := eI) hS (by repeat constructor))
            by_cases hii : (i : Int) < left.length
            · by_cases hlt : left.getD i default < left.getD k default
              · (have fct := (And.intro @q0 (And.intro @q5 (And.intro @q8 (And.intro @q9 (And.intro @q10 (And.intro @q32 @q33)))))); repeat' (first | ((with_reducible apply G.a); exact rfl) | refine G.reg fun K hK => ?_ | (with_reducible (refine hK _ _ ?_); clear hK K) | (with_reducible (refine hK _ ?_); clear hK K; intro wd hxd; have hS := Sep.xx hxd) | (have hk := hK; clear hk; simp (disch := first | exact dis | fail) only [push_cast, ↓reduceIte, Nat.reduceAdd, Nat.reduceLeDiff, Nat.reduceEqDiff, Nat.reduceLT, Int.reduceToNat, fct]) | (refine zbsl ?_; intro gb wb hS) | (refine G.drt mixed fun K hK wd hxd => ?_; have hS := Sep.xx hxd) | refine G.drg mixed fun K hK => ?_ | (refine G.cn ?_ ?_ <;> intro hc <;> first | (with_reducible exact False.elim hc) | (exfalso; omega) | skip))) <;> (try clear fct)
                all_goals
                  have fct := (And.intro @q0 (And.intro @q5 (And.intro @q8 (And.intro @q9 (And.intro @q10 (And.intro @q32 @q33)))))); refine ih2 _ _ ⟨i + 1, i, by omega, ⟨by omega, by omega, fun j hj => ?_⟩, by exact sf, by exact sf, by exact sf, by exact sf, by exact sf, by exact sf, by exact sf, (Sep.sub hS (by repeat first | exact Sub.rfl' | exact Sub.n | (refine Sub.c (by repeat constructor) ?_) | refine Sub.skip ?_))⟩ ?_
                  · rcases Nat.lt_or_ge j i with h | h
                    · have := hlst.2.2 j h; omega
                    · rw [show j = i by omega]; exact Int.le_refl _
                  · rw [hm2]; simp only [push_cast, ↓reduceIte, Nat.reduceAdd, Nat.reduceLeDiff, Nat.reduceEqDiff, Nat.reduceLT, Int.reduceToNat, toN_i, q0, q5, q8, q9, q10, q32, q33]; omega
              · (have fct := (And.intro @q0 (And.intro @q5 (And.intro @q8 (And.intro @q9 (And.intro @q10 (And.intro @q32 @q33)))))); repeat' (first | ((with_reducible apply G.a); exact rfl) | refine G.reg fun K hK => ?_ | (with_reducible (refine hK _ _ ?_); clear hK K) | (with_reducible (refine hK _ ?_); clear hK K; intro wd hxd; have hS := Sep.xx hxd) | (have hk := hK; clear hk; simp (disch := first | exact dis | fail) only [push_cast, ↓reduceIte, Nat.reduceAdd, Nat.reduceLeDiff, Nat.reduceEqDiff, Nat.reduceLT, Int.reduceToNat, fct]) | (refine zbsl ?_; intro gb wb hS) | (refine G.drt mixed fun K hK wd hxd => ?_; have hS := Sep.xx hxd) | refine G.drg mixed fun K hK => ?_ | (refine G.cn ?_ ?_ <;> intro hc <;> first | (with_reducible exact False.elim hc) | (exfalso; omega) | skip))) <;> (try clear fct)
                all_goals
                  have fct := (And.intro @q0 (And.intro @q5 (And.intro @q8 (And.intro @q9 (And.intro @q10 (And.intro @q32 @q33)))))); refine ih2 _ _ ⟨i + 1, k, by omega, ⟨by omega, by have := hlst.2.1; omega, fun j hj => ?_⟩, by exact sf, by exact sf, by exact sf, by exact sf, by exact sf, by exact sf, by exact sf, (Sep.sub hS (by repeat first | exact Sub.rfl' | exact Sub.n | (refine Sub.c (by repeat constructor) ?_) | refine Sub.skip ?_))⟩ ?_
                  · rcases Nat.lt_or_ge j i with h | h
                    · exact hlst.2.2 j h
                    · rw [show j = i by omega]; omega
                  · rw [hm2]; simp only [push_cast, ↓reduceIte, Nat.reduceAdd, Nat.reduceLeDiff, Nat.reduceEqDiff, Nat.reduceLT, Int.reduceToNat, toN_i, q0, q5, q8, q9, q10, q32, q33]; omega
            · have hsl2 := srt_least left k hkl (hlst.all (by omega))
              rw [hle, hdp] at hsl2
              injection hsl2 with e1 e2
              rw [e1] at g2 g3 c1 c2
              (have fct := (And.intro @q0 (And.intro @q5 (And.intro @q8 (And.intro @q9 (And.intro @q10 (And.intro @q32 @q33)))))); repeat' (first | ((with_reducible apply G.a); exact rfl) | refine G.reg fun K hK => ?_ | (with_reducible (refine hK _ _ ?_); clear hK K) | (with_reducible (refine hK _ ?_); clear hK K; intro wd hxd; have hS := Sep.xx hxd) | (have hk := hK; clear hk; simp (disch := first | exact dis | fail) only [push_cast, ↓reduceIte, Nat.reduceAdd, Nat.reduceLeDiff, Nat.reduceEqDiff, Nat.reduceLT, Int.reduceToNat, fct]) | (refine zbsl ?_; intro gb wb hS) | (refine zap (y := (s.drop (lastI 0 (hs.take p)).toNat).take ((left.getD k default).toNat - (lastI 0 (hs.take p)).toNat)) ?_ (hy := by rfl); intro vb wb hS) | (refine G.drt mixed fun K hK wd hxd => ?_; have hS := Sep.xx hxd) | refine G.drg mixed fun K hK => ?_ | (refine G.cn ?_ ?_ <;> intro hc <;> first | (with_reducible exact False.elim hc) | (exfalso; omega) | skip))) <;> (try clear fct)
              rw [← c1] at hS
              have hS := hS.nil 3 eI
              refine G.loop (fun r w' => ∃ (i : Nat) (rv l3 : Value), i ≤ left.length ∧ r 0 = S s ∧ r 5 = lv ∧ r 8 = l3 ∧ r 9 = I (lastI 0 (hs.take (p + 1))) ∧ r 10 = I k ∧ r 12 = rv ∧ r 62 = I left.length ∧ r 63 = I i ∧ Sep w w' [accC rv 3 eI ((left.take i).eraseIdx k), accC l3 9 eS (cutL s 0 (hs.take (p + 1))), accC lv 3 eI left]) (fun r _ => left.length - toN (r 63)) ?_ ?_
              · have fct := (And.intro @q0 (And.intro @q5 (And.intro @q8 (And.intro @q9 (And.intro @q10 (And.intro @q32 @q33)))))); exact ⟨0, _, _, Nat.zero_le _, by exact sf, by exact sf, by exact sf, by rw [c2]; simp only [push_cast, ↓reduceIte, Nat.reduceAdd, Nat.reduceLeDiff, Nat.reduceEqDiff, Nat.reduceLT, Int.reduceToNat, q0, q5, q8, q9, q10, q32, q33], by exact sf, by exact sf, by exact sf, by exact sf, hS⟩
              · clear hS q0 q5 q8 q9 q10 q32 q33 hm2 hii hi hmL
                rintro u3 wl3 ⟨i, rv, l3, hi, q0, q5, q8, q9, q10, q12, q62, q63, hS⟩ ih3
                have hm3 : toN (u3 63) = i := by rw [q63]; simp [toN]
                have hmR := mesL_rd (Sep.rd (xs := (left.take i).eraseIdx k) (e := eI) hS (by repeat constructor))
                have hel : ((left.take i).eraseIdx k).length ≤ left.length := by
                  have := (List.eraseIdx_sublist (left.take i) k).length_le
                  simp at this; omega
                by_cases hii : (i : Int) < left.length
                · have het := erase_take left k i hii
                  by_cases hik : i = k
                  · rw [if_pos hik] at het
                    have hik2 : (i : Int) = k := by omega
                    (have fct := (And.intro @q0 (And.intro @q5 (And.intro @q8 (And.intro @q9 (And.intro @q10 (And.intro @q12 (And.intro @q62 @q63))))))); repeat' (first | ((with_reducible apply G.a); exact rfl) | refine G.reg fun K hK => ?_ | (with_reducible (refine hK _ _ ?_); clear hK K) | (with_reducible (refine hK _ ?_); clear hK K; intro wd hxd; have hS := Sep.xx hxd) | (have hk := hK; clear hk; simp (disch := first | exact dis | fail) only [push_cast, ↓reduceIte, Nat.reduceAdd, Nat.reduceLeDiff, Nat.reduceEqDiff, Nat.reduceLT, Int.reduceToNat, fct]) | (refine zbsl ?_; intro gb wb hS) | (refine G.drt mixed fun K hK wd hxd => ?_; have hS := Sep.xx hxd) | refine G.drg mixed fun K hK => ?_ | (refine G.cn ?_ ?_ <;> intro hc <;> first | (with_reducible exact False.elim hc) | (exfalso; omega) | skip))) <;> (try clear fct)
                    all_goals
                      have fct := (And.intro @q0 (And.intro @q5 (And.intro @q8 (And.intro @q9 (And.intro @q10 (And.intro @q12 (And.intro @q62 @q63))))))); refine ih3 _ _ ⟨i + 1, _, _, by omega, by exact sf, by exact sf, by exact sf, by exact sf, by exact sf, by exact sf, by exact sf, by exact sf, by rw [het]; exact hS⟩ ?_
                      rw [hm3]; simp only [push_cast, ↓reduceIte, Nat.reduceAdd, Nat.reduceLeDiff, Nat.reduceEqDiff, Nat.reduceLT, Int.reduceToNat, toN_i, q0, q5, q8, q9, q10, q12, q62, q63]; omega
                  · rw [if_neg hik] at het
                    have hik2 : ¬ (i : Int) = k := by omega
                    (have fct := (And.intro @q0 (And.intro @q5 (And.intro @q8 (And.intro @q9 (And.intro @q10 (And.intro @q12 (And.intro @q62 @q63))))))); repeat' (first | ((with_reducible apply G.a); exact rfl) | refine G.reg fun K hK => ?_ | (with_reducible (refine hK _ _ ?_); clear hK K) | (with_reducible (refine hK _ ?_); clear hK K; intro wd hxd; have hS := Sep.xx hxd) | (have hk := hK; clear hk; simp (disch := first | exact dis | fail) only [push_cast, ↓reduceIte, Nat.reduceAdd, Nat.reduceLeDiff, Nat.reduceEqDiff, Nat.reduceLT, Int.reduceToNat, fct]) | (refine zbsl ?_; intro gb wb hS) | (refine zap (y := left.getD i default) ?_ (hy := by rfl); intro vb wb hS) | (refine G.drt mixed fun K hK wd hxd => ?_; have hS := Sep.xx hxd) | refine G.drg mixed fun K hK => ?_ | (refine G.cn ?_ ?_ <;> intro hc <;> first | (with_reducible exact False.elim hc) | (exfalso; omega) | skip))) <;> (try clear fct)
                    all_goals
                      have fct := (And.intro @q0 (And.intro @q5 (And.intro @q8 (And.intro @q9 (And.intro @q10 (And.intro @q12 (And.intro @q62 @q63))))))); refine ih3 _ _ ⟨i + 1, _, _, by omega, by exact sf, by exact sf, by exact sf, by exact sf, by exact sf, by exact sf, by exact sf, by exact sf, by rw [het]; exact hS⟩ ?_
                      rw [hm3]; simp only [push_cast, ↓reduceIte, Nat.reduceAdd, Nat.reduceLeDiff, Nat.reduceEqDiff, Nat.reduceLT, Int.reduceToNat, toN_i, q0, q5, q8, q9, q10, q12, q62, q63]; omega
                · have hta2 : left.take i = left := List.take_of_length_le (by omega)
                  rw [hta2] at hS hmR
                  have hel2 : (left.eraseIdx k).length + 1 = left.length := by rw [List.length_eraseIdx_of_lt hkl]; omega
                  (have fct := (And.intro @q0 (And.intro @q5 (And.intro @q8 (And.intro @q9 (And.intro @q10 (And.intro @q12 (And.intro @q62 @q63))))))); repeat' (first | ((with_reducible apply G.a); exact rfl) | refine G.reg fun K hK => ?_ | (with_reducible (refine hK _ _ ?_); clear hK K) | (with_reducible (refine hK _ ?_); clear hK K; intro wd hxd; have hS := Sep.xx hxd) | (have hk := hK; clear hk; simp (disch := first | exact dis | fail) only [push_cast, ↓reduceIte, Nat.reduceAdd, Nat.reduceLeDiff, Nat.reduceEqDiff, Nat.reduceLT, Int.reduceToNat, fct]) | (refine zbsl ?_; intro gb wb hS) | (refine G.drt mixed fun K hK wd hxd => ?_; have hS := Sep.xx hxd) | refine G.drg mixed fun K hK => ?_ | (refine G.cn ?_ ?_ <;> intro hc <;> first | (with_reducible exact False.elim hc) | (exfalso; omega) | skip))) <;> (try clear fct)
                  all_goals
                    have fct := (And.intro @q0 (And.intro @q5 (And.intro @q8 (And.intro @q9 (And.intro @q10 (And.intro @q12 (And.intro @q62 @q63))))))); refine ih _ _ ⟨p + 1, left.eraseIdx k, _, _, by omega, e2.symm, by exact sf, by exact sf, by exact sf, by exact sf, (Sep.sub hS (by repeat first | exact Sub.rfl' | exact Sub.n | (refine Sub.c (by repeat constructor) ?_) | refine Sub.skip ?_))⟩ ?_
                    rw [q5', hmLo]; simp only [push_cast, ↓reduceIte, Nat.reduceAdd, Nat.reduceLeDiff, Nat.reduceEqDiff, Nat.reduceLT, Int.reduceToNat, q0, q5, q8, q9, q10, q12, q62, q63]; rw [hmR]; omega
end
end Go.Proofs.Ytcglgnbeliljoaa
namespace Go.Proofs.Ytcglgnbeliljoaa
set_option linter.unusedSimpArgs false
set_option linter.unusedVariables false
attribute [local irreducible] SemK UnitK StK AlcK BslK CallK CallV Instr.box Builtin.append_ Instr.makeSlice Instr.makeMap Instr.lookup Instr.mapUpdate Instr.sliceAt convert
open Go.RowKit
theorem at_ex : atP [97, 98, 99, 100] [3, 1, 3] = [[97], [98, 99], [], [100]] := by
  have h1 : heldL [3, 1, 3] ([97, 98, 99, 100] : Str).length = [3, 1, 3] := by decide
  have h2 : srt [3, 1, 3] = [1, 3, 3] := up_eq ((srt_perm _).trans (by decide)) (srt_up _) (by decide)
  unfold atP
  rw [h1, h2]
  decide
theorem by_ex : ByOut [97, 98, 99, 100] [1, 2] [[97], [98, 99], [100]] := by
  unfold ByOut
  rw [if_pos (by decide)]
  exact ⟨3, ⟨by decide, by decide⟩, by decide⟩
def c9 : MC := (.seq (.reg [qq 0 (.mv (kb false))]) (.seq (.reg [qq 1 (.bsl 3 [(.int .i64 0), (.int .i64 0), (.int .i64 0)] 3 [⟨0, ⟨1, (ki 3)⟩⟩, ⟨1, ⟨1, (ki 1)⟩⟩, ⟨2, ⟨1, (ki 3)⟩⟩]), qq 2 (.call 15 [(.const (S [97, 98, 99, 100])), (.tmp 1)]), qq 3 (.bsl 9 [(S []), (S []), (S []), (S [])] 4 [⟨0, ⟨1, (.const (S [97]))⟩⟩, ⟨1, ⟨1, (.const (S [98, 99]))⟩⟩, ⟨2, ⟨1, (.const (S []))⟩⟩, ⟨3, ⟨1, (.const (S [100]))⟩⟩]), qq 4 (.call 11 [(.tmp 2), (.tmp 3)]), qm 5 4, qt 5 6 (.bsl 3 [(.int .i64 0), (.int .i64 0)] 2 [⟨0, ⟨1, (ki 1)⟩⟩, ⟨1, ⟨1, (ki 2)⟩⟩]), qt 5 7 (.call 16 [(.const (S [97, 98, 99, 100])), (.tmp 6)]), qt 5 8 (.bsl 9 [(S []), (S []), (S [])] 3 [⟨0, ⟨1, (.const (S [97]))⟩⟩, ⟨1, ⟨1, (.const (S [98, 99]))⟩⟩, ⟨2, ⟨1, (.const (S [100]))⟩⟩]), qt 5 9 (.call 11 [(.tmp 7), (.tmp 8)]), qq 10 (.pick (.tmp 5) (.tmp 9) (kb false)), qm 0 10]) .ret))
theorem k9 : conv Try.prog 11 (Try.f9.body.getD .skip) = c9 := by kernel_rfl
theorem in9 {w : World} {R : Value → World → Prop} (h : G Try.prog Try.f9 11 [.c c9] R (frL 0 []) w) : Ret Try.prog 9 #[] w R := G.enter (args := []) Try.func9 (c := Try.f9.body.getD .skip) (by kernel_rfl) (by kernel_rfl) (by simp) k9 h
theorem awake7_spec (w : World) : Pu Try.prog 9 #[] w (.bool true) := by
  refine in9 ?_
  have hS := Sep.start w
  have ha : ∀ {v : Value} {w : World}, Rd w eI v [3, 1, 3] → Ret Try.prog 15 #[S [97, 98, 99, 100], v] w fun res w' => Sep w w' [accC res 9 eS [[97], [98, 99], [], [100]]] := fun hr => by
    have := at_spec7 hr (s := [97, 98, 99, 100]) (by decide) (by decide)
    rwa [at_ex] at this
  have hb : ∀ {v : Value} {w : World}, Rd w eI v [1, 2] → Ret Try.prog 16 #[S [97, 98, 99, 100], v] w fun res w' => Sep w w' [accC res 9 eS [[97], [98, 99], [100]]] := fun hr => by
    refine (by_spec hr (s := [97, 98, 99, 100]) (by decide) (by decide)).mono ?_
    rintro res w' ⟨out, ho, hS⟩
    rwa [ho.one by_ex] at hS
  repeat' (first | ((with_reducible apply G.a); exact rfl) | refine G.reg fun K hK => ?_ | (with_reducible (refine hK _ _ ?_); clear hK K) | (have hk := hK; clear hk; simp (disch := first | exact dis | fail) only [push_cast, ↓reduceIte, Nat.reduceAdd, Nat.reduceLeDiff, Nat.reduceEqDiff, Nat.reduceLT, Int.reduceToNat, fct]) | (refine brO_n ?_ ?_ <;> intro hb hc <;> first | (with_reducible exact False.elim hc) | (exfalso; omega) | (simp only [hb]; clear hb)) | (refine zbsl ?_; intro gb wb hS) | (refine zco 15 (ha (lit_rdI [3, 1, 3] (Sep.blk hS (by repeat constructor)) rfl (by decide))) ?_; rintro vb wb hS2; have hS := hS2.ap; simp only [apps] at hS) | (refine zco 16 (hb (lit_rdI [1, 2] (Sep.blk hS (by repeat constructor)) rfl (by decide))) ?_; rintro vb wb hS2; have hS := hS2.ap; simp only [apps] at hS) | (refine zcp 11 (same05_spec (a := [[97], [98, 99], [], [100]]) (Sep.rd hS (by repeat constructor)) (lit_rdS7 [[97], [98, 99], [], [100]] (Sep.blk hS (by repeat constructor)) rfl (by decide))) ?_; intro wb hS) | (refine zcp 11 (same05_spec (a := [[97], [98, 99], [100]]) (Sep.rd hS (by repeat constructor)) (lit_rdS7 [[97], [98, 99], [100]] (Sep.blk hS (by repeat constructor)) rfl (by decide))) ?_; intro wb hS))
  all_goals
    (first | refine G.r1 ?_ | refine G.r2 ?_ | refine G.r3 ?_ | refine G.r0 ?_ | refine G.d0 ?_); (try simp (disch := first | exact dis | fail) only [push_cast, ↓reduceIte, Nat.reduceAdd, Nat.reduceLeDiff, Nat.reduceEqDiff, Nat.reduceLT, Int.reduceToNat, fct])
    exact Sep.xt (by assumption)
end Go.Proofs.Ytcglgnbeliljoaa
