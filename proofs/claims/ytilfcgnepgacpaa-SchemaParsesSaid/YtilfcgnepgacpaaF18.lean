/- Chapter 18: the reference's Parse, and few, walked. -/
import Derived.Test.YtilfcgnepgacpaaE18
namespace Go.Proofs.Ytilfcgnepgacpaa
set_option linter.unusedSimpArgs false
set_option linter.unusedVariables false
attribute [local irreducible] SemK UnitK StK AlcK BslK CallK Instr.box Builtin.append_ Instr.makeSlice Instr.makeMap Instr.lookup Instr.mapUpdate Instr.sliceAt convert
open Go.RowKit
theorem lines_step (cur : Str) (b : UInt8) (r : Str) (h : b = 10 ∨ r = []) : linesF cur (b :: r) = (cur ++ [b]) :: linesF [] r := by
  by_cases hb : b = 10
  · subst hb; rw [linesF, if_pos rfl]
  · have hr : r = [] := by rcases h with h | h <;> first | exact absurd h hb | exact h
    subst hr
    simp [linesF, hb]
theorem lines_go (cur : Str) (b : UInt8) (r : Str) (h : ¬ b = 10) : linesF cur (b :: r) = linesF (cur ++ [b]) r := by rw [linesF, if_neg h]
theorem prs_line (acc : List Col) (line : Str) (r : List Str) : prsF acc (line :: r) = match lcM line with
    | none => ([], (acc.length : Int) + 1, 23)
    | some c => if 0 ≤ atM (acc.map (·.name)) c.name then ([], (acc.length : Int) + 1, 23) else prsF (acc ++ [c]) r := rfl
theorem rcol_some {line : Str} {c : Col} (h : lcM line = some c) : rcolF line rpairs = (toR c, true) := by
  have h1 := rc_eq line
  have h2 := rcol_rc line rpairs
  rw [rcM, h2, h] at h1
  split at h1
  · rename_i hp
    simp only [Option.map_some, Option.some.injEq] at h1
    exact Prod.ext h1 hp
  · simp at h1
theorem rcol_none {line : Str} (h : lcM line = none) : (rcolF line rpairs).2 = false := by
  have h1 := rc_eq line
  have h2 := rcol_rc line rpairs
  rw [rcM, h2, h] at h1
  split at h1
  · simp at h1
  · rename_i hp; simpa using hp
theorem seg_step (s : Str) (f i : Nat) (hf : f ≤ i) (h : (i : Int) < s.length) : (s.drop f).take (i + 1 - f) = (s.drop f).take (i - f) ++ [s.getD i 0] := by
  have e : i + 1 - f = (i - f) + 1 := by omega
  rw [e, takeB _ _ (by simp; omega)]
  congr 2
  simp only [List.getD, List.getElem?_drop]
  rw [show f + (i - f) = i by omega]
def c14l1 : MC := (.seq (.seq (.reg [qm 11 8, qm 12 0, qq 13 (.lenS (.tmp 12)), qq 14 (.bin .lss (.tmp 11) (.tmp 13))]) (.cond (.tmp 14) .skip (.exit 0))) (.seq (.blk 1 (.seq (.seq (.reg [qm 17 0, qm 18 8, qq 19 (.idxS (.tmp 17) (.tmp 18)), qq 20 (.bin .neq (.tmp 19) (.const (.int .u8 10))), qm 21 20, qmt 21 22 8, qt 21 23 (.bin .add (.tmp 22) (ki 1)), qmt 21 24 0, qt 21 25 (.lenS (.tmp 24)), qt 21 26 (.bin .lss (.tmp 23) (.tmp 25)), qq 27 (.pick (.tmp 21) (.tmp 26) (kb false))]) (.cond (.tmp 27) (.exit 1) .skip)) (.seq (.reg [qm 28 6, qq 29 (.bin .add (.tmp 28) (ki 1)), qm 6 29]) (.seq (.reg [qm 31 0, qm 32 7, qm 33 8, qq 34 (.bin .add (.tmp 33) (ki 1)), qq 35 (.slS (.tmp 31) (.some (.tmp 32)) (.some (.tmp 34))), qq 36 (.call 43 [(.tmp 35)]), qm 30 36, qq 37 (.ext 0 (.tmp 30)), qq 38 (.ext 1 (.tmp 30)), qq 9 (.alc 91 [(S []), (.int .i64 0), (.int .i64 0)]), qn (.st 3 (.tmp 9) (.tmp 37)), qm 10 38]) (.seq (.reg [qm 39 8, qq 40 (.bin .add (.tmp 39) (ki 1)), qm 7 40]) (.seq (.seq (.drg [qm 41 10, qq 42 (.un .not (.tmp 41)), qm 43 42, qmf 43 44 5, qf 43 45 (.call 34 [(.tmp 44)]), qf 43 46 (.fad 0 (.tmp 9)), qf 43 47 (.ld none (.tmp 46)), qf 43 48 (.call 35 [(.tmp 45), (.tmp 47)]), qf 43 49 (.bin .geq (.tmp 48) (ki 0)), qq 50 (.pick (.tmp 43) (kb true) (.tmp 49))] (.some (.br [qm 41 10, qq 42 (.un .not (.tmp 41)), qm 43 42, qmf 43 44 5, qf 43 46 (.fad 0 (.tmp 9))] (.leaf [qf 43 45 (.call 34 [(.tmp 44)]), qf 43 47 (.ld none (.tmp 46)), qf 43 48 (.call 35 [(.tmp 45), (.tmp 47)]), qf 43 49 (.bin .geq (.tmp 48) (ki 0)), qq 50 (.pick (.tmp 43) (kb true) (.tmp 49))]) (.leaf [qf 43 47 (.ld none (.tmp 46)), qf 43 45 (.call 34 [(.tmp 44)]), qf 43 48 (.call 35 [(.tmp 45), (.tmp 47)]), qf 43 49 (.bin .geq (.tmp 48) (ki 0)), qq 50 (.pick (.tmp 43) (kb true) (.tmp 49))])))) (.cond (.tmp 50) (.seq (.reg [qm 51 6, qq 2 (.mv (.const (.slice none 0 0))), qm 3 51, qq 4 (.mv (ki 23))]) .ret) .skip)) (.reg [qm 52 5, qq 53 (.ld (.some 3) (.tmp 9)), qq 54 (.bsl 91 [(S []), (.int .i64 0), (.int .i64 0)] 1 [⟨0, ⟨3, (.tmp 53)⟩⟩]), qq 55 (.raw (.call ⟨(.builtin .append), #[(.tmp 52), (.tmp 54)], #[27, 27]⟩) 27), qm 5 55]))))))) (.reg [qm 15 8, qq 16 (.bin .add (.tmp 15) (ki 1)), qm 8 16])))
def c14 : MC := (.seq (.reg [qq 2 (.mv (.const (.slice none 0 0))), qq 3 (.mv (ki 0)), qq 4 (.mv (ki 0))]) (.seq (.reg [qq 5 (.mv (.const (.slice none 0 0)))]) (.seq (.reg [qq 6 (.mv (ki 0)), qq 7 (.mv (ki 0))]) (.seq (.seq (.reg [qq 8 (.mv (ki 0))]) (.blk 0 (.loop c14l1))) (.seq (.seq (.reg [qm 56 6, qq 57 (.bin .eql (.tmp 56) (ki 0))]) (.cond (.tmp 57) (.seq (.reg [qq 2 (.mv (.const (.slice none 0 0))), qq 3 (.mv (ki 0)), qq 4 (.mv (ki 23))]) .ret) .skip)) (.seq (.reg [qm 58 5, qm 59 6, qm 2 58, qm 3 59, qq 4 (.mv (ki 0))]) .ret))))))
theorem k14 : conv Try.prog 60 (Try.f14.body.getD .skip) = c14 := by kernel_rfl
theorem in14 {a0 : Value} {w : World} {R : Value → World → Prop} (h : G Try.prog Try.f14 60 [.c c14] R (frL 0 [a0]) w) : Ret Try.prog 14 #[a0] w R := G.enter (args := [a0]) Try.func14 (c := Try.f14.body.getD .skip) (by kernel_rfl) (by kernel_rfl) (by simp) k14 h
set_option maxHeartbeats 1000000 in
theorem rparse_spec (s : Str) (w : World) (hl : s.length ≤ 1000000000) : Ret Try.prog 14 #[S s] w fun res w' => ∃ lv, res = .tuple #[lv, I (prsM s).2.1, I (prsM s).2.2] ∧ Sep w w' [accC lv 91 eR ((prsM s).1.map toR)] := by
  refine in14 ?_
  have hS := Sep.start w
  have nilR : ∀ {wx : World} {L : List Chk}, Sep w wx L → Sep w wx [accC (.slice none 0 0) 91 eR (([] : List Col).map toR)] := fun h => (Sep.sub h Sub.n).nil _ _
  have hprs : s ≠ [] → prsM s = prsF [] (linesF [] s) := fun h => by unfold prsM; rw [if_neg h]
  repeat' (first | refine G.seq ?_ | refine G.blk ?_ | refine G.endb ?_ | refine G.skip ?_ | refine G.exit rfl ?_ | refine G.reg fun K hK => ?_ | (with_reducible (refine hK _ _ ?_); clear hK K) | (with_reducible (refine hK _ ?_); clear hK K; intro wd hxd; have hS := Sep.ext (by assumption) hxd) | (have hk := hK; clear hk; simp (disch := (first | exact dis | fail)) only [push_cast, ↓reduceIte, Nat.reduceAdd, Nat.reduceLeDiff, Nat.reduceEqDiff, Nat.reduceLT, Int.reduceToNat]) | ((first | refine brO_mk ?_ ?_ | refine brQ_mk ?_ ?_) <;> intro hb <;> (try simp only [Bool.not_eq_true', Bool.not_eq_false'] at hb) <;> have hc := hb <;> (try simp only [hcs, reduceCtorEq] at hc) <;> (try (exfalso; omega)) <;> simp only [hb] <;> clear hb) | (refine zalc ?_; intro gb wb hS) | (refine zbsl ?_; intro gb wb hS) | ((with_reducible (show SemK _ (Instr.box _ _) _ _ _ _)); refine zbox ?_; intro gb wb hS) | ((with_reducible (show StK _ _ (Value.pointer _) _ _ _ _ _)); refine zst ?_; intro wb hS; (try simp only [sets] at hS))  | (refine G.drt mixed fun K hK wd hxd => ?_; have hS := Sep.ext (by assumption) hxd) | with_reducible refine OT_leaf ?_ | with_reducible refine OT_br fun K2 hK2 => ?_ | (refine hK2 _ _ ?_ ?_ <;> clear hK2 K2) | refine G.drg mixed fun K hK => ?_ | (refine G.cond (by simp only [push_cast, ↓reduceIte, Nat.reduceAdd, Nat.reduceLeDiff, Nat.reduceEqDiff, Nat.reduceLT, Int.reduceToNat]; rfl) ?_ ?_ <;> intro hc <;> (try simp only [hcs, reduceCtorEq] at hc) <;> (try (exfalso; omega))))
  have hS := hS.nil 91 eR
  refine G.loop (fun r w' => ∃ (i f : Nat) (acc : List Col) (lv : Value), f ≤ i ∧ i ≤ s.length ∧ (i = s.length → f = i) ∧ acc.length ≤ f ∧ (f ≠ 0 → acc ≠ []) ∧ r 8 = I i ∧ r 7 = I f ∧ r 6 = I acc.length ∧ r 5 = lv ∧ r 0 = S s ∧ prsF [] (linesF [] s) = prsF acc (linesF ((s.drop f).take (i - f)) (s.drop i)) ∧ Sep w w' [accC lv 91 eR (acc.map toR)]) (fun r _ => s.length - toN (r 8)) ?_ ?_
  · refine ⟨0, 0, [], .slice none 0 0, ?_⟩
    ((repeat' apply And.intro) <;> first | exact dj | (simp only [push_cast, ↓reduceIte, Nat.reduceAdd, Nat.reduceLeDiff, Nat.reduceEqDiff, Nat.reduceLT, Int.reduceToNat] <;> omega) | skip)
    all_goals simp
  · clear hS
    rintro u wl ⟨i, f, acc, lv, hf, hi, hfi, haf, hne, h8, h7, h6, h5, h0, e, hS⟩ ih
    have hml : (acc.map toR).length = acc.length := List.length_map _
    by_cases hlt : (i : Int) < s.length
    · have hsg := seg_step s f i hf hlt
      have ht : ((i : Int) + 1).toNat = i + 1 := by omega
      have hnn : (acc.map toR).map (·.name) = acc.map (·.name) := by simp [toR]
      have hsl : ((s.drop f).take (i + 1 - f)).length ≤ s.length := by simp; omega
      have hprs := hprs (by intro hs; rw [hs, List.length_nil] at hlt; omega)
      rw [dropB s i hlt] at e
      by_cases hgo : ¬ s.getD i 0 = 10 ∧ i + 1 < s.length
      · rw [lines_go _ _ _ hgo.1, ← hsg] at e
        have hgl := hgo.2
        repeat' (first | refine G.seq ?_ | refine G.blk ?_ | refine G.endb ?_ | refine G.skip ?_ | refine G.exit rfl ?_ | refine G.reg fun K hK => ?_ | (with_reducible (refine hK _ _ ?_); clear hK K) | (with_reducible (refine hK _ ?_); clear hK K; intro wd hxd; have hS := Sep.ext (by assumption) hxd) | (have hk := hK; clear hk; simp (disch := (first | exact dis | fail)) only [push_cast, ↓reduceIte, Nat.reduceAdd, Nat.reduceLeDiff, Nat.reduceEqDiff, Nat.reduceLT, Int.reduceToNat, h8, h7, h6, h5, h0, ht]) | ((first | refine brO_mk ?_ ?_ | refine brQ_mk ?_ ?_) <;> intro hb <;> (try simp only [Bool.not_eq_true', Bool.not_eq_false'] at hb) <;> have hc := hb <;> (try simp only [hcs, reduceCtorEq] at hc) <;> (try (exfalso; omega)) <;> simp only [hb] <;> clear hb) | (refine zalc ?_; intro gb wb hS) | (refine zbsl ?_; intro gb wb hS) | ((with_reducible (show SemK _ (Instr.box _ _) _ _ _ _)); refine zbox ?_; intro gb wb hS) | ((with_reducible (show StK _ _ (Value.pointer _) _ _ _ _ _)); refine zst ?_; intro wb hS; (try simp only [sets] at hS))  | (refine G.drt mixed fun K hK wd hxd => ?_; have hS := Sep.ext (by assumption) hxd) | with_reducible refine OT_leaf ?_ | with_reducible refine OT_br fun K2 hK2 => ?_ | (refine hK2 _ _ ?_ ?_ <;> clear hK2 K2) | refine G.drg mixed fun K hK => ?_ | (refine G.cond (by simp only [push_cast, ↓reduceIte, Nat.reduceAdd, Nat.reduceLeDiff, Nat.reduceEqDiff, Nat.reduceLT, Int.reduceToNat, h8, h7, h6, h5, h0, ht]; rfl) ?_ ?_ <;> intro hc <;> (try simp only [hcs, reduceCtorEq] at hc) <;> (try (exfalso; omega))))
        all_goals first
          | ((refine ih _ _ ⟨i + 1, f, acc, lv, ?_⟩ ?_; rotate_left; (focus ((simp only [push_cast, ↓reduceIte, Nat.reduceAdd, Nat.reduceLeDiff, Nat.reduceEqDiff, Nat.reduceLT, Int.reduceToNat, toN_i, h8, h7, h6, h5, h0] <;> omega))); ((repeat' apply And.intro) <;> first | exact dj | (simp only [push_cast, ↓reduceIte, Nat.reduceAdd, Nat.reduceLeDiff, Nat.reduceEqDiff, Nat.reduceLT, Int.reduceToNat, h8, h7, h6, h5, h0] <;> omega) | skip)); done)
          | (exfalso; exact absurd (u8_eq (c := 10) (n := 10) rfl (by assumption)) hgo.1)
          | skip
      · rw [lines_step _ _ _ (by
          by_cases hb : s.getD i 0 = 10
          · exact .inl hb
          · exact .inr (List.drop_eq_nil_of_le (by have := not_and.1 hgo hb; omega))), ← hsg, prs_line] at e
        generalize hL : (s.drop f).take (i + 1 - f) = line at *
        cases hco : lcM line with
        | none =>
          have hrc := rcol_none hco
          rw [hco] at e
          simp only at e
          repeat' (first | refine G.seq ?_ | refine G.blk ?_ | refine G.endb ?_ | refine G.skip ?_ | refine G.exit rfl ?_ | refine G.reg fun K hK => ?_ | (with_reducible (refine hK _ _ ?_); clear hK K) | (with_reducible (refine hK _ ?_); clear hK K; intro wd hxd; have hS := Sep.ext (by assumption) hxd) | (have hk := hK; clear hk; simp (disch := (first | exact dis | fail)) only [push_cast, ↓reduceIte, Nat.reduceAdd, Nat.reduceLeDiff, Nat.reduceEqDiff, Nat.reduceLT, Int.reduceToNat, h8, h7, h6, h5, h0, ht, hL, vR, hrc, hml, hnn]) | ((first | refine brO_mk ?_ ?_ | refine brQ_mk ?_ ?_) <;> intro hb <;> (try simp only [Bool.not_eq_true', Bool.not_eq_false'] at hb) <;> have hc := hb <;> (try simp only [hcs, reduceCtorEq] at hc) <;> (try (exfalso; omega)) <;> simp only [hb] <;> clear hb) | (refine zalc ?_; intro gb wb hS) | (refine zbsl ?_; intro gb wb hS) | ((with_reducible (show SemK _ (Instr.box _ _) _ _ _ _)); refine zbox ?_; intro gb wb hS) | ((with_reducible (show StK _ _ (Value.pointer _) _ _ _ _ _)); refine zst ?_; intro wb hS; (try simp only [sets] at hS)) | (refine zcp 43 (rcol_spec _ _ (by omega)) ?_; intro wb hS) | (refine zco 34 (rnames_spec (Sep.rd hS (by repeat constructor)) (by simp; omega)) ?_; rintro vb wb hS2; have hS := hS2.ap; simp only [apps] at hS) | (refine zcp 35 (rat_spec (Sep.rd hS (by repeat constructor)) _) ?_; intro wb hS) | (refine G.drt mixed fun K hK wd hxd => ?_; have hS := Sep.ext (by assumption) hxd) | with_reducible refine OT_leaf ?_ | with_reducible refine OT_br fun K2 hK2 => ?_ | (refine hK2 _ _ ?_ ?_ <;> clear hK2 K2) | refine G.drg mixed fun K hK => ?_ | (refine G.cond (by simp only [push_cast, ↓reduceIte, Nat.reduceAdd, Nat.reduceLeDiff, Nat.reduceEqDiff, Nat.reduceLT, Int.reduceToNat, h8, h7, h6, h5, h0, ht, hL, vR, hrc, hml, hnn]; rfl) ?_ ?_ <;> intro hc <;> (try simp only [hcs, reduceCtorEq] at hc) <;> (try (exfalso; omega))))
          all_goals first
            | (exfalso; exact hgo ⟨u8_ne (n := 10) rfl (by assumption), by omega⟩)
            | (((first | apply G.rv1 rfl | apply G.rv2 rfl | apply G.rv3 rfl | apply G.ret0 rfl) <;> (first | exact RV.tmp | exact zag (by simp only [push_cast, ↓reduceIte, Nat.reduceAdd, Nat.reduceLeDiff, Nat.reduceEqDiff, Nat.reduceLT, Int.reduceToNat, h8, h7, h6, h5, h0]; rfl) | skip)); (try simp (disch := (first | exact dis | fail)) only [push_cast, ↓reduceIte, Nat.reduceAdd, Nat.reduceLeDiff, Nat.reduceEqDiff, Nat.reduceLT, Int.reduceToNat, h8, h7, h6, h5, h0]); rw [hprs, e]; exact ⟨_, rfl, nilR hS⟩)
        | some c =>
          have hrc := rcol_some hco
          rw [hco] at e
          simp only at e
          have hap : (acc ++ [c]).map toR = acc.map toR ++ [toR c] := by simp
          have hal : (acc ++ [c]).length = acc.length + 1 := by simp
          have hne2 : i + 1 ≠ 0 → acc ++ [c] ≠ [] := fun _ => by simp
          have htk : (s.drop (i + 1)).take (i + 1 - (i + 1)) = [] := by simp
          by_cases ha : 0 ≤ atM (acc.map (·.name)) c.name
          · rw [if_pos ha] at e
            repeat' (first | refine G.seq ?_ | refine G.blk ?_ | refine G.endb ?_ | refine G.skip ?_ | refine G.exit rfl ?_ | refine G.reg fun K hK => ?_ | (with_reducible (refine hK _ _ ?_); clear hK K) | (with_reducible (refine hK _ ?_); clear hK K; intro wd hxd; have hS := Sep.ext (by assumption) hxd) | (have hk := hK; clear hk; simp (disch := (first | exact dis | fail)) only [push_cast, ↓reduceIte, Nat.reduceAdd, Nat.reduceLeDiff, Nat.reduceEqDiff, Nat.reduceLT, Int.reduceToNat, h8, h7, h6, h5, h0, ht, hL, vR, hrc, toR, hml, hnn]) | ((first | refine brO_mk ?_ ?_ | refine brQ_mk ?_ ?_) <;> intro hb <;> (try simp only [Bool.not_eq_true', Bool.not_eq_false'] at hb) <;> have hc := hb <;> (try simp only [hcs, reduceCtorEq] at hc) <;> (try (exfalso; omega)) <;> simp only [hb] <;> clear hb) | (refine zalc ?_; intro gb wb hS) | (refine zbsl ?_; intro gb wb hS) | ((with_reducible (show SemK _ (Instr.box _ _) _ _ _ _)); refine zbox ?_; intro gb wb hS) | ((with_reducible (show StK _ _ (Value.pointer _) _ _ _ _ _)); refine zst ?_; intro wb hS; (try simp only [sets] at hS)) | (refine zcp 43 (rcol_spec _ _ (by omega)) ?_; intro wb hS) | (refine zco 34 (rnames_spec (Sep.rd hS (by repeat constructor)) (by simp; omega)) ?_; rintro vb wb hS2; have hS := hS2.ap; simp only [apps] at hS) | (refine zcp 35 (rat_spec (Sep.rd hS (by repeat constructor)) _) ?_; intro wb hS) | (refine G.drt mixed fun K hK wd hxd => ?_; have hS := Sep.ext (by assumption) hxd) | with_reducible refine OT_leaf ?_ | with_reducible refine OT_br fun K2 hK2 => ?_ | (refine hK2 _ _ ?_ ?_ <;> clear hK2 K2) | refine G.drg mixed fun K hK => ?_ | (refine G.cond (by simp only [push_cast, ↓reduceIte, Nat.reduceAdd, Nat.reduceLeDiff, Nat.reduceEqDiff, Nat.reduceLT, Int.reduceToNat, h8, h7, h6, h5, h0, ht, hL, vR, hrc, toR, hml, hnn]; rfl) ?_ ?_ <;> intro hc <;> (try simp only [hcs, reduceCtorEq] at hc) <;> (try (exfalso; omega))))
            all_goals first
              | (exfalso; exact hgo ⟨u8_ne (n := 10) rfl (by assumption), by omega⟩)
              | (((first | apply G.rv1 rfl | apply G.rv2 rfl | apply G.rv3 rfl | apply G.ret0 rfl) <;> (first | exact RV.tmp | exact zag (by simp only [push_cast, ↓reduceIte, Nat.reduceAdd, Nat.reduceLeDiff, Nat.reduceEqDiff, Nat.reduceLT, Int.reduceToNat, h8, h7, h6, h5, h0]; rfl) | skip)); (try simp (disch := (first | exact dis | fail)) only [push_cast, ↓reduceIte, Nat.reduceAdd, Nat.reduceLeDiff, Nat.reduceEqDiff, Nat.reduceLT, Int.reduceToNat, h8, h7, h6, h5, h0]); rw [hprs, e]; exact ⟨_, rfl, nilR hS⟩)
          · rw [if_neg ha] at e
            repeat' (first | refine G.seq ?_ | refine G.blk ?_ | refine G.endb ?_ | refine G.skip ?_ | refine G.exit rfl ?_ | refine G.reg fun K hK => ?_ | (with_reducible (refine hK _ _ ?_); clear hK K) | (with_reducible (refine hK _ ?_); clear hK K; intro wd hxd; have hS := Sep.ext (by assumption) hxd) | (have hk := hK; clear hk; simp (disch := (first | exact dis | fail)) only [push_cast, ↓reduceIte, Nat.reduceAdd, Nat.reduceLeDiff, Nat.reduceEqDiff, Nat.reduceLT, Int.reduceToNat, h8, h7, h6, h5, h0, ht, hL, vR, hrc, toR, hml, hnn]) | ((first | refine brO_mk ?_ ?_ | refine brQ_mk ?_ ?_) <;> intro hb <;> (try simp only [Bool.not_eq_true', Bool.not_eq_false'] at hb) <;> have hc := hb <;> (try simp only [hcs, reduceCtorEq] at hc) <;> (try (exfalso; omega)) <;> simp only [hb] <;> clear hb) | (refine zalc ?_; intro gb wb hS) | (refine zbsl ?_; intro gb wb hS) | ((with_reducible (show SemK _ (Instr.box _ _) _ _ _ _)); refine zbox ?_; intro gb wb hS) | ((with_reducible (show StK _ _ (Value.pointer _) _ _ _ _ _)); refine zst ?_; intro wb hS; (try simp only [sets] at hS)) | (refine zcp 43 (rcol_spec _ _ (by omega)) ?_; intro wb hS) | (refine zco 34 (rnames_spec (Sep.rd hS (by repeat constructor)) (by simp; omega)) ?_; rintro vb wb hS2; have hS := hS2.ap; simp only [apps] at hS) | (refine zcp 35 (rat_spec (Sep.rd hS (by repeat constructor)) _) ?_; intro wb hS) | (refine zap (y := toR c) ?_ (hy := by rfl); intro vb wb hS) | (refine G.drt mixed fun K hK wd hxd => ?_; have hS := Sep.ext (by assumption) hxd) | with_reducible refine OT_leaf ?_ | with_reducible refine OT_br fun K2 hK2 => ?_ | (refine hK2 _ _ ?_ ?_ <;> clear hK2 K2) | refine G.drg mixed fun K hK => ?_ | (refine G.cond (by simp only [push_cast, ↓reduceIte, Nat.reduceAdd, Nat.reduceLeDiff, Nat.reduceEqDiff, Nat.reduceLT, Int.reduceToNat, h8, h7, h6, h5, h0, ht, hL, vR, hrc, toR, hml, hnn]; rfl) ?_ ?_ <;> intro hc <;> (try simp only [hcs, reduceCtorEq] at hc) <;> (try (exfalso; omega))))
            all_goals first
              | (exfalso; exact hgo ⟨u8_ne (n := 10) rfl (by assumption), by omega⟩)
              | (rw [← hap] at hS; (refine ih _ _ ⟨i + 1, i + 1, acc ++ [c], vb, ?_⟩ ?_; rotate_left; (focus ((simp only [push_cast, ↓reduceIte, Nat.reduceAdd, Nat.reduceLeDiff, Nat.reduceEqDiff, Nat.reduceLT, Int.reduceToNat, toN_i, h8, h7, h6, h5, h0, hal] <;> omega))); ((repeat' apply And.intro) <;> first | exact dj | (simp only [push_cast, ↓reduceIte, Nat.reduceAdd, Nat.reduceLeDiff, Nat.reduceEqDiff, Nat.reduceLT, Int.reduceToNat, h8, h7, h6, h5, h0, hal] <;> omega) | skip)); (rw [htk]; exact e); done)
    · have hil : i = s.length := by omega
      have hif := hfi hil
      repeat' (first | refine G.seq ?_ | refine G.blk ?_ | refine G.endb ?_ | refine G.skip ?_ | refine G.exit rfl ?_ | refine G.reg fun K hK => ?_ | (with_reducible (refine hK _ _ ?_); clear hK K) | (with_reducible (refine hK _ ?_); clear hK K; intro wd hxd; have hS := Sep.ext (by assumption) hxd) | (have hk := hK; clear hk; simp (disch := (first | exact dis | fail)) only [push_cast, ↓reduceIte, Nat.reduceAdd, Nat.reduceLeDiff, Nat.reduceEqDiff, Nat.reduceLT, Int.reduceToNat, h8, h7, h6, h5, h0]) | ((first | refine brO_mk ?_ ?_ | refine brQ_mk ?_ ?_) <;> intro hb <;> (try simp only [Bool.not_eq_true', Bool.not_eq_false'] at hb) <;> have hc := hb <;> (try simp only [hcs, reduceCtorEq] at hc) <;> (try (exfalso; omega)) <;> simp only [hb] <;> clear hb) | (refine zalc ?_; intro gb wb hS) | (refine zbsl ?_; intro gb wb hS) | ((with_reducible (show SemK _ (Instr.box _ _) _ _ _ _)); refine zbox ?_; intro gb wb hS) | ((with_reducible (show StK _ _ (Value.pointer _) _ _ _ _ _)); refine zst ?_; intro wb hS; (try simp only [sets] at hS))  | (refine G.drt mixed fun K hK wd hxd => ?_; have hS := Sep.ext (by assumption) hxd) | with_reducible refine OT_leaf ?_ | with_reducible refine OT_br fun K2 hK2 => ?_ | (refine hK2 _ _ ?_ ?_ <;> clear hK2 K2) | refine G.drg mixed fun K hK => ?_ | (refine G.cond (by simp only [push_cast, ↓reduceIte, Nat.reduceAdd, Nat.reduceLeDiff, Nat.reduceEqDiff, Nat.reduceLT, Int.reduceToNat, h8, h7, h6, h5, h0]; rfl) ?_ ?_ <;> intro hc <;> (try simp only [hcs, reduceCtorEq] at hc) <;> (try (exfalso; omega))))
      · ((first | apply G.rv1 rfl | apply G.rv2 rfl | apply G.rv3 rfl | apply G.ret0 rfl) <;> (first | exact RV.tmp | exact zag (by simp only [push_cast, ↓reduceIte, Nat.reduceAdd, Nat.reduceLeDiff, Nat.reduceEqDiff, Nat.reduceLT, Int.reduceToNat, h8, h7, h6, h5, h0]; rfl) | skip)); (try simp (disch := (first | exact dis | fail)) only [push_cast, ↓reduceIte, Nat.reduceAdd, Nat.reduceLeDiff, Nat.reduceEqDiff, Nat.reduceLT, Int.reduceToNat, h8, h7, h6, h5, h0])
        have ha : acc = [] := List.eq_nil_of_length_eq_zero (by omega)
        have hf0 : ¬ f ≠ 0 := fun h => hne h ha
        have hs : s = [] := List.eq_nil_of_length_eq_zero (by omega)
        have e2 : prsM s = ([], 0, 23) := by unfold prsM; rw [if_pos hs]
        rw [e2]
        exact ⟨_, rfl, nilR hS⟩
      · ((first | apply G.rv1 rfl | apply G.rv2 rfl | apply G.rv3 rfl | apply G.ret0 rfl) <;> (first | exact RV.tmp | exact zag (by simp only [push_cast, ↓reduceIte, Nat.reduceAdd, Nat.reduceLeDiff, Nat.reduceEqDiff, Nat.reduceLT, Int.reduceToNat, h8, h7, h6, h5, h0]; rfl) | skip)); (try simp (disch := (first | exact dis | fail)) only [push_cast, ↓reduceIte, Nat.reduceAdd, Nat.reduceLeDiff, Nat.reduceEqDiff, Nat.reduceLT, Int.reduceToNat, h8, h7, h6, h5, h0])
        have hs : s ≠ [] := fun hs => by
          have : s.length = 0 := by rw [hs]; rfl
          omega
        have e2 : prsM s = (acc, (acc.length : Int), 0) := by
          have h1 : s.drop i = [] := List.drop_eq_nil_of_le (by omega)
          have h2 : (s.drop f).take (i - f) = [] := by rw [hif, Nat.sub_self, List.take_zero]
          rw [hprs hs, e, h1, h2]
          show prsF acc (if ([] : Str) = [] then [] else [[]]) = _
          rw [if_pos rfl]; rfl
        rw [e2]
        exact ⟨_, rfl, Sep.sub hS (by repeat constructor)⟩
theorem rdN1 {w : World} {g : Nat} {t : TypeId} {v : Value} {l : List Str} (hB : Blk w g t [v].toArray) (hr : Rd w eS v l) : RdN w eS (.slice (some ⟨g, 0, none⟩) 1 1) [l] := by
  refine ⟨[v], blk_rd (E := eV) (t := t) (ys := [v]) (by rw [flat_eV]; exact hB) rfl (Nat.le_refl _) (by simp) ?_, rfl, fun i hi => ?_⟩
  · intro u hu
    rw [flat_eV] at hu
    simp at hu; subst hu; exact hr.one
  · have : i = 0 := by simp at hi; omega
    subst this
    exact hr
def few3M (l : List Col) : Bool := decide ((l.length : Int) ≤ 20 ∧ (totL (namesC l) : Int) ≤ 300)
theorem few3_len {l : List Col} (h : few3M l = true) : l.length ≤ 20 ∧ totL (namesC l) ≤ 300 := by
  simp only [few3M, decide_eq_true_eq] at h; omega
theorem few3_mem {l : List Col} (h : few3M l = true) : ∀ c ∈ l, c.name.length ≤ 300 := fun c hc => by
  have h1 : c.name.length ≤ totL (namesC l) := totL_mem (List.mem_map.2 ⟨c, hc, rfl⟩)
  have h2 := few3_len h
  omega
def c26l1 : MC := (.seq (.reg [qq 9 (.bin .lss (.tmp 8) (.tmp 7))]) (.seq (.cond (.tmp 9) .skip (.exit 0)) (.seq (.blk 1 (.seq (.reg [qq 10 (.adr 3 (.tmp 6) (.tmp 8)), qq 11 (.ld (.some 3) (.tmp 10)), qq 5 (.alc 76 [(S []), (.int .i64 0), (.bool false)]), qn (.st 3 (.tmp 5) (.tmp 11))]) (.seq (.seq (.reg [qm 12 3, qq 13 (.len (.tmp 12)), qq 14 (.bin .gtr (.tmp 13) (ki 20))]) (.cond (.tmp 14) (.seq (.reg [qq 2 (.mv (kb false))]) .ret) .skip)) (.reg [qm 15 3, qq 16 (.fad 0 (.tmp 5)), qq 17 (.ld none (.tmp 16)), qq 18 (.bsl 9 [(S [])] 1 [⟨0, ⟨1, (.tmp 17)⟩⟩]), qq 19 (.raw (.call ⟨(.builtin .append), #[(.tmp 15), (.tmp 18)], #[56, 56]⟩) 56), qm 3 19])))) (.reg [qq 20 (.bin .add (.tmp 8) (ki 1)), qm 8 20]))))
def c26 : MC := (.seq (.reg [qq 2 (.mv (kb false))]) (.seq (.reg [qq 3 (.mv (.const (.slice none 0 0)))]) (.seq (.seq (.reg [qm 6 0, qq 7 (.len (.tmp 6)), qq 8 (.mv (ki 0))]) (.blk 0 (.loop c26l1))) (.seq (.reg [qm 21 3, qq 22 (.bsl 56 [(.slice none 0 0)] 1 [⟨0, ⟨1, (.tmp 21)⟩⟩]), qq 23 (.call 50 [(.tmp 22), (ki 1), (ki 20), (ki 300)]), qq 24 (.un .not (.tmp 23)), qm 2 24]) .ret))))
theorem k26 : conv Try.prog 25 (Try.f26.body.getD .skip) = c26 := by kernel_rfl
theorem in26 {a0 : Value} {w : World} {R : Value → World → Prop} (h : G Try.prog Try.f26 25 [.c c26] R (frL 0 [a0]) w) : Ret Try.prog 26 #[a0] w R := G.enter (args := [a0]) Try.func26 (c := Try.f26.body.getD .skip) (by kernel_rfl) (by kernel_rfl) (by simp) k26 h
theorem few3_spec {v : Value} {l : List Col} {w : World} (hr : Rd w eC v l) : Pu Try.prog 26 #[v] w (.bool (few3M l)) := by
  refine in26 ?_
  have hS := (Sep.start w).nil 9 eS
  have hbd := hr.bd
  repeat' (first | refine G.seq ?_ | refine G.blk ?_ | refine G.endb ?_ | refine G.skip ?_ | refine G.exit rfl ?_ | refine G.reg fun K hK => ?_ | (with_reducible (refine hK _ _ ?_); clear hK K) | (with_reducible (refine hK _ ?_); clear hK K; intro wd hxd; have hS := Sep.ext (by assumption) hxd) | (have hk := hK; clear hk; simp (disch := (first | exact dis | fail)) only [push_cast, ↓reduceIte, Nat.reduceAdd, Nat.reduceLeDiff, Nat.reduceEqDiff, Nat.reduceLT, Int.reduceToNat]) | ((first | refine brO_mk ?_ ?_ | refine brQ_mk ?_ ?_) <;> intro hb <;> (try simp only [Bool.not_eq_true', Bool.not_eq_false'] at hb) <;> have hc := hb <;> (try simp only [hcs, reduceCtorEq] at hc) <;> (try (exfalso; omega)) <;> simp only [hb] <;> clear hb) | (refine zalc ?_; intro gb wb hS) | (refine zbsl ?_; intro gb wb hS) | ((with_reducible (show SemK _ (Instr.box _ _) _ _ _ _)); refine zbox ?_; intro gb wb hS) | ((with_reducible (show StK _ _ (Value.pointer _) _ _ _ _ _)); refine zst ?_; intro wb hS; (try simp only [sets] at hS))  | (refine G.drt mixed fun K hK wd hxd => ?_; have hS := Sep.ext (by assumption) hxd) | with_reducible refine OT_leaf ?_ | with_reducible refine OT_br fun K2 hK2 => ?_ | (refine hK2 _ _ ?_ ?_ <;> clear hK2 K2) | refine G.drg mixed fun K hK => ?_ | (refine G.cond (by simp only [push_cast, ↓reduceIte, Nat.reduceAdd, Nat.reduceLeDiff, Nat.reduceEqDiff, Nat.reduceLT, Int.reduceToNat]; rfl) ?_ ?_ <;> intro hc <;> (try simp only [hcs, reduceCtorEq] at hc) <;> (try (exfalso; omega))))
  refine G.loop (fun r w' => ∃ (k : Nat) (lv : Value), k ≤ l.length ∧ k ≤ 21 ∧ r 8 = I k ∧ r 7 = I l.length ∧ r 6 = v ∧ r 3 = lv ∧ Sep w w' [accC lv 9 eS ((l.map (·.name)).take k)]) (fun r _ => l.length - toN (r 8)) ?_ ?_
  · refine ⟨0, .slice none 0 0, ?_⟩
    ((repeat' apply And.intro) <;> first | exact dj | (simp only [push_cast, ↓reduceIte, Nat.reduceAdd, Nat.reduceLeDiff, Nat.reduceEqDiff, Nat.reduceLT, Int.reduceToNat] <;> omega) | skip)
  · clear hS
    rintro u wl ⟨k, lv, hk, hk2, h8, h7, h6, h3, hS⟩ ih
    by_cases hlt : (k : Int) < l.length
    · have htk := mapT (·.name) l k hlt
      have hll := mapL (·.name) l k hk
      repeat' (first | refine G.seq ?_ | refine G.blk ?_ | refine G.endb ?_ | refine G.skip ?_ | refine G.exit rfl ?_ | refine G.reg fun K hK => ?_ | (with_reducible (refine hK _ _ ?_); clear hK K) | (with_reducible (refine hK _ ?_); clear hK K; intro wd hxd; have hS := Sep.ext (by assumption) hxd) | (have hk := hK; clear hk; simp (disch := (first | exact dis | fail)) only [push_cast, ↓reduceIte, Nat.reduceAdd, Nat.reduceLeDiff, Nat.reduceEqDiff, Nat.reduceLT, Int.reduceToNat, h8, h7, h6, h3, hll]) | ((first | refine brO_mk ?_ ?_ | refine brQ_mk ?_ ?_) <;> intro hb <;> (try simp only [Bool.not_eq_true', Bool.not_eq_false'] at hb) <;> have hc := hb <;> (try simp only [hcs, reduceCtorEq] at hc) <;> (try (exfalso; omega)) <;> simp only [hb] <;> clear hb) | (refine zalc ?_; intro gb wb hS) | (refine zbsl ?_; intro gb wb hS) | ((with_reducible (show SemK _ (Instr.box _ _) _ _ _ _)); refine zbox ?_; intro gb wb hS) | ((with_reducible (show StK _ _ (Value.pointer _) _ _ _ _ _)); refine zst ?_; intro wb hS; (try simp only [sets] at hS)) | (refine zap ?_; intro vb wb hS) | (refine G.drt mixed fun K hK wd hxd => ?_; have hS := Sep.ext (by assumption) hxd) | with_reducible refine OT_leaf ?_ | with_reducible refine OT_br fun K2 hK2 => ?_ | (refine hK2 _ _ ?_ ?_ <;> clear hK2 K2) | refine G.drg mixed fun K hK => ?_ | (refine G.cond (by simp only [push_cast, ↓reduceIte, Nat.reduceAdd, Nat.reduceLeDiff, Nat.reduceEqDiff, Nat.reduceLT, Int.reduceToNat, h8, h7, h6, h3, hll]; rfl) ?_ ?_ <;> intro hc <;> (try simp only [hcs, reduceCtorEq] at hc) <;> (try (exfalso; omega))))
      · ((first | apply G.rv1 rfl | apply G.rv2 rfl | apply G.rv3 rfl | apply G.ret0 rfl) <;> (first | exact RV.tmp | exact zag (by simp only [push_cast, ↓reduceIte, Nat.reduceAdd, Nat.reduceLeDiff, Nat.reduceEqDiff, Nat.reduceLT, Int.reduceToNat, h8, h7, h6, h3]; rfl) | skip)); (try simp (disch := (first | exact dis | fail)) only [push_cast, ↓reduceIte, Nat.reduceAdd, Nat.reduceLeDiff, Nat.reduceEqDiff, Nat.reduceLT, Int.reduceToNat, h8, h7, h6, h3])
        (refine ⟨?_, Sep.xt (by assumption)⟩)
        have : few3M l = false := by
          simp only [few3M]
          exact decide_eq_false (by omega)
        rw [this]
      · rw [← htk] at hS
        (refine ih _ _ ⟨k + 1, vb, ?_⟩ ?_; rotate_left; (focus ((simp only [push_cast, ↓reduceIte, Nat.reduceAdd, Nat.reduceLeDiff, Nat.reduceEqDiff, Nat.reduceLT, Int.reduceToNat, toN_i, h8, h7, h6, h3] <;> omega))); ((repeat' apply And.intro) <;> first | exact dj | (simp only [push_cast, ↓reduceIte, Nat.reduceAdd, Nat.reduceLeDiff, Nat.reduceEqDiff, Nat.reduceLT, Int.reduceToNat, h8, h7, h6, h3] <;> omega) | skip))
    · have hll : (l.map (·.name)).length = l.length := List.length_map _
      rw [List.take_of_length_le (by simp; omega)] at hS
      have h1 : One lv := (Sep.rd hS (by repeat constructor) : Rd wl eS lv (l.map (·.name))).one
      repeat' (first | refine G.seq ?_ | refine G.blk ?_ | refine G.endb ?_ | refine G.skip ?_ | refine G.exit rfl ?_ | refine G.reg fun K hK => ?_ | (with_reducible (refine hK _ _ ?_); clear hK K) | (with_reducible (refine hK _ ?_); clear hK K; intro wd hxd; have hS := Sep.ext (by assumption) hxd) | (have hk := hK; clear hk; simp (disch := (first | exact dis | fail)) only [push_cast, ↓reduceIte, Nat.reduceAdd, Nat.reduceLeDiff, Nat.reduceEqDiff, Nat.reduceLT, Int.reduceToNat, h8, h7, h6, h3]) | ((first | refine brO_mk ?_ ?_ | refine brQ_mk ?_ ?_) <;> intro hb <;> (try simp only [Bool.not_eq_true', Bool.not_eq_false'] at hb) <;> have hc := hb <;> (try simp only [hcs, reduceCtorEq] at hc) <;> (try (exfalso; omega)) <;> simp only [hb] <;> clear hb) | (refine zalc ?_; intro gb wb hS) | (refine zbsl ?_; intro gb wb hS) | ((with_reducible (show SemK _ (Instr.box _ _) _ _ _ _)); refine zbox ?_; intro gb wb hS) | ((with_reducible (show StK _ _ (Value.pointer _) _ _ _ _ _)); refine zst ?_; intro wb hS; (try simp only [sets] at hS)) | (refine zcp 50 (great_spec (rdN1 (l := l.map (·.name)) (Sep.blk hS (by repeat constructor)) (Sep.rd hS (by repeat constructor))) (by omega) (by omega)) ?_; intro wb hS) | (refine G.drt mixed fun K hK wd hxd => ?_; have hS := Sep.ext (by assumption) hxd) | with_reducible refine OT_leaf ?_ | with_reducible refine OT_br fun K2 hK2 => ?_ | (refine hK2 _ _ ?_ ?_ <;> clear hK2 K2) | refine G.drg mixed fun K hK => ?_ | (refine G.cond (by simp only [push_cast, ↓reduceIte, Nat.reduceAdd, Nat.reduceLeDiff, Nat.reduceEqDiff, Nat.reduceLT, Int.reduceToNat, h8, h7, h6, h3]; rfl) ?_ ?_ <;> intro hc <;> (try simp only [hcs, reduceCtorEq] at hc) <;> (try (exfalso; omega))))
      ((first | apply G.rv1 rfl | apply G.rv2 rfl | apply G.rv3 rfl | apply G.ret0 rfl) <;> (first | exact RV.tmp | exact zag (by simp only [push_cast, ↓reduceIte, Nat.reduceAdd, Nat.reduceLeDiff, Nat.reduceEqDiff, Nat.reduceLT, Int.reduceToNat, h8, h7, h6, h3]; rfl) | skip)); (try simp (disch := (first | exact dis | fail)) only [push_cast, ↓reduceIte, Nat.reduceAdd, Nat.reduceLeDiff, Nat.reduceEqDiff, Nat.reduceLT, Int.reduceToNat, h8, h7, h6, h3])
      have e : few3M l = !(greatM [l.map (·.name)] 1 20 300) := by
        rw [great_one _ _ _ (by omega), Bool.not_not, hll]; rfl
      rw [e]
      (first | exact Sep.xt (by assumption) | exact ⟨rfl, Sep.xt (by assumption)⟩)
theorem blk_rdC18 {w : World} {g n : Nat} {t : TypeId} (ys : List Col) (h : Blk w g t (ys.flatMap eC.f).toArray) (hn : n = ys.length) (hm : ys.length ≤ 1000000) : Rd w eC (.slice (some ⟨g, 0, none⟩) n n) ys :=
  blk_rd h hn (Nat.le_refl _) (by omega) (fun u hu => by
    obtain ⟨s, _, hu⟩ := List.mem_flatMap.1 hu
    simp [eC] at hu
    rcases hu with rfl | rfl | rfl
    · exact one_s
    · exact one_i
    · exact one_b)
def c12 : MC := (.seq (.reg [qq 0 (.mv (kb false))]) (.seq (.reg [qq 5 (.call 13 [(.const (S [105, 110, 116, 32, 105, 100, 10, 116, 101, 120, 116, 63, 32, 110, 97, 109, 101, 10]))]), qm 4 5, qq 6 (.ext 0 (.tmp 4)), qq 7 (.ext 1 (.tmp 4)), qq 8 (.ext 2 (.tmp 4)), qm 1 6, qm 2 7, qm 3 8]) (.seq (.reg [qm 9 3, qq 10 (.bin .eql (.tmp 9) (ki 0)), qm 11 10, qmt 11 12 2, qt 11 13 (.bin .eql (.tmp 12) (ki 2)), qq 14 (.pick (.tmp 11) (.tmp 13) (kb false)), qm 15 14, qmt 15 16 1, qt 15 17 (.len (.tmp 16)), qt 15 18 (.bin .eql (.tmp 17) (ki 2)), qq 19 (.pick (.tmp 15) (.tmp 18) (kb false)), qm 20 19, qmt 20 21 1, qt 20 22 (.adr 3 (.tmp 21) (ki 1)), qt 20 23 (.ld (.some 3) (.tmp 22)), qt 20 24 (.bld [(S []), (.int .i64 0), (.bool false)] [⟨0, ⟨1, (.const (S [110, 97, 109, 101]))⟩⟩, ⟨1, ⟨1, (ki 1)⟩⟩, ⟨2, ⟨1, (kb true)⟩⟩]), qt 20 25 (.eqA false [.s, .i, .b] (.tmp 23) (.tmp 24)), qq 26 (.pick (.tmp 20) (.tmp 25) (kb false)), qm 0 26]) .ret)))
theorem k12 : conv Try.prog 27 (Try.f12.body.getD .skip) = c12 := by kernel_rfl
theorem in12 {w : World} {R : Value → World → Prop} (h : G Try.prog Try.f12 27 [.c c12] R (frL 0 []) w) : Ret Try.prog 12 #[] w R := G.enter (args := []) Try.func12 (c := Try.f12.body.getD .skip) (by kernel_rfl) (by kernel_rfl) (by simp) k12 h
theorem awake3_spec (w : World) : Pu Try.prog 12 #[] w (.bool true) := by
  refine in12 ?_
  have hS := Sep.start w
  have hp : prsM [105, 110, 116, 32, 105, 100, 10, 116, 101, 120, 116, 63, 32, 110, 97, 109, 101, 10] = ([⟨[105, 100], 2, false⟩, ⟨[110, 97, 109, 101], 1, true⟩], 2, 0) := by kernel_rfl
  repeat' (first | refine G.seq ?_ | refine G.blk ?_ | refine G.endb ?_ | refine G.skip ?_ | refine G.exit rfl ?_ | refine G.reg fun K hK => ?_ | (with_reducible (refine hK _ _ ?_); clear hK K) | (with_reducible (refine hK _ ?_); clear hK K; intro wd hxd; have hS := Sep.ext (by assumption) hxd) | (have hk := hK; clear hk; simp (disch := (first | exact dis | fail)) only [push_cast, ↓reduceIte, Nat.reduceAdd, Nat.reduceLeDiff, Nat.reduceEqDiff, Nat.reduceLT, Int.reduceToNat, hp]) | ((first | refine brO_mk ?_ ?_ | refine brQ_mk ?_ ?_) <;> intro hb <;> (try simp only [Bool.not_eq_true', Bool.not_eq_false'] at hb) <;> have hc := hb <;> (try simp only [hcs, reduceCtorEq] at hc) <;> (try (exfalso; omega)) <;> simp only [hb] <;> clear hb) | (refine zalc ?_; intro gb wb hS) | (refine zbsl ?_; intro gb wb hS) | ((with_reducible (show SemK _ (Instr.box _ _) _ _ _ _)); refine zbox ?_; intro gb wb hS) | ((with_reducible (show StK _ _ (Value.pointer _) _ _ _ _ _)); refine zst ?_; intro wb hS; (try simp only [sets] at hS)) | (refine zco 13 (parse_spec _ _ (by simp)) ?_; rintro vb wb ⟨lv, rfl, hS2⟩; have hS := hS2.ap; simp only [apps] at hS) | (refine G.drt mixed fun K hK wd hxd => ?_; have hS := Sep.ext (by assumption) hxd) | with_reducible refine OT_leaf ?_ | with_reducible refine OT_br fun K2 hK2 => ?_ | (refine hK2 _ _ ?_ ?_ <;> clear hK2 K2) | refine G.drg mixed fun K hK => ?_ | (refine G.cond (by simp only [push_cast, ↓reduceIte, Nat.reduceAdd, Nat.reduceLeDiff, Nat.reduceEqDiff, Nat.reduceLT, Int.reduceToNat, hp]; rfl) ?_ ?_ <;> intro hc <;> (try simp only [hcs, reduceCtorEq] at hc) <;> (try (exfalso; omega))))
  rw [hp] at hS
  repeat' (first | refine G.seq ?_ | refine G.blk ?_ | refine G.endb ?_ | refine G.skip ?_ | refine G.exit rfl ?_ | refine G.reg fun K hK => ?_ | (with_reducible (refine hK _ _ ?_); clear hK K) | (with_reducible (refine hK _ ?_); clear hK K; intro wd hxd; have hS := Sep.ext (by assumption) hxd) | (have hk := hK; clear hk; simp (disch := (first | exact dis | fail)) only [push_cast, ↓reduceIte, Nat.reduceAdd, Nat.reduceLeDiff, Nat.reduceEqDiff, Nat.reduceLT, Int.reduceToNat]) | ((first | refine brO_mk ?_ ?_ | refine brQ_mk ?_ ?_) <;> intro hb <;> (try simp only [Bool.not_eq_true', Bool.not_eq_false'] at hb) <;> have hc := hb <;> (try simp only [hcs, reduceCtorEq] at hc) <;> (try (exfalso; omega)) <;> simp only [hb] <;> clear hb) | (refine zalc ?_; intro gb wb hS) | (refine zbsl ?_; intro gb wb hS) | ((with_reducible (show SemK _ (Instr.box _ _) _ _ _ _)); refine zbox ?_; intro gb wb hS) | ((with_reducible (show StK _ _ (Value.pointer _) _ _ _ _ _)); refine zst ?_; intro wb hS; (try simp only [sets] at hS))  | (refine G.drt mixed fun K hK wd hxd => ?_; have hS := Sep.ext (by assumption) hxd) | with_reducible refine OT_leaf ?_ | with_reducible refine OT_br fun K2 hK2 => ?_ | (refine hK2 _ _ ?_ ?_ <;> clear hK2 K2) | refine G.drg mixed fun K hK => ?_ | (refine G.cond (by simp only [push_cast, ↓reduceIte, Nat.reduceAdd, Nat.reduceLeDiff, Nat.reduceEqDiff, Nat.reduceLT, Int.reduceToNat]; rfl) ?_ ?_ <;> intro hc <;> (try simp only [hcs, reduceCtorEq] at hc) <;> (try (exfalso; omega))))
  ((first | apply G.rv1 rfl | apply G.rv2 rfl | apply G.rv3 rfl | apply G.ret0 rfl) <;> (first | exact RV.tmp | exact zag (by simp only [push_cast, ↓reduceIte, Nat.reduceAdd, Nat.reduceLeDiff, Nat.reduceEqDiff, Nat.reduceLT, Int.reduceToNat]; rfl) | skip)); (try simp (disch := (first | exact dis | fail)) only [push_cast, ↓reduceIte, Nat.reduceAdd, Nat.reduceLeDiff, Nat.reduceEqDiff, Nat.reduceLT, Int.reduceToNat])
  exact Sep.xt (by assumption)
end Go.Proofs.Ytilfcgnepgacpaa
