/- Chapter 06: walk and Parse. -/
import Derived.Test.YtdhieolfdlkeaaaZ06
import Derived.Test.YtdhieolfdlkeaaaI06
namespace Go.Proofs.Ytdhieolfdlkeaaa
set_option linter.unusedSimpArgs false
set_option linter.unusedVariables false
attribute [local irreducible] SemK UnitK StK AlcK BslK CallK CallV Instr.box Builtin.append_ Instr.makeSlice Instr.makeMap Instr.lookup Instr.mapUpdate Instr.sliceAt convert
open Go.RowKit
theorem ex_mid (c : Chk) (B : List Chk) : ∀ A : List Chk, Ex c (A ++ c :: B) (A ++ B)
  | [] => .h
  | _ :: A => .t (ex_mid c B A)
theorem sub_comm (A : List Chk) : ∀ B : List Chk, Sub (B ++ A) (A ++ B)
  | [] => by rw [List.append_nil]; exact Sub.rfl'
  | b :: B => .c (ex_mid b B A) (sub_comm A B)
theorem Sep.comm {w0 w : World} {A B : List Chk} (h : Sep w0 w (A ++ B)) : Sep w0 w (B ++ A) := h.sub (sub_comm A B)
def c81 : MC := (.seq (.reg [qq 1 (.raw (.box 25 (.tmp 0)) 0), qq 2 (.mv (.const (.pointer none))), qq 3 (.mv (ki 0))]) (.seq (.seq (.reg [qq 5 (.ld (.some 4) (.tmp 1)), qq 6 (.call 108 [(.tmp 5)]), qm 4 6]) (.seq (.reg [qm 7 4, qq 8 (.bin .neq (.tmp 7) (ki 0))]) (.cond (.tmp 8) (.seq (.reg [qm 9 4, qq 2 (.mv (.const (.pointer none))), qm 3 9]) .ret) .skip))) (.seq (.reg [qq 10 (.ld (.some 4) (.tmp 1)), qq 11 (.bld [(.int .i64 0), (.int .i64 0), (.int .i64 0), (.bool false), (.slice none 0 0), (.slice none 0 0), (.int .i64 0), (.int .i64 0), (.int .i64 0), (.int .i64 0)] [⟨0, ⟨4, (.tmp 10)⟩⟩]), qq 12 (.raw (.box 176 (.tmp 11)) 134), qm 2 12, qq 3 (.mv (ki 0))]) .ret)))
theorem k81 : conv Try.prog 13 (Try.f81.body.getD .skip) = c81 := by kernel_rfl
theorem in81 {a0 : Value} {w : World} {R : Value → World → Prop} (h : G Try.prog Try.f81 13 [.c c81] R (frL 0 [a0]) w) : Ret Try.prog 81 #[a0] w R := G.enter (args := [a0]) Try.func81 (c := Try.f81.body.getD .skip) (by kernel_rfl) (by kernel_rfl) (by simp) k81 h
theorem fnew_no (l : Lm) (w : World) (h : fitsL l = false) : Pu Try.prog 81 #[(.agg #[I l.F, I l.N, I l.R, .bool l.U])] w (.tuple #[.pointer none, I 2]) := by
  refine in81 ?_
  have hS := Sep.start w
  (have fct := @h; repeat' (first | ((with_reducible apply G.a); exact rfl) | refine G.reg fun K hK => ?_ | (with_reducible (refine hK _ _ ?_); clear hK K) | (have hk := hK; clear hk; simp (disch := (first | exact dis | fail)) only [push_cast, ↓reduceIte, Nat.reduceAdd, Nat.reduceLeDiff, Nat.reduceEqDiff, Nat.reduceLT, Int.reduceToNat, fct]) | (refine brO_n ?_ ?_ <;> intro hb hc <;> first | (with_reducible exact False.elim hc) | (exfalso; omega) | (simp only [hb]; clear hb)) | ((first | refine zalc ?_ | refine zbsl ?_ | ((with_reducible refine gBox ?_); refine zbox ?_)); intro gb wb hS) | ((with_reducible refine gSt ?_); refine zs2 ?_; intro wb hS) | (refine zcv ?_) | (refine zcp 108 (checkL_spec l _) ?_; intro wb hS) | (refine G.cn ?_ ?_ <;> intro hc <;> first | (with_reducible exact False.elim hc) | (exfalso; omega) | skip))) <;> (try clear fct)
  all_goals
    ((first | apply G.rv1 rfl | apply G.rv2 rfl | apply G.rv3 rfl | apply G.ret0 rfl) <;> first | exact RV.tmp | exact zag2 | skip); (try simp (disch := (first | exact dis | fail)) only [push_cast, ↓reduceIte, Nat.reduceAdd, Nat.reduceLeDiff, Nat.reduceEqDiff, Nat.reduceLT, Int.reduceToNat, fct])
    (first | exact Sep.xt (by assumption) | exact ⟨rfl, Sep.xt (by assumption)⟩)
theorem fnew_yes (l : Lm) (w : World) (h : fitsL l = true) : Ret Try.prog 81 #[(.agg #[I l.F, I l.N, I l.R, .bool l.U])] w fun res w' => ∃ g fv rv, res = .tuple #[.pointer (some ⟨g, 0, none⟩), I 0] ∧ Sep w w' [boxC g 176 [I l.F, I l.N, I l.R, .bool l.U, fv, rv, I 0, I 0, I 0, I 0], accC fv 5 eU [], accC rv 9 eS []] := by
  refine in81 ?_
  have hS := Sep.start w
  (have fct := @h; repeat' (first | ((with_reducible apply G.a); exact rfl) | refine G.reg fun K hK => ?_ | (with_reducible (refine hK _ _ ?_); clear hK K) | (have hk := hK; clear hk; simp (disch := (first | exact dis | fail)) only [push_cast, ↓reduceIte, Nat.reduceAdd, Nat.reduceLeDiff, Nat.reduceEqDiff, Nat.reduceLT, Int.reduceToNat, fct]) | (refine brO_n ?_ ?_ <;> intro hb hc <;> first | (with_reducible exact False.elim hc) | (exfalso; omega) | (simp only [hb]; clear hb)) | ((first | refine zalc ?_ | refine zbsl ?_ | ((with_reducible refine gBox ?_); refine zbox ?_)); intro gb wb hS) | ((with_reducible refine gSt ?_); refine zs2 ?_; intro wb hS) | (refine zcv ?_) | (refine zcp 108 (checkL_spec l _) ?_; intro wb hS) | (refine G.cn ?_ ?_ <;> intro hc <;> first | (with_reducible exact False.elim hc) | (exfalso; omega) | skip))) <;> (try clear fct)
  all_goals
    ((first | apply G.rv1 rfl | apply G.rv2 rfl | apply G.rv3 rfl | apply G.ret0 rfl) <;> first | exact RV.tmp | exact zag2 | skip); (try simp (disch := (first | exact dis | fail)) only [push_cast, ↓reduceIte, Nat.reduceAdd, Nat.reduceLeDiff, Nat.reduceEqDiff, Nat.reduceLT, Int.reduceToNat, fct])
    have hS := (hS.nil 5 eU).nil 9 eS
    exact ⟨_, .slice none 0 0, .slice none 0 0, rfl, Sep.sub hS (by repeat first | exact Sub.rfl' | (refine Sub.c (by repeat constructor) ?_) | refine Sub.skip ?_)⟩
/-- What is taken of records, and whether that stops. -/
def goN (go : List (List Str) → Bool) : List (List Str) → List (List Str) → List (List Str) × Bool
  | acc, [] => (acc, false)
  | acc, r :: rs => if go (acc ++ [r]) = true then goN go (acc ++ [r]) rs else (acc ++ [r], true)
theorem goN_app (go : List (List Str) → Bool) (y : List (List Str)) : ∀ (x a : List (List Str)), goN go a (x ++ y) = if (goN go a x).2 = true then goN go a x else goN go (goN go a x).1 y
  | [], a => by simp [goN]
  | r :: x, a => by
    rw [List.cons_append, goN, goN]
    split
    · exact goN_app go y x _
    · rfl
theorem goN_all (go : List (List Str) → Bool) : ∀ (x a : List (List Str)), (goN go a x).2 = false → (goN go a x).1 = a ++ x
  | [], a, _ => by simp [goN]
  | r :: x, a, h => by
    rw [goN] at h ⊢
    split at h
    · rename_i h2; rw [if_pos h2, goN_all go x _ h]; simp
    · simp at h
/-- A function value that is handed each record. -/
structure TakeOK (tv : Value) (TSL : List (List Str) → List Chk → Prop) (go : List (List Str) → Bool) : Prop where
  ok : ∀ {xss : List (List Str)} {r : List Str} {rv : Value} {w0 w : World} {M L : List Chk} {d : Option Nat} {ρ : Fr} {next : Fr → World → Prop}, TSL xss L → (goN go [] xss).2 = false → xss.length ≤ 1000000000 → Sep w0 w (accC rv 9 eS r :: (M ++ L)) →
    (∀ w' L', TSL (xss ++ [r]) L' → Sep w0 w' (M ++ L') → next (updO ρ d (.bool (go (xss ++ [r])))) w') → CallV Try.prog tv [rv] w d ρ next
def walkM (d : Dl) (l : Lm) (s : Str) : Rs := if rightD d = false then ⟨[], 1, 0⟩ else if fitsL l = false then ⟨[], 2, 0⟩ else parM d l s
theorem wrun_zero (d : Dl) (l : Lm) : ∀ (t : Str) (q st : Int) (m : Mk) (p : Nat), (wrun d l q st m p t).k = 0 → (wrun d l q st m p t).a = 0 := by
  intro t
  induction t with
  | nil =>
    intro q st m p h
    rw [wrun_nil] at h ⊢
    cases he : endW l q st m with
    | error k => rw [he] at h; have := endW_err he; simp at h; omega
    | ok r => rfl
  | cons b t ih =>
    intro q st m p h
    rw [wrun_cons] at h ⊢
    cases he : stepW d l q st m b with
    | error k => rw [he] at h; have := stepW_err he; simp at h; omega
    | ok x => rw [he] at h; exact ih _ _ _ _ h
theorem dropB06 (l : Str) (k : Nat) (h : (k : Int) < l.length) : l.drop k = l.getD k 0 :: l.drop (k + 1) := by
  have h' : k < l.length := by omega
  rw [List.drop_eq_getElem_cons h', List.getD_eq_getElem?_getD, List.getElem?_eq_getElem h']; rfl
def c54l1 : MC := (.seq (.seq (.reg [qm 51 15, qm 52 2, qq 53 (.lenS (.tmp 52)), qq 54 (.bin .lss (.tmp 51) (.tmp 53))]) (.cond (.tmp 54) .skip (.exit 0))) (.seq (.blk 1 (.seq (.reg [qm 58 2, qm 59 15, qq 60 (.idxS (.tmp 58) (.tmp 59)), qq 61 (.call 83 [(.tmp 12), (.tmp 60)]), qm 57 61, qq 62 (.ext 0 (.tmp 57)), qq 63 (.ext 1 (.tmp 57)), qq 64 (.ext 2 (.tmp 57)), qm 17 62, qm 18 63, qm 19 64]) (.blk 2 (.seq (.reg [qm 66 19, qq 67 (.bin .neq (.tmp 66) (ki 0)), qm 65 67]) (.cond (.tmp 65) (.seq (.reg [qm 68 19, qm 16 68]) (.exit 0)) (.seq (.reg [qm 70 18, qm 71 70, qmt 71 72 3, qmt 71 73 17, qt 71 74 (.raw (.call ⟨(.value (.tmp 72)), #[(.tmp 73)], #[47]⟩) 4), qt 71 75 (.un .not (.tmp 74)), qq 76 (.pick (.tmp 71) (.tmp 75) (kb false)), qm 69 76]) (.cond (.tmp 69) (.seq (.reg [qq 77 (.bld [(.int .i64 0), (.int .i64 0)] []), qn (.st 2 (.tmp 8) (.tmp 77))]) .ret) .skip))))))) (.reg [qm 55 15, qq 56 (.bin .add (.tmp 55) (ki 1)), qm 15 56])))
def c54 : MC := (.seq (.reg [qq 4 (.raw (.box 23 (.tmp 0)) 0), qq 5 (.raw (.box 25 (.tmp 1)) 0), qq 8 (.alc 30 [(.int .i64 0), (.int .i64 0)])]) (.scp (.seq (.seq (.reg [qq 23 (.ld (.some 3) (.tmp 4)), qq 24 (.call 63 [(.tmp 23)]), qm 9 24]) (.seq (.reg [qm 25 9, qq 26 (.bin .neq (.tmp 25) (ki 0))]) (.cond (.tmp 26) (.seq (.reg [qm 27 9, qq 28 (.bld [(.int .i64 0), (.int .i64 0)] [⟨0, ⟨1, (.tmp 27)⟩⟩]), qn (.st 2 (.tmp 8) (.tmp 28))]) .ret) .skip))) (.seq (.reg [qq 30 (.ld (.some 4) (.tmp 5)), qq 31 (.call 81 [(.tmp 30)]), qm 29 31, qq 32 (.ext 0 (.tmp 29)), qq 33 (.ext 1 (.tmp 29)), qm 10 32, qm 11 33]) (.seq (.seq (.reg [qm 34 11, qq 35 (.bin .neq (.tmp 34) (ki 0))]) (.cond (.tmp 35) (.seq (.reg [qm 36 11, qq 37 (.bld [(.int .i64 0), (.int .i64 0)] [⟨0, ⟨1, (.tmp 36)⟩⟩]), qn (.st 2 (.tmp 8) (.tmp 37))]) .ret) .skip)) (.seq (.reg [qq 38 (.ld (.some 3) (.tmp 4)), qm 39 10, qq 40 (.bld [(.int .u8 0), (.int .u8 0), (.int .i64 0), (.pointer none), (.int .i64 0), (.int .i64 0)] [⟨0, ⟨3, (.tmp 38)⟩⟩, ⟨3, ⟨1, (.tmp 39)⟩⟩]), qq 12 (.alc 138 [(.int .u8 0), (.int .u8 0), (.int .i64 0), (.pointer none), (.int .i64 0), (.int .i64 0)]), qn (.st 6 (.tmp 12) (.tmp 40))]) (.seq (.reg [qm 42 2, qq 43 (.call 82 [(.tmp 42)]), qm 41 43, qq 44 (.ext 0 (.tmp 41)), qq 45 (.ext 1 (.tmp 41)), qm 13 44, qm 14 45]) (.seq (.reg [qm 46 2, qq 47 (.lenS (.tmp 46)), qm 48 13, qq 49 (.lenS (.tmp 48)), qq 50 (.bin .sub (.tmp 47) (.tmp 49)), qm 15 50]) (.seq (.reg [qq 16 (.mv (ki 0))]) (.seq .lab (.seq (.blk 0 (.loop c54l1)) (.seq (.seq (.reg [qm 78 16, qq 79 (.bin .eql (.tmp 78) (ki 0))]) (.cond (.tmp 79) (.seq (.reg [qq 81 (.call 84 [(.tmp 12)]), qm 80 81, qq 82 (.ext 0 (.tmp 80)), qq 83 (.ext 1 (.tmp 80)), qq 84 (.ext 2 (.tmp 80)), qm 20 82, qm 21 83, qm 22 84]) (.seq (.seq (.reg [qm 85 21]) (.cond (.tmp 85) (.reg [qm 86 3, qm 87 20, qq 88 (.raw (.call ⟨(.value (.tmp 86)), #[(.tmp 87)], #[47]⟩) 4)]) .skip)) (.reg [qm 89 22, qm 16 89]))) .skip)) (.seq (.seq (.reg [qm 90 16, qq 91 (.bin .eql (.tmp 90) (ki 0))]) (.cond (.tmp 91) (.seq (.reg [qq 92 (.bld [(.int .i64 0), (.int .i64 0)] []), qn (.st 2 (.tmp 8) (.tmp 92))]) .ret) .skip)) (.seq (.reg [qm 93 16, qm 94 15, qq 95 (.bld [(.int .i64 0), (.int .i64 0)] [⟨0, ⟨1, (.tmp 93)⟩⟩, ⟨1, ⟨1, (.tmp 94)⟩⟩]), qn (.st 2 (.tmp 8) (.tmp 95))]) .ret))))))))))))))
theorem k54 : conv Try.prog 96 (Try.f54.body.getD .skip) = c54 := by kernel_rfl
theorem in54 {a0 a1 a2 a3 : Value} {w : World} {R : Value → World → Prop} (h : G Try.prog Try.f54 96 [.c c54] R (frL 0 [a0, a1, a2, a3]) w) : Ret Try.prog 54 #[a0, a1, a2, a3] w R := G.enter (args := [a0, a1, a2, a3]) Try.func54 (c := Try.f54.body.getD .skip) (by kernel_rfl) (by kernel_rfl) (by simp) k54 h
set_option maxHeartbeats 2000000 in
theorem walk_spec {tv : Value} {TSL : List (List Str) → List Chk → Prop} {go : List (List Str) → Bool} (hT : TakeOK tv TSL go) (d : Dl) (l : Lm) (s : Str) {w0 w : World} {L : List Chk} (hl : s.length ≤ 1000000) (hS : Sep w0 w L) (hL : TSL [] L) :
    Ret Try.prog 54 #[(.agg #[U d.dl, U d.q, I d.e]), (.agg #[I l.F, I l.N, I l.R, .bool l.U]), S s, tv] w fun res w' => res = .agg #[I (if (goN go [] ((walkM d l s).rs.map (·.1))).2 = true then 0 else (walkM d l s).k), I (if (goN go [] ((walkM d l s).rs.map (·.1))).2 = true then 0 else (walkM d l s).a)] ∧ ∃ L', TSL (goN go [] ((walkM d l s).rs.map (·.1))).1 L' ∧ Sep w0 w' L' := by
  refine in54 ?_
  unfold walkM
  cases hr : rightD d
  · rw [if_pos rfl]
    (have fct := @hr; repeat' (first | ((with_reducible apply G.a); exact rfl) | refine G.reg fun K hK => ?_ | (with_reducible (refine hK _ _ ?_); clear hK K) | (have hk := hK; clear hk; simp (disch := (first | exact dis | fail)) only [push_cast, ↓reduceIte, Nat.reduceAdd, Nat.reduceLeDiff, Nat.reduceEqDiff, Nat.reduceLT, Int.reduceToNat, fct]) | (refine brO_n ?_ ?_ <;> intro hb hc <;> first | (with_reducible exact False.elim hc) | (exfalso; omega) | (simp only [hb]; clear hb)) | ((first | refine zalc ?_ | refine zbsl ?_ | ((with_reducible refine gBox ?_); refine zbox ?_)); intro gb wb hS) | ((with_reducible refine gSt ?_); refine zs2 ?_; intro wb hS) | (refine zcv ?_) | (refine zcp 63 (checkD_spec d _) ?_; intro wb hS) | (refine G.cn ?_ ?_ <;> intro hc <;> first | (with_reducible exact False.elim hc) | (exfalso; omega) | skip))) <;> (try clear fct)
    all_goals
      ((first | apply G.rv1 rfl | apply G.rv2 rfl | apply G.rv3 rfl | apply G.ret0 rfl) <;> first | exact RV.tmp | exact zag2 | skip); (try simp (disch := (first | exact dis | fail)) only [push_cast, ↓reduceIte, Nat.reduceAdd, Nat.reduceLeDiff, Nat.reduceEqDiff, Nat.reduceLT, Int.reduceToNat, fct])
      exact ⟨by simp [goN], L, hL, Sep.sub hS (by repeat first | exact Sub.rfl' | (refine Sub.c (by repeat constructor) ?_) | refine Sub.skip ?_)⟩
  · rw [if_neg (show ¬ true = false by decide)]
    cases hf : fitsL l
    · rw [if_pos rfl]
      (have fct := @hr; repeat' (first | ((with_reducible apply G.a); exact rfl) | refine G.reg fun K hK => ?_ | (with_reducible (refine hK _ _ ?_); clear hK K) | (have hk := hK; clear hk; simp (disch := (first | exact dis | fail)) only [push_cast, ↓reduceIte, Nat.reduceAdd, Nat.reduceLeDiff, Nat.reduceEqDiff, Nat.reduceLT, Int.reduceToNat, fct]) | (refine brO_n ?_ ?_ <;> intro hb hc <;> first | (with_reducible exact False.elim hc) | (exfalso; omega) | (simp only [hb]; clear hb)) | ((first | refine zalc ?_ | refine zbsl ?_ | ((with_reducible refine gBox ?_); refine zbox ?_)); intro gb wb hS) | ((with_reducible refine gSt ?_); refine zs2 ?_; intro wb hS) | (refine zcv ?_) | (refine zcp 63 (checkD_spec d _) ?_; intro wb hS) | (refine zcp 81 (fnew_no l _ hf) ?_; intro wb hS) | (refine G.cn ?_ ?_ <;> intro hc <;> first | (with_reducible exact False.elim hc) | (exfalso; omega) | skip))) <;> (try clear fct)
      all_goals
        ((first | apply G.rv1 rfl | apply G.rv2 rfl | apply G.rv3 rfl | apply G.ret0 rfl) <;> first | exact RV.tmp | exact zag2 | skip); (try simp (disch := (first | exact dis | fail)) only [push_cast, ↓reduceIte, Nat.reduceAdd, Nat.reduceLeDiff, Nat.reduceEqDiff, Nat.reduceLT, Int.reduceToNat, fct])
        exact ⟨by simp [goN], L, hL, Sep.sub hS (by repeat first | exact Sub.rfl' | (refine Sub.c (by repeat constructor) ?_) | refine Sub.skip ?_)⟩
    · rw [if_neg (show ¬ true = false by decide)]
      unfold parM
      obtain ⟨hsd, hsl⟩ := strip_drop s
      generalize hoff : s.length - (stripM s).length = off at *
      have hI : (s.length : Int) - ((stripM s).length : Int) = off := by omega
      have hoff2 : off ≤ s.length := by omega
      have hR0 : wrun d l 0 0 {} off (stripM s) = wrun d l 0 0 {} off (s.drop off) := by rw [← hsd]
      rw [hR0]
      (have fct := @hr; repeat' (first | ((with_reducible apply G.a); exact rfl) | refine G.reg fun K hK => ?_ | (with_reducible (refine hK _ _ ?_); clear hK K) | (have hk := hK; clear hk; simp (disch := (first | exact dis | fail)) only [push_cast, ↓reduceIte, Nat.reduceAdd, Nat.reduceLeDiff, Nat.reduceEqDiff, Nat.reduceLT, Int.reduceToNat, fct]) | (refine brO_n ?_ ?_ <;> intro hb hc <;> first | (with_reducible exact False.elim hc) | (exfalso; omega) | (simp only [hb]; clear hb)) | ((first | refine zalc ?_ | refine zbsl ?_ | ((with_reducible refine gBox ?_); refine zbox ?_)); intro gb wb hS) | ((with_reducible refine gSt ?_); refine zs2 ?_; intro wb hS) | (refine zcv ?_) | (refine zcp 63 (checkD_spec d _) ?_; intro wb hS) | (refine zco 81 (fnew_yes l _ hf) ?_; rintro vb wb ⟨g, fv, rv, rfl, hS2⟩; have hS := hS2.ap; simp only [apps] at hS) | (refine zcp 82 (strip_spec s _ (by omega)) ?_; intro wb hS) | (refine G.cn ?_ ?_ <;> intro hc <;> first | (with_reducible exact False.elim hc) | (exfalso; omega) | skip))) <;> (try clear fct)
      rename_i g8 _ _ _ _ _ _ _ _ _ _ _
      have hz := wrun_zero d l (s.drop off) 0 0 {} off
      generalize hR : wrun d l 0 0 {} off (s.drop off) = R at hz ⊢
      refine G.loop (fun r' w' => ∃ (p : Nat) (q st : Int) (m : Mk) (acc : List (List Str × Nat)) (L2 : List Chk) (fv rv : Value), p ≤ s.length ∧ r' 15 = I p ∧ r' 2 = S s ∧ r' 3 = tv ∧ r' 8 = .pointer (some ⟨g8, 0, none⟩) ∧ r' 12 = .pointer (some ⟨gb, 0, none⟩) ∧ r' 16 = I 0
        ∧ R = (wrun d l q st m p (s.drop p)).pre acc ∧ bdM (3 * p) m ∧ acc.length ≤ p ∧ (goN go [] (acc.map (·.1))).2 = false ∧ TSL (acc.map (·.1)) L2 ∧ Sep w0 w' (boxC gb 138 [U d.dl, U d.q, I d.e, .pointer (some ⟨g, 0, none⟩), I q, I st] :: boxC g 176 [I l.F, I l.N, I l.R, .bool l.U, fv, rv, I m.bg, I m.ct, I m.wd, I 0] :: accC fv 5 eU m.fl :: accC rv 9 eS m.rc :: boxC g8 30 [I 0, I 0] :: L2)) (fun r' _ => s.length - toN (r' 15)) ?_ ?_
      · have hS : Sep w0 _ (boxC gb 138 [U d.dl, U d.q, I d.e, .pointer (some ⟨g, 0, none⟩), I 0, I 0] :: boxC g 176 [I l.F, I l.N, I l.R, .bool l.U, fv, rv, I 0, I 0, I 0, I 0] :: accC fv 5 eU [] :: accC rv 9 eS [] :: boxC g8 30 [I 0, I 0] :: L) := Sep.sub hS (by repeat first | exact Sub.rfl' | (refine Sub.c (by repeat constructor) ?_) | refine Sub.skip ?_)
        exact ⟨off, 0, 0, {}, [], L, fv, rv, hoff2, by simp only [push_cast, ↓reduceIte, Nat.reduceAdd, Nat.reduceLeDiff, Nat.reduceEqDiff, Nat.reduceLT, Int.reduceToNat, hI], by simp only [push_cast, ↓reduceIte, Nat.reduceAdd, Nat.reduceLeDiff, Nat.reduceEqDiff, Nat.reduceLT, Int.reduceToNat], by simp only [push_cast, ↓reduceIte, Nat.reduceAdd, Nat.reduceLeDiff, Nat.reduceEqDiff, Nat.reduceLT, Int.reduceToNat], by simp only [push_cast, ↓reduceIte, Nat.reduceAdd, Nat.reduceLeDiff, Nat.reduceEqDiff, Nat.reduceLT, Int.reduceToNat], by simp only [push_cast, ↓reduceIte, Nat.reduceAdd, Nat.reduceLeDiff, Nat.reduceEqDiff, Nat.reduceLT, Int.reduceToNat], by simp only [push_cast, ↓reduceIte, Nat.reduceAdd, Nat.reduceLeDiff, Nat.reduceEqDiff, Nat.reduceLT, Int.reduceToNat], hR.symm, ⟨by simp, by simp, by simp, by simp⟩, by simp, rfl, hL, hS⟩
      · clear hS hS2
        rintro u wl ⟨p, q, st, m, acc, L2, fv, rv, hp, h15, q2, q3, q8, q12, q16, e, hb, hac, hgo, hL, hS⟩ ih
        have hgo1 := goN_all go _ _ hgo
        rw [List.nil_append] at hgo1
        by_cases hlt : (p : Int) < s.length
        · rw [dropB06 s p hlt, wrun_cons] at e
          cases hsw : stepW d l q st m (s.getD p 0) with
          | error k =>
            rw [hsw] at e
            have hk := stepW_err hsw
            have hR2 : R = ⟨acc, k, p⟩ := by rw [e]; simp [Rs.pre]
            subst hR2
            (have fct := (And.intro @h15 (And.intro @q2 (And.intro @q3 (And.intro @q8 (And.intro @q12 @q16))))); repeat' (first | ((with_reducible apply G.a); exact rfl) | refine G.reg fun K hK => ?_ | (with_reducible (refine hK _ _ ?_); clear hK K) | (have hk := hK; clear hk; simp (disch := (first | exact dis | fail)) only [push_cast, ↓reduceIte, Nat.reduceAdd, Nat.reduceLeDiff, Nat.reduceEqDiff, Nat.reduceLT, Int.reduceToNat, fct]) | (refine brO_n ?_ ?_ <;> intro hb hc <;> first | (with_reducible exact False.elim hc) | (exfalso; omega) | (simp only [hb]; clear hb)) | ((first | refine zalc ?_ | refine zbsl ?_ | ((with_reducible refine gBox ?_); refine zbox ?_)); intro gb wb hS) | ((with_reducible refine gSt ?_); refine zs2 ?_; intro wb hS) | (refine zcv ?_) | ((with_reducible (show CallK _ 83 _ _ _ _ _)); have hx : WkS w0 _ gb g d l q st m (boxC g8 30 [I 0, I 0] :: L2) := ⟨fv, rv, Sep.sub hS (by repeat first | exact Sub.rfl' | (refine Sub.c (by repeat constructor) ?_) | refine Sub.skip ?_)⟩; refine zco 83 (wstep_spec (b := s.getD p 0) hx (bd_mono hb (by omega))) ?_; clear hx; intro vb wb hG; rw [hsw] at hG; obtain ⟨rfl, hS⟩ := hG) | (refine G.cn ?_ ?_ <;> intro hc <;> first | (with_reducible exact False.elim hc) | (exfalso; omega) | skip))) <;> (try clear fct)
            all_goals
              (have fct := (And.intro @h15 (And.intro @q2 (And.intro @q3 (And.intro @q8 (And.intro @q12 @q16))))); ((first | apply G.rv1 rfl | apply G.rv2 rfl | apply G.rv3 rfl | apply G.ret0 rfl) <;> first | exact RV.tmp | exact zag2 | skip); (try simp (disch := (first | exact dis | fail)) only [push_cast, ↓reduceIte, Nat.reduceAdd, Nat.reduceLeDiff, Nat.reduceEqDiff, Nat.reduceLT, Int.reduceToNat, fct]); (try clear fct))
              simp only [hgo, hgo1, Bool.false_eq_true, if_false]
              exact ⟨trivial, L2, hL, Sep.sub hS (by repeat first | exact Sub.rfl' | (refine Sub.c (by repeat constructor) ?_) | refine Sub.skip ?_)⟩
          | ok x =>
            rw [hsw] at e
            have hb2 := stepW_bd hb hsw
            obtain ⟨q', st', m', o⟩ := x
            cases o with
            | none =>
              have e : R = (wrun d l q' st' m' (p + 1) (s.drop (p + 1))).pre acc := by rw [e]; simp [Rs.pre, oneR]
              (have fct := (And.intro @h15 (And.intro @q2 (And.intro @q3 (And.intro @q8 (And.intro @q12 @q16))))); repeat' (first | ((with_reducible apply G.a); exact rfl) | refine G.reg fun K hK => ?_ | (with_reducible (refine hK _ _ ?_); clear hK K) | (have hk := hK; clear hk; simp (disch := (first | exact dis | fail)) only [push_cast, ↓reduceIte, Nat.reduceAdd, Nat.reduceLeDiff, Nat.reduceEqDiff, Nat.reduceLT, Int.reduceToNat, fct]) | (refine brO_n ?_ ?_ <;> intro hb hc <;> first | (with_reducible exact False.elim hc) | (exfalso; omega) | (simp only [hb]; clear hb)) | ((first | refine zalc ?_ | refine zbsl ?_ | ((with_reducible refine gBox ?_); refine zbox ?_)); intro gb wb hS) | ((with_reducible refine gSt ?_); refine zs2 ?_; intro wb hS) | (refine zcv ?_) | ((with_reducible (show CallK _ 83 _ _ _ _ _)); have hx : WkS w0 _ gb g d l q st m (boxC g8 30 [I 0, I 0] :: L2) := ⟨fv, rv, Sep.sub hS (by repeat first | exact Sub.rfl' | (refine Sub.c (by repeat constructor) ?_) | refine Sub.skip ?_)⟩; refine zco 83 (wstep_spec (b := s.getD p 0) hx (bd_mono hb (by omega))) ?_; clear hx; intro vb wb hG; rw [hsw] at hG; obtain ⟨rfl, fv2, rv2, hS⟩ := hG) | (refine G.cn ?_ ?_ <;> intro hc <;> first | (with_reducible exact False.elim hc) | (exfalso; omega) | skip))) <;> (try clear fct)
              all_goals
                refine ih _ _ ⟨p + 1, q', st', m', acc, L2, fv2, rv2, by omega, by simp only [push_cast, ↓reduceIte, Nat.reduceAdd, Nat.reduceLeDiff, Nat.reduceEqDiff, Nat.reduceLT, Int.reduceToNat, q2, q3, q8, q12, q16, h15] <;> rfl, by simp only [push_cast, ↓reduceIte, Nat.reduceAdd, Nat.reduceLeDiff, Nat.reduceEqDiff, Nat.reduceLT, Int.reduceToNat, q2, q3, q8, q12, q16, h15], by simp only [push_cast, ↓reduceIte, Nat.reduceAdd, Nat.reduceLeDiff, Nat.reduceEqDiff, Nat.reduceLT, Int.reduceToNat, q2, q3, q8, q12, q16, h15], by simp only [push_cast, ↓reduceIte, Nat.reduceAdd, Nat.reduceLeDiff, Nat.reduceEqDiff, Nat.reduceLT, Int.reduceToNat, q2, q3, q8, q12, q16, h15], by simp only [push_cast, ↓reduceIte, Nat.reduceAdd, Nat.reduceLeDiff, Nat.reduceEqDiff, Nat.reduceLT, Int.reduceToNat, q2, q3, q8, q12, q16, h15], by simp only [push_cast, ↓reduceIte, Nat.reduceAdd, Nat.reduceLeDiff, Nat.reduceEqDiff, Nat.reduceLT, Int.reduceToNat, q2, q3, q8, q12, q16, h15], e, bd_mono hb2 (by omega), by omega, hgo, hL, Sep.sub hS (by repeat first | exact Sub.rfl' | (refine Sub.c (by repeat constructor) ?_) | refine Sub.skip ?_)⟩ ?_
                (simp only [push_cast, ↓reduceIte, Nat.reduceAdd, Nat.reduceLeDiff, Nat.reduceEqDiff, Nat.reduceLT, Int.reduceToNat, toN_i, h15, q2, q3, q8, q12, q16] <;> omega)
            | some r =>
              have e : R = (wrun d l q' st' m' (p + 1) (s.drop (p + 1))).pre (acc ++ [(r, p)]) := by rw [e]; simp [Rs.pre, oneR]
              have hg2 := goN_app go [r] (acc.map (·.1)) []
              rw [if_neg (by rw [hgo]; simp), hgo1] at hg2
              have hmap : (acc ++ [(r, p)]).map (·.1) = acc.map (·.1) ++ [r] := by simp
              cases hgr : go (acc.map (·.1) ++ [r])
              · have hg3 : goN go [] (acc.map (·.1) ++ [r]) = (acc.map (·.1) ++ [r], true) := by rw [hg2, goN, hgr]; rfl
                have hg4 : goN go [] (R.rs.map (·.1)) = (acc.map (·.1) ++ [r], true) := by
                  rw [e]
                  simp only [Rs.pre]
                  rw [List.map_append, hmap, goN_app, hg3]; rfl
                (have fct := (And.intro @h15 (And.intro @q2 (And.intro @q3 (And.intro @q8 (And.intro @q12 (And.intro @q16 @hgr)))))); repeat' (first | ((with_reducible apply G.a); exact rfl) | refine G.reg fun K hK => ?_ | (with_reducible (refine hK _ _ ?_); clear hK K) | (have hk := hK; clear hk; simp (disch := (first | exact dis | fail)) only [push_cast, ↓reduceIte, Nat.reduceAdd, Nat.reduceLeDiff, Nat.reduceEqDiff, Nat.reduceLT, Int.reduceToNat, fct]) | (refine brO_n ?_ ?_ <;> intro hb hc <;> first | (with_reducible exact False.elim hc) | (exfalso; omega) | (simp only [hb]; clear hb)) | ((first | refine zalc ?_ | refine zbsl ?_ | ((with_reducible refine gBox ?_); refine zbox ?_)); intro gb wb hS) | ((with_reducible refine gSt ?_); refine zs2 ?_; intro wb hS) | (refine zcv ?_) | ((with_reducible (show CallK _ 83 _ _ _ _ _)); have hx : WkS w0 _ gb g d l q st m (boxC g8 30 [I 0, I 0] :: L2) := ⟨fv, rv, Sep.sub hS (by repeat first | exact Sub.rfl' | (refine Sub.c (by repeat constructor) ?_) | refine Sub.skip ?_)⟩; refine zco 83 (wstep_spec (b := s.getD p 0) hx (bd_mono hb (by omega))) ?_; clear hx; intro vb wb hG; rw [hsw] at hG; obtain ⟨rv3, rfl, fv2, rv2, hS⟩ := hG) | ((with_reducible (show CallV _ tv _ _ _ _ _)); refine hT.ok (M := [boxC gb 138 [U d.dl, U d.q, I d.e, .pointer (some ⟨g, 0, none⟩), I q', I st'], boxC g 176 [I l.F, I l.N, I l.R, .bool l.U, fv2, rv2, I m'.bg, I m'.ct, I m'.wd, I 0], accC fv2 5 eU m'.fl, accC rv2 9 eS m'.rc, boxC g8 30 [I 0, I 0]]) hL hgo (by simp; omega) (by first | (exact Sep.sub (by assumption) (by repeat first | exact Sub.rfl' | (refine Sub.c (by repeat constructor) ?_) | refine Sub.skip ?_)) | fail) ?_; intro wb L3 hL3 hS; simp only [apps] at hS) | (refine G.cn ?_ ?_ <;> intro hc <;> first | (with_reducible exact False.elim hc) | (exfalso; omega) | skip))) <;> (try clear fct)
                all_goals
                  (have fct := (And.intro @h15 (And.intro @q2 (And.intro @q3 (And.intro @q8 (And.intro @q12 @q16))))); ((first | apply G.rv1 rfl | apply G.rv2 rfl | apply G.rv3 rfl | apply G.ret0 rfl) <;> first | exact RV.tmp | exact zag2 | skip); (try simp (disch := (first | exact dis | fail)) only [push_cast, ↓reduceIte, Nat.reduceAdd, Nat.reduceLeDiff, Nat.reduceEqDiff, Nat.reduceLT, Int.reduceToNat, fct]); (try clear fct))
                  simp only [hg4, if_true]
                  exact ⟨trivial, L3, hL3, Sep.sub hS (by repeat first | exact Sub.rfl' | (refine Sub.c (by repeat constructor) ?_) | refine Sub.skip ?_)⟩
              · have hg3 : goN go [] (acc.map (·.1) ++ [r]) = (acc.map (·.1) ++ [r], false) := by rw [hg2, goN, hgr]; rfl
                (have fct := (And.intro @h15 (And.intro @q2 (And.intro @q3 (And.intro @q8 (And.intro @q12 (And.intro @q16 @hgr)))))); repeat' (first | ((with_reducible apply G.a); exact rfl) | refine G.reg fun K hK => ?_ | (with_reducible (refine hK _ _ ?_); clear hK K) | (have hk := hK; clear hk; simp (disch := (first | exact dis | fail)) only [push_cast, ↓reduceIte, Nat.reduceAdd, Nat.reduceLeDiff, Nat.reduceEqDiff, Nat.reduceLT, Int.reduceToNat, fct]) | (refine brO_n ?_ ?_ <;> intro hb hc <;> first | (with_reducible exact False.elim hc) | (exfalso; omega) | (simp only [hb]; clear hb)) | ((first | refine zalc ?_ | refine zbsl ?_ | ((with_reducible refine gBox ?_); refine zbox ?_)); intro gb wb hS) | ((with_reducible refine gSt ?_); refine zs2 ?_; intro wb hS) | (refine zcv ?_) | ((with_reducible (show CallK _ 83 _ _ _ _ _)); have hx : WkS w0 _ gb g d l q st m (boxC g8 30 [I 0, I 0] :: L2) := ⟨fv, rv, Sep.sub hS (by repeat first | exact Sub.rfl' | (refine Sub.c (by repeat constructor) ?_) | refine Sub.skip ?_)⟩; refine zco 83 (wstep_spec (b := s.getD p 0) hx (bd_mono hb (by omega))) ?_; clear hx; intro vb wb hG; rw [hsw] at hG; obtain ⟨rv3, rfl, fv2, rv2, hS⟩ := hG) | ((with_reducible (show CallV _ tv _ _ _ _ _)); refine hT.ok (M := [boxC gb 138 [U d.dl, U d.q, I d.e, .pointer (some ⟨g, 0, none⟩), I q', I st'], boxC g 176 [I l.F, I l.N, I l.R, .bool l.U, fv2, rv2, I m'.bg, I m'.ct, I m'.wd, I 0], accC fv2 5 eU m'.fl, accC rv2 9 eS m'.rc, boxC g8 30 [I 0, I 0]]) hL hgo (by simp; omega) (by first | (exact Sep.sub (by assumption) (by repeat first | exact Sub.rfl' | (refine Sub.c (by repeat constructor) ?_) | refine Sub.skip ?_)) | fail) ?_; intro wb L3 hL3 hS; simp only [apps] at hS) | (refine G.cn ?_ ?_ <;> intro hc <;> first | (with_reducible exact False.elim hc) | (exfalso; omega) | skip))) <;> (try clear fct)
                all_goals
                  refine ih _ _ ⟨p + 1, q', st', m', acc ++ [(r, p)], L3, fv2, rv2, by omega, by simp only [push_cast, ↓reduceIte, Nat.reduceAdd, Nat.reduceLeDiff, Nat.reduceEqDiff, Nat.reduceLT, Int.reduceToNat, q2, q3, q8, q12, q16, h15] <;> rfl, by simp only [push_cast, ↓reduceIte, Nat.reduceAdd, Nat.reduceLeDiff, Nat.reduceEqDiff, Nat.reduceLT, Int.reduceToNat, q2, q3, q8, q12, q16, h15], by simp only [push_cast, ↓reduceIte, Nat.reduceAdd, Nat.reduceLeDiff, Nat.reduceEqDiff, Nat.reduceLT, Int.reduceToNat, q2, q3, q8, q12, q16, h15], by simp only [push_cast, ↓reduceIte, Nat.reduceAdd, Nat.reduceLeDiff, Nat.reduceEqDiff, Nat.reduceLT, Int.reduceToNat, q2, q3, q8, q12, q16, h15], by simp only [push_cast, ↓reduceIte, Nat.reduceAdd, Nat.reduceLeDiff, Nat.reduceEqDiff, Nat.reduceLT, Int.reduceToNat, q2, q3, q8, q12, q16, h15], by simp only [push_cast, ↓reduceIte, Nat.reduceAdd, Nat.reduceLeDiff, Nat.reduceEqDiff, Nat.reduceLT, Int.reduceToNat, q2, q3, q8, q12, q16, h15], e, bd_mono hb2 (by omega), by simp; omega, by rw [hmap, hg3], by rw [hmap]; exact hL3, Sep.sub hS (by repeat first | exact Sub.rfl' | (refine Sub.c (by repeat constructor) ?_) | refine Sub.skip ?_)⟩ ?_
                  (simp only [push_cast, ↓reduceIte, Nat.reduceAdd, Nat.reduceLeDiff, Nat.reduceEqDiff, Nat.reduceLT, Int.reduceToNat, toN_i, h15, q2, q3, q8, q12, q16] <;> omega)
        · have hd : s.drop p = [] := List.drop_eq_nil_of_le (by omega)
          rw [hd, wrun_nil] at e
          cases hsw : endW l q st m with
          | error k =>
            rw [hsw] at e
            have hk := endW_err hsw
            have hR2 : R = ⟨acc, k, p⟩ := by rw [e]; simp [Rs.pre]
            subst hR2
            (have fct := (And.intro @h15 (And.intro @q2 (And.intro @q3 (And.intro @q8 (And.intro @q12 @q16))))); repeat' (first | ((with_reducible apply G.a); exact rfl) | refine G.reg fun K hK => ?_ | (with_reducible (refine hK _ _ ?_); clear hK K) | (have hk := hK; clear hk; simp (disch := (first | exact dis | fail)) only [push_cast, ↓reduceIte, Nat.reduceAdd, Nat.reduceLeDiff, Nat.reduceEqDiff, Nat.reduceLT, Int.reduceToNat, fct]) | (refine brO_n ?_ ?_ <;> intro hb hc <;> first | (with_reducible exact False.elim hc) | (exfalso; omega) | (simp only [hb]; clear hb)) | ((first | refine zalc ?_ | refine zbsl ?_ | ((with_reducible refine gBox ?_); refine zbox ?_)); intro gb wb hS) | ((with_reducible refine gSt ?_); refine zs2 ?_; intro wb hS) | (refine zcv ?_) | ((with_reducible (show CallK _ 84 _ _ _ _ _)); have hx : WkS w0 _ gb g d l q st m (boxC g8 30 [I 0, I 0] :: L2) := ⟨fv, rv, Sep.sub hS (by repeat first | exact Sub.rfl' | (refine Sub.c (by repeat constructor) ?_) | refine Sub.skip ?_)⟩; refine zco 84 (wend_spec hx (bd_mono hb (by omega))) ?_; clear hx; intro vb wb hG; rw [hsw] at hG; obtain ⟨rfl, hS⟩ := hG) | (refine G.cn ?_ ?_ <;> intro hc <;> first | (with_reducible exact False.elim hc) | (exfalso; omega) | skip))) <;> (try clear fct)
            all_goals
              (have fct := (And.intro @h15 (And.intro @q2 (And.intro @q3 (And.intro @q8 (And.intro @q12 @q16))))); ((first | apply G.rv1 rfl | apply G.rv2 rfl | apply G.rv3 rfl | apply G.ret0 rfl) <;> first | exact RV.tmp | exact zag2 | skip); (try simp (disch := (first | exact dis | fail)) only [push_cast, ↓reduceIte, Nat.reduceAdd, Nat.reduceLeDiff, Nat.reduceEqDiff, Nat.reduceLT, Int.reduceToNat, fct]); (try clear fct))
              simp only [hgo, hgo1, Bool.false_eq_true, if_false]
              exact ⟨trivial, L2, hL, Sep.sub hS (by repeat first | exact Sub.rfl' | (refine Sub.c (by repeat constructor) ?_) | refine Sub.skip ?_)⟩
          | ok o =>
            rw [hsw] at e
            cases o with
            | none =>
              have hR2 : R = ⟨acc, 0, 0⟩ := by rw [e]; simp [Rs.pre, oneR]
              subst hR2
              (have fct := (And.intro @h15 (And.intro @q2 (And.intro @q3 (And.intro @q8 (And.intro @q12 @q16))))); repeat' (first | ((with_reducible apply G.a); exact rfl) | refine G.reg fun K hK => ?_ | (with_reducible (refine hK _ _ ?_); clear hK K) | (have hk := hK; clear hk; simp (disch := (first | exact dis | fail)) only [push_cast, ↓reduceIte, Nat.reduceAdd, Nat.reduceLeDiff, Nat.reduceEqDiff, Nat.reduceLT, Int.reduceToNat, fct]) | (refine brO_n ?_ ?_ <;> intro hb hc <;> first | (with_reducible exact False.elim hc) | (exfalso; omega) | (simp only [hb]; clear hb)) | ((first | refine zalc ?_ | refine zbsl ?_ | ((with_reducible refine gBox ?_); refine zbox ?_)); intro gb wb hS) | ((with_reducible refine gSt ?_); refine zs2 ?_; intro wb hS) | (refine zcv ?_) | ((with_reducible (show CallK _ 84 _ _ _ _ _)); have hx : WkS w0 _ gb g d l q st m (boxC g8 30 [I 0, I 0] :: L2) := ⟨fv, rv, Sep.sub hS (by repeat first | exact Sub.rfl' | (refine Sub.c (by repeat constructor) ?_) | refine Sub.skip ?_)⟩; refine zco 84 (wend_spec hx (bd_mono hb (by omega))) ?_; clear hx; intro vb wb hG; rw [hsw] at hG; obtain ⟨rfl, hS⟩ := hG) | (refine G.cn ?_ ?_ <;> intro hc <;> first | (with_reducible exact False.elim hc) | (exfalso; omega) | skip))) <;> (try clear fct)
              all_goals
                (have fct := (And.intro @h15 (And.intro @q2 (And.intro @q3 (And.intro @q8 (And.intro @q12 @q16))))); ((first | apply G.rv1 rfl | apply G.rv2 rfl | apply G.rv3 rfl | apply G.ret0 rfl) <;> first | exact RV.tmp | exact zag2 | skip); (try simp (disch := (first | exact dis | fail)) only [push_cast, ↓reduceIte, Nat.reduceAdd, Nat.reduceLeDiff, Nat.reduceEqDiff, Nat.reduceLT, Int.reduceToNat, fct]); (try clear fct))
                simp only [hgo, hgo1, Bool.false_eq_true, if_false]
                exact ⟨by trivial, L2, hL, Sep.sub hS (by repeat first | exact Sub.rfl' | (refine Sub.c (by repeat constructor) ?_) | refine Sub.skip ?_)⟩
            | some r =>
              have hR2 : R = ⟨acc ++ [(r, p)], 0, 0⟩ := by rw [e]; simp [Rs.pre, oneR]
              subst hR2
              have hmap : (acc ++ [(r, p)]).map (·.1) = acc.map (·.1) ++ [r] := by simp
              have hg2 := goN_app go [r] (acc.map (·.1)) []
              rw [if_neg (by rw [hgo]; simp), hgo1] at hg2
              have hg5 : (goN go [] ((acc ++ [(r, p)]).map (·.1))).1 = acc.map (·.1) ++ [r] := by
                rw [hmap, hg2, goN]
                split
                · rfl
                · rfl
              (have fct := (And.intro @h15 (And.intro @q2 (And.intro @q3 (And.intro @q8 (And.intro @q12 @q16))))); repeat' (first | ((with_reducible apply G.a); exact rfl) | refine G.reg fun K hK => ?_ | (with_reducible (refine hK _ _ ?_); clear hK K) | (have hk := hK; clear hk; simp (disch := (first | exact dis | fail)) only [push_cast, ↓reduceIte, Nat.reduceAdd, Nat.reduceLeDiff, Nat.reduceEqDiff, Nat.reduceLT, Int.reduceToNat, fct]) | (refine brO_n ?_ ?_ <;> intro hb hc <;> first | (with_reducible exact False.elim hc) | (exfalso; omega) | (simp only [hb]; clear hb)) | ((first | refine zalc ?_ | refine zbsl ?_ | ((with_reducible refine gBox ?_); refine zbox ?_)); intro gb wb hS) | ((with_reducible refine gSt ?_); refine zs2 ?_; intro wb hS) | (refine zcv ?_) | ((with_reducible (show CallK _ 84 _ _ _ _ _)); have hx : WkS w0 _ gb g d l q st m (boxC g8 30 [I 0, I 0] :: L2) := ⟨fv, rv, Sep.sub hS (by repeat first | exact Sub.rfl' | (refine Sub.c (by repeat constructor) ?_) | refine Sub.skip ?_)⟩; refine zco 84 (wend_spec hx (bd_mono hb (by omega))) ?_; clear hx; intro vb wb hG; rw [hsw] at hG; obtain ⟨rv3, rfl, hS⟩ := hG) | ((with_reducible (show CallV _ tv _ _ _ _ _)); refine hT.ok (M := [boxC g8 30 [I 0, I 0]]) hL hgo (by simp; omega) (by first | (exact Sep.sub (by assumption) (by repeat first | exact Sub.rfl' | (refine Sub.c (by repeat constructor) ?_) | refine Sub.skip ?_)) | fail) ?_; intro wb L3 hL3 hS; simp only [apps] at hS) | (refine G.cn ?_ ?_ <;> intro hc <;> first | (with_reducible exact False.elim hc) | (exfalso; omega) | skip))) <;> (try clear fct)
              all_goals
                (have fct := (And.intro @h15 (And.intro @q2 (And.intro @q3 (And.intro @q8 (And.intro @q12 @q16))))); ((first | apply G.rv1 rfl | apply G.rv2 rfl | apply G.rv3 rfl | apply G.ret0 rfl) <;> first | exact RV.tmp | exact zag2 | skip); (try simp (disch := (first | exact dis | fail)) only [push_cast, ↓reduceIte, Nat.reduceAdd, Nat.reduceLeDiff, Nat.reduceEqDiff, Nat.reduceLT, Int.reduceToNat, fct]); (try clear fct))
                refine ⟨by simp, L3, by rw [hg5]; exact hL3, Sep.sub hS (by repeat first | exact Sub.rfl' | (refine Sub.c (by repeat constructor) ?_) | refine Sub.skip ?_)⟩
end Go.Proofs.Ytdhieolfdlkeaaa
