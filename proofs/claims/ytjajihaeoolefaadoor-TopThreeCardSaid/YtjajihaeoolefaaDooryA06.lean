/- Texts of the proof, joined. -/
import Derived.Test.YtjajihaeoolefaaDooryZ06
import Derived.Test.YtjajihaeoolefaaDooryB06
namespace Go.Proofs.YtjajihaeoolefaaDoor
set_option linter.unusedSimpArgs false
set_option linter.unusedVariables false
attribute [local irreducible] SemK UnitK StK AlcK BslK CallK CallV Instr.box Builtin.append_ Instr.makeSlice Instr.makeMap Instr.lookup Instr.mapUpdate Instr.sliceAt convert
open Go.RowKit
theorem ex_mid (c : Chk) (B : List Chk) : ∀ A : List Chk, Ex c (A ++ c :: B) (A ++ B)
  | [] => .h
  | _ :: A => .t (ex_mid c B A)
theorem sub_comm (A : List Chk) : ∀ B : List Chk, Sub (B ++ A) (A ++ B)
  | [] => by rw [List.append_nil]; exact Sub.rfl'
  | b :: B => .c (ex_mid b B A) (sub_comm A B)
theorem Sep.comm {w0 w : World} {A B : List Chk} (h : Sep w0 w (A ++ B)) : Sep w0 w (B ++ A) := h.sub (sub_comm A B)
def c53 : MC := (.seq (.reg [qq 1 (.raw (.box 65 (.tmp 0)) 0), qq 2 (.mv (.const (.pointer none))), qq 3 (.mv (ki 0))]) (.seq (.seq (.reg [qq 5 (.ld (.some 4) (.tmp 1)), qq 6 (.call 65 [(.tmp 5)]), qm 4 6]) (.seq (.reg [qm 7 4, qq 8 (.bin .neq (.tmp 7) (ki 0))]) (.cond (.tmp 8) (.seq (.reg [qm 9 4, qq 2 (.mv (.const (.pointer none))), qm 3 9]) .ret) .skip))) (.seq (.reg [qq 10 (.ld (.some 4) (.tmp 1)), qq 11 (.bld [(.int .i64 0), (.int .i64 0), (.int .i64 0), (.bool false), (.slice none 0 0), (.slice none 0 0), (.int .i64 0), (.int .i64 0), (.int .i64 0), (.int .i64 0)] [⟨0, ⟨4, (.tmp 10)⟩⟩]), qq 12 (.raw (.box 142 (.tmp 11)) 126), qm 2 12, qq 3 (.mv (ki 0))]) .ret)))
theorem k53 : conv Tryd.prog 13 (Tryd.f53.body.getD .skip) = c53 := by kernel_rfl
theorem in53 {a0 : Value} {w : World} {R : Value → World → Prop} (h : G Tryd.prog Tryd.f53 13 [.c c53] R (frL 0 [a0]) w) : Ret Tryd.prog 53 #[a0] w R := G.enter (args := [a0]) Tryd.func53 (c := Tryd.f53.body.getD .skip) (by kernel_rfl) (by kernel_rfl) (by simp) k53 h
theorem fnew_no (l : Lm) (w : World) (h : fitsL l = false) : Pu Tryd.prog 53 #[(.agg #[I l.F, I l.N, I l.R, .bool l.U])] w (.tuple #[.pointer none, I 2]) := by
  refine in53 ?_
  have hS := Sep.start w
  (have fct := @h; repeat' (first | ((with_reducible apply G.a); exact rfl) | refine G.reg fun K hK => ?_ | (with_reducible (refine hK _ _ ?_); clear hK K) | (have hk := hK; clear hk; simp (disch := first | exact dis | fail) only [push_cast, ↓reduceIte, Nat.reduceAdd, Nat.reduceLeDiff, Nat.reduceEqDiff, Nat.reduceLT, Int.reduceToNat, fct]) | (((with_reducible refine gBox ?_); refine zbox ?_); intro gb wb hS) | (refine zcp 65 (checkL_spec l _) ?_; intro wb hS) | (refine G.cn ?_ ?_ <;> intro hc <;> first | (with_reducible exact False.elim hc) | (exfalso; omega) | skip))) <;> (try clear fct)
  all_goals
    (first | refine G.r1 ?_ | refine G.r2 ?_ | refine G.r3 ?_ | refine G.r0 ?_ | refine G.d0 ?_); (try simp (disch := first | exact dis | fail) only [push_cast, ↓reduceIte, Nat.reduceAdd, Nat.reduceLeDiff, Nat.reduceEqDiff, Nat.reduceLT, Int.reduceToNat, fct])
    (first | exact Sep.xt (by assumption) | exact ⟨rfl, Sep.xt (by assumption)⟩)
theorem fnew_yes (l : Lm) (w : World) (h : fitsL l = true) : Ret Tryd.prog 53 #[(.agg #[I l.F, I l.N, I l.R, .bool l.U])] w fun res w' => ∃ g fv rv, res = .tuple #[.pointer (some ⟨g, 0, none⟩), I 0] ∧ Sep w w' [boxC g 142 [I l.F, I l.N, I l.R, .bool l.U, fv, rv, I 0, I 0, I 0, I 0], accC fv 5 eU [], accC rv 9 eS []] := by
  refine in53 ?_
  have hS := Sep.start w
  (have fct := @h; repeat' (first | ((with_reducible apply G.a); exact rfl) | refine G.reg fun K hK => ?_ | (with_reducible (refine hK _ _ ?_); clear hK K) | (have hk := hK; clear hk; simp (disch := first | exact dis | fail) only [push_cast, ↓reduceIte, Nat.reduceAdd, Nat.reduceLeDiff, Nat.reduceEqDiff, Nat.reduceLT, Int.reduceToNat, fct]) | (((with_reducible refine gBox ?_); refine zbox ?_); intro gb wb hS) | (refine zcp 65 (checkL_spec l _) ?_; intro wb hS) | (refine G.cn ?_ ?_ <;> intro hc <;> first | (with_reducible exact False.elim hc) | (exfalso; omega) | skip))) <;> (try clear fct)
  all_goals
    (first | refine G.r1 ?_ | refine G.r2 ?_ | refine G.r3 ?_ | refine G.r0 ?_ | refine G.d0 ?_); (try simp (disch := first | exact dis | fail) only [push_cast, ↓reduceIte, Nat.reduceAdd, Nat.reduceLeDiff, Nat.reduceEqDiff, Nat.reduceLT, Int.reduceToNat, fct])
    have hS := (hS.nil 5 eU).nil 9 eS
    exact ⟨_, .slice none 0 0, .slice none 0 0, rfl, Sep.sub hS (by repeat first | exact Sub.rfl' | (refine Sub.c (by repeat constructor) ?_) | refine Sub.skip ?_)⟩
def goN (go : List (List Str) → Bool) : List (List Str) → List (List Str) → List (List Str) × Bool
  | acc, [] => (acc, false)
  | acc, r :: rs => if go (acc ++ [r]) = true then goN go (acc ++ [r]) rs else (acc ++ [r], true)
theorem goN_app (go : List (List Str) → Bool) (y : List (List Str)) : ∀ (x a : List (List Str)), goN go a (x ++ y) = if (goN go a x).2 = true then goN go a x else goN go (goN go a x).1 y
  | [], a => by simp [goN]
  | r :: x, a => by
    rw [List.cons_append, goN, goN]
    split
    · exact goN_app go y x _
    · rfl
theorem goN_all (go : List (List Str) → Bool) : ∀ (x a : List (List Str)), (goN go a x).2 = false → (goN go a x).1 = a ++ x
  | [], a, _ => by simp [goN]
  | r :: x, a, h => by
    rw [goN] at h ⊢
    split at h
    · rename_i h2; rw [if_pos h2, goN_all go x _ h]; simp
    · simp at h
structure TakeOK (tv : Value) (TSL : List (List Str) → List Chk → Prop) (go : List (List Str) → Bool) : Prop where
  ok : ∀ {xss : List (List Str)} {r : List Str} {rv : Value} {w0 w : World} {M L : List Chk} {d : Option Nat} {ρ : Fr} {next : Fr → World → Prop}, TSL xss L → (goN go [] xss).2 = false → xss.length ≤ 1000000000 → Sep w0 w (accC rv 9 eS r :: (M ++ L)) →
    (∀ w' L', TSL (xss ++ [r]) L' → Sep w0 w' (M ++ L') → next (updO ρ d (.bool (go (xss ++ [r])))) w') → CallV Tryd.prog tv [rv] w d ρ next
def walkM (d : Dl) (l : Lm) (s : Str) : Rs := if rightD d = false then ⟨[], 1, 0⟩ else if fitsL l = false then ⟨[], 2, 0⟩ else parM d l s
theorem wrun_zero (d : Dl) (l : Lm) : ∀ (t : Str) (q st : Int) (m : Mk) (p : Nat), (wrun d l q st m p t).k = 0 → (wrun d l q st m p t).a = 0 := by
  intro t
  induction t with
  | nil =>
    intro q st m p h
    rw [wrun_nil] at h ⊢
    cases he : endW l q st m with
    | error k => rw [he] at h; have := endW_err he; simp at h; omega
    | ok r => rfl
  | cons b t ih =>
    intro q st m p h
    rw [wrun_cons] at h ⊢
    cases he : stepW d l q st m b with
    | error k => rw [he] at h; have := stepW_err he; simp at h; omega
    | ok x => rw [he] at h; exact ih _ _ _ _ h
theorem dropB06 (l : Str) (k : Nat) (h : (k : Int) < l.length) : l.drop k = l.getD k 0 :: l.drop (k + 1) := by
  have h' : k < l.length := by omega
  rw [List.drop_eq_getElem_cons h', List.getD_eq_getElem?_getD, List.getElem?_eq_getElem h']; rfl
def c41l1 : MC := (.seq (.seq (.reg [qm 51 15, qm 52 2, qq 53 (.lenS (.tmp 52)), qq 54 (.bin .lss (.tmp 51) (.tmp 53))]) (.cond (.tmp 54) .skip (.exit 0))) (.seq (.blk 1 (.seq (.reg [qm 58 2, qm 59 15, qq 60 (.idxS (.tmp 58) (.tmp 59)), qq 61 (.call 55 [(.tmp 12), (.tmp 60)]), qm 57 61, qq 62 (.ext 0 (.tmp 57)), qq 63 (.ext 1 (.tmp 57)), qq 64 (.ext 2 (.tmp 57)), qm 17 62, qm 18 63, qm 19 64]) (.blk 2 (.seq (.reg [qm 66 19, qq 67 (.bin .neq (.tmp 66) (ki 0)), qm 65 67]) (.cond (.tmp 65) (.seq (.reg [qm 68 19, qm 16 68]) (.exit 0)) (.seq (.reg [qm 70 18, qm 71 70, qmt 71 72 3, qmt 71 73 17, qt 71 74 (.raw (.call ⟨(.value (.tmp 72)), #[(.tmp 73)], #[26]⟩) 4), qt 71 75 (.un .not (.tmp 74)), qq 76 (.pick (.tmp 71) (.tmp 75) (kb false)), qm 69 76]) (.cond (.tmp 69) (.seq (.reg [qq 77 (.bld [(.int .i64 0), (.int .i64 0)] []), qn (.st 2 (.tmp 8) (.tmp 77))]) .ret) .skip))))))) (.reg [qm 55 15, qq 56 (.bin .add (.tmp 55) (ki 1)), qm 15 56])))
def c41 : MC := (.seq (.reg [qq 4 (.raw (.box 63 (.tmp 0)) 0), qq 5 (.raw (.box 65 (.tmp 1)) 0), qq 8 (.alc 59 [(.int .i64 0), (.int .i64 0)])]) (.scp (.seq (.seq (.reg [qq 23 (.ld (.some 3) (.tmp 4)), qq 24 (.call 52 [(.tmp 23)]), qm 9 24]) (.seq (.reg [qm 25 9, qq 26 (.bin .neq (.tmp 25) (ki 0))]) (.cond (.tmp 26) (.seq (.reg [qm 27 9, qq 28 (.bld [(.int .i64 0), (.int .i64 0)] [⟨0, ⟨1, (.tmp 27)⟩⟩]), qn (.st 2 (.tmp 8) (.tmp 28))]) .ret) .skip))) (.seq (.reg [qq 30 (.ld (.some 4) (.tmp 5)), qq 31 (.call 53 [(.tmp 30)]), qm 29 31, qq 32 (.ext 0 (.tmp 29)), qq 33 (.ext 1 (.tmp 29)), qm 10 32, qm 11 33]) (.seq (.seq (.reg [qm 34 11, qq 35 (.bin .neq (.tmp 34) (ki 0))]) (.cond (.tmp 35) (.seq (.reg [qm 36 11, qq 37 (.bld [(.int .i64 0), (.int .i64 0)] [⟨0, ⟨1, (.tmp 36)⟩⟩]), qn (.st 2 (.tmp 8) (.tmp 37))]) .ret) .skip)) (.seq (.reg [qq 38 (.ld (.some 3) (.tmp 4)), qm 39 10, qq 40 (.bld [(.int .u8 0), (.int .u8 0), (.int .i64 0), (.pointer none), (.int .i64 0), (.int .i64 0)] [⟨0, ⟨3, (.tmp 38)⟩⟩, ⟨3, ⟨1, (.tmp 39)⟩⟩]), qq 12 (.alc 130 [(.int .u8 0), (.int .u8 0), (.int .i64 0), (.pointer none), (.int .i64 0), (.int .i64 0)]), qn (.st 6 (.tmp 12) (.tmp 40))]) (.seq (.reg [qm 42 2, qq 43 (.call 54 [(.tmp 42)]), qm 41 43, qq 44 (.ext 0 (.tmp 41)), qq 45 (.ext 1 (.tmp 41)), qm 13 44, qm 14 45]) (.seq (.reg [qm 46 2, qq 47 (.lenS (.tmp 46)), qm 48 13, qq 49 (.lenS (.tmp 48)), qq 50 (.bin .sub (.tmp 47) (.tmp 49)), qm 15 50]) (.seq (.reg [qq 16 (.mv (ki 0))]) (.seq .lab (.seq (.blk 0 (.loop c41l1)) (.seq (.seq (.reg [qm 78 16, qq 79 (.bin .eql (.tmp 78) (ki 0))]) (.cond (.tmp 79) (.seq (.reg [qq 81 (.call 56 [(.tmp 12)]), qm 80 81, qq 82 (.ext 0 (.tmp 80)), qq 83 (.ext 1 (.tmp 80)), qq 84 (.ext 2 (.tmp 80)), qm 20 82, qm 21 83, qm 22 84]) (.seq (.seq (.reg [qm 85 21]) (.cond (.tmp 85) (.reg [qm 86 3, qm 87 20, qq 88 (.raw (.call ⟨(.value (.tmp 86)), #[(.tmp 87)], #[26]⟩) 4)]) .skip)) (.reg [qm 89 22, qm 16 89]))) .skip)) (.seq (.seq (.reg [qm 90 16, qq 91 (.bin .eql (.tmp 90) (ki 0))]) (.cond (.tmp 91) (.seq (.reg [qq 92 (.bld [(.int .i64 0), (.int .i64 0)] []), qn (.st 2 (.tmp 8) (.tmp 92))]) .ret) .skip)) (.seq (.reg [qm 93 16, qm 94 15, qq 95 (.bld [(.int .i64 0), (.int .i64 0)] [⟨0, ⟨1, (.tmp 93)⟩⟩, ⟨1, ⟨1, (.tmp 94)⟩⟩]), qn (.st 2 (.tmp 8) (.tmp 95))]) .ret))))))))))))))
theorem k41 : conv Tryd.prog 96 (Tryd.f41.body.getD .skip) = c41 := by kernel_rfl
theorem in41 {a0 a1 a2 a3 : Value} {w : World} {R : Value → World → Prop} (h : G Tryd.prog Tryd.f41 96 [.c c41] R (frL 0 [a0, a1, a2, a3]) w) : Ret Tryd.prog 41 #[a0, a1, a2, a3] w R := G.enter (args := [a0, a1, a2, a3]) Tryd.func41 (c := Tryd.f41.body.getD .skip) (by kernel_rfl) (by kernel_rfl) (by simp) k41 h
set_option maxHeartbeats 2000000 in
theorem walk_spec {tv : Value} {TSL : List (List Str) → List Chk → Prop} {go : List (List Str) → Bool} (hT : TakeOK tv TSL go) (d : Dl) (l : Lm) (s : Str) {w0 w : World} {L : List Chk} (hl : s.length ≤ 1000000) (hS : Sep w0 w L) (hL : TSL [] L) :
    Ret Tryd.prog 41 #[(.agg #[U d.dl, U d.q, I d.e]), (.agg #[I l.F, I l.N, I l.R, .bool l.U]), S s, tv] w fun res w' => res = .agg #[I (if (goN go [] ((walkM d l s).rs.map (·.1))).2 = true then 0 else (walkM d l s).k), I (if (goN go [] ((walkM d l s).rs.map (·.1))).2 = true then 0 else (walkM d l s).a)] ∧ ∃ L', TSL (goN go [] ((walkM d l s).rs.map (·.1))).1 L' ∧ Sep w0 w' L' := by
  refine in41 ?_
  unfold walkM
  cases hr : rightD d
  · rw [if_pos rfl]
    (have fct := @hr; repeat' (first | ((with_reducible apply G.a); exact rfl) | refine G.reg fun K hK => ?_ | (with_reducible (refine hK _ _ ?_); clear hK K) | (have hk := hK; clear hk; simp (disch := first | exact dis | fail) only [push_cast, ↓reduceIte, Nat.reduceAdd, Nat.reduceLeDiff, Nat.reduceEqDiff, Nat.reduceLT, Int.reduceToNat, fct]) | (refine brO_n ?_ ?_ <;> intro hb hc <;> first | (with_reducible exact False.elim hc) | (exfalso; omega) | (simp only [hb]; clear hb)) | ((first | refine zalc ?_ | ((with_reducible refine gBox ?_); refine zbox ?_)); intro gb wb hS) | ((with_reducible refine gSt ?_); refine zs2 ?_; intro wb hS) | (refine zcv ?_) | (refine zcp 52 (checkD_spec d _) ?_; intro wb hS) | (refine G.cn ?_ ?_ <;> intro hc <;> first | (with_reducible exact False.elim hc) | (exfalso; omega) | skip))) <;> (try clear fct)
    all_goals
      (first | refine G.r1 ?_ | refine G.r2 ?_ | refine G.r3 ?_ | refine G.r0 ?_ | refine G.d0 ?_); (try simp (disch := first | exact dis | fail) only [push_cast, ↓reduceIte, Nat.reduceAdd, Nat.reduceLeDiff, Nat.reduceEqDiff, Nat.reduceLT, Int.reduceToNat, fct])
      exact ⟨by simp [goN], L, hL, Sep.sub hS (by repeat first | exact Sub.rfl' | (refine Sub.c (by repeat constructor) ?_) | refine Sub.skip ?_)⟩
  · rw [if_neg (show ¬ true = false by decide)]
    cases hf : fitsL l
    · rw [if_pos rfl]
      (have fct := @hr; repeat' (first | ((with_reducible apply G.a); exact rfl) | refine G.reg fun K hK => ?_ | (with_reducible (refine hK _ _ ?_); clear hK K) | (have hk := hK; clear hk; simp (disch := first | exact dis | fail) only [push_cast, ↓reduceIte, Nat.reduceAdd, Nat.reduceLeDiff, Nat.reduceEqDiff, Nat.reduceLT, Int.reduceToNat, fct]) | (refine brO_n ?_ ?_ <;> intro hb hc <;> first | (with_reducible exact False.elim hc) | (exfalso; omega) | (simp only [hb]; clear hb)) | ((first | refine zalc ?_ | ((with_reducible refine gBox ?_); refine zbox ?_)); intro gb wb hS) | ((with_reducible refine gSt ?_); refine zs2 ?_; intro wb hS) | (refine zcv ?_) | (refine zcp 52 (checkD_spec d _) ?_; intro wb hS) | (refine zcp 53 (fnew_no l _ hf) ?_; intro wb hS) | (refine G.cn ?_ ?_ <;> intro hc <;> first | (with_reducible exact False.elim hc) | (exfalso; omega) | skip))) <;> (try clear fct)
      all_goals
        (first | refine G.r1 ?_ | refine G.r2 ?_ | refine G.r3 ?_ | refine G.r0 ?_ | refine G.d0 ?_); (try simp (disch := first | exact dis | fail) only [push_cast, ↓reduceIte, Nat.reduceAdd, Nat.reduceLeDiff, Nat.reduceEqDiff, Nat.reduceLT, Int.reduceToNat, fct])
        exact ⟨by simp [goN], L, hL, Sep.sub hS (by repeat first | exact Sub.rfl' | (refine Sub.c (by repeat constructor) ?_) | refine Sub.skip ?_)⟩
    · rw [if_neg (show ¬ true = false by decide)]
      unfold parM
      obtain ⟨hsd, hsl⟩ := strip_drop s
      generalize hoff : s.length - (stripM s).length = off at *
      have hI : (s.length : Int) - ((stripM s).length : Int) = off := by omega
      have hoff2 : off ≤ s.length := by omega
      have hR0 : wrun d l 0 0 {} off (stripM s) = wrun d l 0 0 {} off (s.drop off) := by rw [← hsd]
      rw [hR0]
      (have fct := @hr; repeat' (first | ((with_reducible apply G.a); exact rfl) | refine G.reg fun K hK => ?_ | (with_reducible (refine hK _ _ ?_); clear hK K) | (have hk := hK; clear hk; simp (disch := first | exact dis | fail) only [push_cast, ↓reduceIte, Nat.reduceAdd, Nat.reduceLeDiff, Nat.reduceEqDiff, Nat.reduceLT, Int.reduceToNat, fct]) | (refine brO_n ?_ ?_ <;> intro hb hc <;> first | (with_reducible exact False.elim hc) | (exfalso; omega) | (simp only [hb]; clear hb)) | ((first | refine zalc ?_ | ((with_reducible refine gBox ?_); refine zbox ?_)); intro gb wb hS) | ((with_reducible refine gSt ?_); refine zs2 ?_; intro wb hS) | (refine zcv ?_) | (refine zcp 52 (checkD_spec d _) ?_; intro wb hS) | (refine zco 53 (fnew_yes l _ hf) ?_; rintro vb wb ⟨g, fv, rv, rfl, hS2⟩; have hS := hS2.ap; simp only [apps] at hS) | (refine zcp 54 (strip_spec s _ (by omega)) ?_; intro wb hS) | (refine G.cn ?_ ?_ <;> intro hc <;> first | (with_reducible exact False.elim hc) | (exfalso; omega) | skip))) <;> (try clear fct)
      rename_i g8 _ _ _ _ _ _ _ _ _ _ _
      have hz := wrun_zero d l (s.drop off) 0 0 {} off
      generalize hR : wrun d l 0 0 {} off (s.drop off) = R at hz ⊢
      refine G.loop (fun r' w' => ∃ (p : Nat) (q st : Int) (m : Mk) (acc : List (List Str × Nat)) (L2 : List Chk) (fv rv : Value), p ≤ s.length ∧ r' 15 = I p ∧ r' 2 = S s ∧ r' 3 = tv ∧ r' 8 = .pointer (some ⟨g8, 0, none⟩) ∧ r' 12 = .pointer (some ⟨gb, 0, none⟩) ∧ r' 16 = I 0
        ∧ R = (wrun d l q st m p (s.drop p)).pre acc ∧ bdM (3 * p) m ∧ acc.length ≤ p ∧ (goN go [] (acc.map (·.1))).2 = false ∧ TSL (acc.map (·.1)) L2 ∧ Sep w0 w' (boxC gb 130 [U d.dl, U d.q, I d.e, .pointer (some ⟨g, 0, none⟩), I q, I st] :: boxC g 142 [I l.F, I l.N, I l.R, .bool l.U, fv, rv, I m.bg, I m.ct, I m.wd, I 0] :: accC fv 5 eU m.fl :: accC rv 9 eS m.rc :: boxC g8 59 [I 0, I 0] :: L2)) (fun r' _ => s.length - toN (r' 15)) ?_ ?_
      · have hS : Sep w0 _ (boxC gb 130 [U d.dl, U d.q, I d.e, .pointer (some ⟨g, 0, none⟩), I 0, I 0] :: boxC g 142 [I l.F, I l.N, I l.R, .bool l.U, fv, rv, I 0, I 0, I 0, I 0] :: accC fv 5 eU [] :: accC rv 9 eS [] :: boxC g8 59 [I 0, I 0] :: L) := Sep.sub hS (by repeat first | exact Sub.rfl' | (refine Sub.c (by repeat constructor) ?_) | refine Sub.skip ?_)
        have fct := @hI; exact ⟨off, 0, 0, {}, [], L, fv, rv, hoff2, by exact sf, by exact sf, by exact sf, by exact sf, by exact sf, by exact sf, hR.symm, ⟨by simp, by simp, by simp, by simp⟩, by simp, rfl, hL, hS⟩
      · clear hS hS2
        rintro u wl ⟨p, q, st, m, acc, L2, fv, rv, hp, h15, q2, q3, q8, q12, q16, e, hb, hac, hgo, hL, hS⟩ ih
        have hgo1 := goN_all go _ _ hgo
        rw [List.nil_append] at hgo1
        by_cases hlt : (p : Int) < s.length
        · rw [dropB06 s p hlt, wrun_cons] at e
          cases hsw : stepW d l q st m (s.getD p 0) with
          | error k =>
            rw [hsw] at e
            have hk := stepW_err hsw
            have hR2 : R = ⟨acc, k, p⟩ := by rw [e]; simp [Rs.pre]
            subst hR2
            (have fct := (And.intro @h15 (And.intro @q2 (And.intro @q3 (And.intro @q8 (And.intro @q12 @q16))))); repeat' (first | ((with_reducible apply G.a); exact rfl) | refine G.reg fun K hK => ?_ | (with_reducible (refine hK _ _ ?_); clear hK K) | (have hk := hK; clear hk; simp (disch := first | exact dis | fail) only [push_cast, ↓reduceIte, Nat.reduceAdd, Nat.reduceLeDiff, Nat.reduceEqDiff, Nat.reduceLT, Int.reduceToNat, fct]) | (refine brO_n ?_ ?_ <;> intro hb hc <;> first | (with_reducible exact False.elim hc) | (exfalso; omega) | (simp only [hb]; clear hb)) | ((first | refine zalc ?_ | ((with_reducible refine gBox ?_); refine zbox ?_)); intro gb wb hS) | ((with_reducible refine gSt ?_); refine zs2 ?_; intro wb hS) | (refine zcv ?_) | ((with_reducible (show CallK _ 55 _ _ _ _ _)); have hx : WkS w0 _ gb g d l q st m (boxC g8 59 [I 0, I 0] :: L2) := ⟨fv, rv, Sep.sub hS (by repeat first | exact Sub.rfl' | (refine Sub.c (by repeat constructor) ?_) | refine Sub.skip ?_)⟩; refine zco 55 (wstep_spec (b := s.getD p 0) hx (bd_mono hb (by omega))) ?_; clear hx; intro vb wb hG; rw [hsw] at hG; obtain ⟨rfl, hS⟩ := hG) | (refine G.cn ?_ ?_ <;> intro hc <;> first | (with_reducible exact False.elim hc) | (exfalso; omega) | skip))) <;> (try clear fct)
            all_goals
              (have fct := (And.intro @h15 (And.intro @q2 (And.intro @q3 (And.intro @q8 (And.intro @q12 @q16))))); (first | refine G.r1 ?_ | refine G.r2 ?_ | refine G.r3 ?_ | refine G.r0 ?_ | refine G.d0 ?_); (try simp (disch := first | exact dis | fail) only [push_cast, ↓reduceIte, Nat.reduceAdd, Nat.reduceLeDiff, Nat.reduceEqDiff, Nat.reduceLT, Int.reduceToNat, fct]); (try clear fct))
              simp only [hgo, hgo1, Bool.false_eq_true, if_false]
              exact ⟨trivial, L2, hL, Sep.sub hS (by repeat first | exact Sub.rfl' | (refine Sub.c (by repeat constructor) ?_) | refine Sub.skip ?_)⟩
          | ok x =>
            rw [hsw] at e
            have hb2 := stepW_bd hb hsw
            obtain ⟨q', st', m', o⟩ := x
            cases o with
            | none =>
              have e : R = (wrun d l q' st' m' (p + 1) (s.drop (p + 1))).pre acc := by rw [e]; simp [Rs.pre, oneR]
              (have fct := (And.intro @h15 (And.intro @q2 (And.intro @q3 (And.intro @q8 (And.intro @q12 @q16))))); repeat' (first | ((with_reducible apply G.a); exact rfl) | refine G.reg fun K hK => ?_ | (with_reducible (refine hK _ _ ?_); clear hK K) | (have hk := hK; clear hk; simp (disch := first | exact dis | fail) only [push_cast, ↓reduceIte, Nat.reduceAdd, Nat.reduceLeDiff, Nat.reduceEqDiff, Nat.reduceLT, Int.reduceToNat, fct]) | (refine brO_n ?_ ?_ <;> intro hb hc <;> first | (with_reducible exact False.elim hc) | (exfalso; omega) | (simp only [hb]; clear hb)) | ((first | refine zalc ?_ | ((with_reducible refine gBox ?_); refine zbox ?_)); intro gb wb hS) | ((with_reducible refine gSt ?_); refine zs2 ?_; intro wb hS) | (refine zcv ?_) | ((with_reducible (show CallK _ 55 _ _ _ _ _)); have hx : WkS w0 _ gb g d l q st m (boxC g8 59 [I 0, I 0] :: L2) := ⟨fv, rv, Sep.sub hS (by repeat first | exact Sub.rfl' | (refine Sub.c (by repeat constructor) ?_) | refine Sub.skip ?_)⟩; refine zco 55 (wstep_spec (b := s.getD p 0) hx (bd_mono hb (by omega))) ?_; clear hx; intro vb wb hG; rw [hsw] at hG; obtain ⟨rfl, fv2, rv2, hS⟩ := hG) | (refine G.cn ?_ ?_ <;> intro hc <;> first | (with_reducible exact False.elim hc) | (exfalso; omega) | skip))) <;> (try clear fct)
              all_goals
                have fct := (And.intro @q2 (And.intro @q3 (And.intro @q8 (And.intro @q12 (And.intro @q16 @h15))))); refine ih _ _ ⟨p + 1, q', st', m', acc, L2, fv2, rv2, by omega, by exact sf, by exact sf, by exact sf, by exact sf, by exact sf, by exact sf, e, bd_mono hb2 (by omega), by omega, hgo, hL, Sep.sub hS (by repeat first | exact Sub.rfl' | (refine Sub.c (by repeat constructor) ?_) | refine Sub.skip ?_)⟩ ?_
                (simp only [push_cast, ↓reduceIte, Nat.reduceAdd, Nat.reduceLeDiff, Nat.reduceEqDiff, Nat.reduceLT, Int.reduceToNat, toN_i, h15, q2, q3, q8, q12, q16] <;> omega)
            | some r =>
              have e : R = (wrun d l q' st' m' (p + 1) (s.drop (p + 1))).pre (acc ++ [(r, p)]) := by rw [e]; simp [Rs.pre, oneR]
              have hg2 := goN_app go [r] (acc.map (·.1)) []
              rw [if_neg (by rw [hgo]; simp), hgo1] at hg2
              have hmap : (acc ++ [(r, p)]).map (·.1) = acc.map (·.1) ++ [r] := by simp
              cases hgr : go (acc.map (·.1) ++ [r])
              · have hg3 : goN go [] (acc.map (·.1) ++ [r]) = (acc.map (·.1) ++ [r], true) := by rw [hg2, goN, hgr]; rfl
                have hg4 : goN go [] (R.rs.map (·.1)) = (acc.map (·.1) ++ [r], true) := by
                  rw [e]
                  simp only [Rs.pre]
                  rw [List.map_append, hmap, goN_app, hg3]; rfl
                (have fct := (And.intro @h15 (And.intro @q2 (And.intro @q3 (And.intro @q8 (And.intro @q12 (And.intro @q16 @hgr)))))); repeat' (first | ((with_reducible apply G.a); exact rfl) | refine G.reg fun K hK => ?_ | (with_reducible (refine hK _ _ ?_); clear hK K) | (have hk := hK; clear hk; simp (disch := first | exact dis | fail) only [push_cast, ↓reduceIte, Nat.reduceAdd, Nat.reduceLeDiff, Nat.reduceEqDiff, Nat.reduceLT, Int.reduceToNat, fct]) | (refine brO_n ?_ ?_ <;> intro hb hc <;> first | (with_reducible exact False.elim hc) | (exfalso; omega) | (simp only [hb]; clear hb)) | ((first | refine zalc ?_ | ((with_reducible refine gBox ?_); refine zbox ?_)); intro gb wb hS) | ((with_reducible refine gSt ?_); refine zs2 ?_; intro wb hS) | (refine zcv ?_) | ((with_reducible (show CallK _ 55 _ _ _ _ _)); have hx : WkS w0 _ gb g d l q st m (boxC g8 59 [I 0, I 0] :: L2) := ⟨fv, rv, Sep.sub hS (by repeat first | exact Sub.rfl' | (refine Sub.c (by repeat constructor) ?_) | refine Sub.skip ?_)⟩; refine zco 55 (wstep_spec (b := s.getD p 0) hx (bd_mono hb (by omega))) ?_; clear hx; intro vb wb hG; rw [hsw] at hG; obtain ⟨rv3, rfl, fv2, rv2, hS⟩ := hG) | ((with_reducible (show CallV _ tv _ _ _ _ _)); refine hT.ok (M := [boxC gb 130 [U d.dl, U d.q, I d.e, .pointer (some ⟨g, 0, none⟩), I q', I st'], boxC g 142 [I l.F, I l.N, I l.R, .bool l.U, fv2, rv2, I m'.bg, I m'.ct, I m'.wd, I 0], accC fv2 5 eU m'.fl, accC rv2 9 eS m'.rc, boxC g8 59 [I 0, I 0]]) hL hgo (by simp; omega) (by first | (exact Sep.sub (by assumption) (by repeat first | exact Sub.rfl' | (refine Sub.c (by repeat constructor) ?_) | refine Sub.skip ?_)) | fail) ?_; intro wb L3 hL3 hS; simp only [apps] at hS) | (refine G.cn ?_ ?_ <;> intro hc <;> first | (with_reducible exact False.elim hc) | (exfalso; omega) | skip))) <;> (try clear fct)
                all_goals
                  (have fct := (And.intro @h15 (And.intro @q2 (And.intro @q3 (And.intro @q8 (And.intro @q12 @q16))))); (first | refine G.r1 ?_ | refine G.r2 ?_ | refine G.r3 ?_ | refine G.r0 ?_ | refine G.d0 ?_); (try simp (disch := first | exact dis | fail) only [push_cast, ↓reduceIte, Nat.reduceAdd, Nat.reduceLeDiff, Nat.reduceEqDiff, Nat.reduceLT, Int.reduceToNat, fct]); (try clear fct))
                  simp only [hg4, if_true]
                  exact ⟨trivial, L3, hL3, Sep.sub hS (by repeat first | exact Sub.rfl' | (refine Sub.c (by repeat constructor) ?_) | refine Sub.skip ?_)⟩
              · have hg3 : goN go [] (acc.map (·.1) ++ [r]) = (acc.map (·.1) ++ [r], false) := by rw [hg2, goN, hgr]; rfl
                (have fct := (And.intro @h15 (And.intro @q2 (And.intro @q3 (And.intro @q8 (And.intro @q12 (And.intro @q16 @hgr)))))); repeat' (first | ((with_reducible apply G.a); exact rfl) | refine G.reg fun K hK => ?_ | (with_reducible (refine hK _ _ ?_); clear hK K) | (have hk := hK; clear hk; simp (disch := first | exact dis | fail) only [push_cast, ↓reduceIte, Nat.reduceAdd, Nat.reduceLeDiff, Nat.reduceEqDiff, Nat.reduceLT, Int.reduceToNat, fct]) | (refine brO_n ?_ ?_ <;> intro hb hc <;> first | (with_reducible exact False.elim hc) | (exfalso; omega) | (simp only [hb]; clear hb)) | ((first | refine zalc ?_ | ((with_reducible refine gBox ?_); refine zbox ?_)); intro gb wb hS) | ((with_reducible refine gSt ?_); refine zs2 ?_; intro wb hS) | (refine zcv ?_) | ((with_reducible (show CallK _ 55 _ _ _ _ _)); have hx : WkS w0 _ gb g d l q st m (boxC g8 59 [I 0, I 0] :: L2) := ⟨fv, rv, Sep.sub hS (by repeat first | exact Sub.rfl' | (refine Sub.c (by repeat constructor) ?_) | refine Sub.skip ?_)⟩; refine zco 55 (wstep_spec (b := s.getD p 0) hx (bd_mono hb (by omega))) ?_; clear hx; intro vb wb hG; rw [hsw] at hG; obtain ⟨rv3, rfl, fv2, rv2, hS⟩ := hG) | ((with_reducible (show CallV _ tv _ _ _ _ _)); refine hT.ok (M := [boxC gb 130 [U d.dl, U d.q, I d.e, .pointer (some ⟨g, 0, none⟩), I q', I st'], boxC g 142 [I l.F, I l.N, I l.R, .bool l.U, fv2, rv2, I m'.bg, I m'.ct, I m'.wd, I 0], accC fv2 5 eU m'.fl, accC rv2 9 eS m'.rc, boxC g8 59 [I 0, I 0]]) hL hgo (by simp; omega) (by first | (exact Sep.sub (by assumption) (by repeat first | exact Sub.rfl' | (refine Sub.c (by repeat constructor) ?_) | refine Sub.skip ?_)) | fail) ?_; intro wb L3 hL3 hS; simp only [apps] at hS) | (refine G.cn ?_ ?_ <;> intro hc <;> first | (with_reducible exact False.elim hc) | (exfalso; omega) | skip))) <;> (try clear fct)
                all_goals
                  have fct := (And.intro @q2 (And.intro @q3 (And.intro @q8 (And.intro @q12 (And.intro @q16 @h15))))); refine ih _ _ ⟨p + 1, q', st', m', acc ++ [(r, p)], L3, fv2, rv2, by omega, by exact sf, by exact sf, by exact sf, by exact sf, by exact sf, by exact sf, e, bd_mono hb2 (by omega), by simp; omega, by rw [hmap, hg3], by rw [hmap]; exact hL3, Sep.sub hS (by repeat first | exact Sub.rfl' | (refine Sub.c (by repeat constructor) ?_) | refine Sub.skip ?_)⟩ ?_
                  (simp only [push_cast, ↓reduceIte, Nat.reduceAdd, Nat.reduceLeDiff, Nat.reduceEqDiff, Nat.reduceLT, Int.reduceToNat, toN_i, h15, q2, q3, q8, q12, q16] <;> omega)
        · have hd : s.drop p = [] := List.drop_eq_nil_of_le (by omega)
          rw [hd, wrun_nil] at e
          cases hsw : endW l q st m with
          | error k =>
            rw [hsw] at e
            have hk := endW_err hsw
            have hR2 : R = ⟨acc, k, p⟩ := by rw [e]; simp [Rs.pre]
            subst hR2
            (have fct := (And.intro @h15 (And.intro @q2 (And.intro @q3 (And.intro @q8 (And.intro @q12 @q16))))); repeat' (first | ((with_reducible apply G.a); exact rfl) | refine G.reg fun K hK => ?_ | (with_reducible (refine hK _ _ ?_); clear hK K) | (have hk := hK; clear hk; simp (disch := first | exact dis | fail) only [push_cast, ↓reduceIte, Nat.reduceAdd, Nat.reduceLeDiff, Nat.reduceEqDiff, Nat.reduceLT, Int.reduceToNat, fct]) | (refine brO_n ?_ ?_ <;> intro hb hc <;> first | (with_reducible exact False.elim hc) | (exfalso; omega) | (simp only [hb]; clear hb)) | ((first | refine zalc ?_ | ((with_reducible refine gBox ?_); refine zbox ?_)); intro gb wb hS) | ((with_reducible refine gSt ?_); refine zs2 ?_; intro wb hS) | (refine zcv ?_) | ((with_reducible (show CallK _ 56 _ _ _ _ _)); have hx : WkS w0 _ gb g d l q st m (boxC g8 59 [I 0, I 0] :: L2) := ⟨fv, rv, Sep.sub hS (by repeat first | exact Sub.rfl' | (refine Sub.c (by repeat constructor) ?_) | refine Sub.skip ?_)⟩; refine zco 56 (wend_spec hx (bd_mono hb (by omega))) ?_; clear hx; intro vb wb hG; rw [hsw] at hG; obtain ⟨rfl, hS⟩ := hG) | (refine G.cn ?_ ?_ <;> intro hc <;> first | (with_reducible exact False.elim hc) | (exfalso; omega) | skip))) <;> (try clear fct)
            all_goals
              (have fct := (And.intro @h15 (And.intro @q2 (And.intro @q3 (And.intro @q8 (And.intro @q12 @q16))))); (first | refine G.r1 ?_ | refine G.r2 ?_ | refine G.r3 ?_ | refine G.r0 ?_ | refine G.d0 ?_); (try simp (disch := first | exact dis | fail) only [push_cast, ↓reduceIte, Nat.reduceAdd, Nat.reduceLeDiff, Nat.reduceEqDiff, Nat.reduceLT, Int.reduceToNat, fct]); (try clear fct))
              simp only [hgo, hgo1, Bool.false_eq_true, if_false]
              exact ⟨trivial, L2, hL, Sep.sub hS (by repeat first | exact Sub.rfl' | (refine Sub.c (by repeat constructor) ?_) | refine Sub.skip ?_)⟩
          | ok o =>
            rw [hsw] at e
            cases o with
            | none =>
              have hR2 : R = ⟨acc, 0, 0⟩ := by rw [e]; simp [Rs.pre, oneR]
              subst hR2
              (have fct := (And.intro @h15 (And.intro @q2 (And.intro @q3 (And.intro @q8 (And.intro @q12 @q16))))); repeat' (first | ((with_reducible apply G.a); exact rfl) | refine G.reg fun K hK => ?_ | (with_reducible (refine hK _ _ ?_); clear hK K) | (have hk := hK; clear hk; simp (disch := first | exact dis | fail) only [push_cast, ↓reduceIte, Nat.reduceAdd, Nat.reduceLeDiff, Nat.reduceEqDiff, Nat.reduceLT, Int.reduceToNat, fct]) | (refine brO_n ?_ ?_ <;> intro hb hc <;> first | (with_reducible exact False.elim hc) | (exfalso; omega) | (simp only [hb]; clear hb)) | ((first | refine zalc ?_ | ((with_reducible refine gBox ?_); refine zbox ?_)); intro gb wb hS) | ((with_reducible refine gSt ?_); refine zs2 ?_; intro wb hS) | (refine zcv ?_) | ((with_reducible (show CallK _ 56 _ _ _ _ _)); have hx : WkS w0 _ gb g d l q st m (boxC g8 59 [I 0, I 0] :: L2) := ⟨fv, rv, Sep.sub hS (by repeat first | exact Sub.rfl' | (refine Sub.c (by repeat constructor) ?_) | refine Sub.skip ?_)⟩; refine zco 56 (wend_spec hx (bd_mono hb (by omega))) ?_; clear hx; intro vb wb hG; rw [hsw] at hG; obtain ⟨rfl, hS⟩ := hG) | (refine G.cn ?_ ?_ <;> intro hc <;> first | (with_reducible exact False.elim hc) | (exfalso; omega) | skip))) <;> (try clear fct)
              all_goals
                (have fct := (And.intro @h15 (And.intro @q2 (And.intro @q3 (And.intro @q8 (And.intro @q12 @q16))))); (first | refine G.r1 ?_ | refine G.r2 ?_ | refine G.r3 ?_ | refine G.r0 ?_ | refine G.d0 ?_); (try simp (disch := first | exact dis | fail) only [push_cast, ↓reduceIte, Nat.reduceAdd, Nat.reduceLeDiff, Nat.reduceEqDiff, Nat.reduceLT, Int.reduceToNat, fct]); (try clear fct))
                simp only [hgo, hgo1, Bool.false_eq_true, if_false]
                exact ⟨by trivial, L2, hL, Sep.sub hS (by repeat first | exact Sub.rfl' | (refine Sub.c (by repeat constructor) ?_) | refine Sub.skip ?_)⟩
            | some r =>
              have hR2 : R = ⟨acc ++ [(r, p)], 0, 0⟩ := by rw [e]; simp [Rs.pre, oneR]
              subst hR2
              have hmap : (acc ++ [(r, p)]).map (·.1) = acc.map (·.1) ++ [r] := by simp
              have hg2 := goN_app go [r] (acc.map (·.1)) []
              rw [if_neg (by rw [hgo]; simp), hgo1] at hg2
              have hg5 : (goN go [] ((acc ++ [(r, p)]).map (·.1))).1 = acc.map (·.1) ++ [r] := by
                rw [hmap, hg2, goN]
                split
                · rfl
                · rfl
              (have fct := (And.intro @h15 (And.intro @q2 (And.intro @q3 (And.intro @q8 (And.intro @q12 @q16))))); repeat' (first | ((with_reducible apply G.a); exact rfl) | refine G.reg fun K hK => ?_ | (with_reducible (refine hK _ _ ?_); clear hK K) | (have hk := hK; clear hk; simp (disch := first | exact dis | fail) only [push_cast, ↓reduceIte, Nat.reduceAdd, Nat.reduceLeDiff, Nat.reduceEqDiff, Nat.reduceLT, Int.reduceToNat, fct]) | (refine brO_n ?_ ?_ <;> intro hb hc <;> first | (with_reducible exact False.elim hc) | (exfalso; omega) | (simp only [hb]; clear hb)) | ((first | refine zalc ?_ | ((with_reducible refine gBox ?_); refine zbox ?_)); intro gb wb hS) | ((with_reducible refine gSt ?_); refine zs2 ?_; intro wb hS) | (refine zcv ?_) | ((with_reducible (show CallK _ 56 _ _ _ _ _)); have hx : WkS w0 _ gb g d l q st m (boxC g8 59 [I 0, I 0] :: L2) := ⟨fv, rv, Sep.sub hS (by repeat first | exact Sub.rfl' | (refine Sub.c (by repeat constructor) ?_) | refine Sub.skip ?_)⟩; refine zco 56 (wend_spec hx (bd_mono hb (by omega))) ?_; clear hx; intro vb wb hG; rw [hsw] at hG; obtain ⟨rv3, rfl, hS⟩ := hG) | ((with_reducible (show CallV _ tv _ _ _ _ _)); refine hT.ok (M := [boxC g8 59 [I 0, I 0]]) hL hgo (by simp; omega) (by first | (exact Sep.sub (by assumption) (by repeat first | exact Sub.rfl' | (refine Sub.c (by repeat constructor) ?_) | refine Sub.skip ?_)) | fail) ?_; intro wb L3 hL3 hS; simp only [apps] at hS) | (refine G.cn ?_ ?_ <;> intro hc <;> first | (with_reducible exact False.elim hc) | (exfalso; omega) | skip))) <;> (try clear fct)
              all_goals
                (have fct := (And.intro @h15 (And.intro @q2 (And.intro @q3 (And.intro @q8 (And.intro @q12 @q16))))); (first | refine G.r1 ?_ | refine G.r2 ?_ | refine G.r3 ?_ | refine G.r0 ?_ | refine G.d0 ?_); (try simp (disch := first | exact dis | fail) only [push_cast, ↓reduceIte, Nat.reduceAdd, Nat.reduceLeDiff, Nat.reduceEqDiff, Nat.reduceLT, Int.reduceToNat, fct]); (try clear fct))
                refine ⟨by simp, L3, by rw [hg5]; exact hL3, Sep.sub hS (by repeat first | exact Sub.rfl' | (refine Sub.c (by repeat constructor) ?_) | refine Sub.skip ?_)⟩
end Go.Proofs.YtjajihaeoolefaaDoor
namespace Go.Proofs.YtjajihaeoolefaaDoor
set_option linter.unusedSimpArgs false
set_option linter.unusedVariables false
attribute [local irreducible] SemK UnitK StK AlcK BslK CallK CallV Instr.box Builtin.append_ Instr.makeSlice Instr.makeMap Instr.lookup Instr.mapUpdate Instr.sliceAt convert
open Go.RowKit
theorem goN_true : ∀ (x a : List (List Str)), goN (fun _ => true) a x = (a ++ x, false)
  | [], a => by simp [goN]
  | r :: x, a => by rw [goN, if_pos rfl, goN_true x _]; simp
theorem pcl_of {gt : Nat} {tv : Value} {vs : List Value} {xss : List (List Str)} {L L1 L2 M : List Chk} {w w0 : World} (hS : Sep w0 w L) (h1 : Ex (boxC gt 57 [tv]) L L1) (h2 : Ex (accC tv 26 eV vs) L1 L2) (h3 : Ex (frzC eS vs xss) L2 M) :
    ∃ tv vs, Sep w0 w (boxC gt 57 [tv] :: accC tv 26 eV vs :: frzC eS vs xss :: M) := ⟨tv, vs, hS.sub (.c h1 (.c h2 (.c h3 Sub.rfl')))⟩
def c42 : MC := (.seq (.reg [qq 3 (.mv (kb false))]) (.seq (.reg [qq 4 (.ld none (.tmp 1)), qm 5 0, qq 6 (.bsl 26 [(.slice none 0 0)] 1 [⟨0, ⟨1, (.tmp 5)⟩⟩]), qq 7 (.raw (.call ⟨(.builtin .append), #[(.tmp 4), (.tmp 6)], #[57, 57]⟩) 57), qn (.st 1 (.tmp 1) (.tmp 7))]) (.seq (.reg [qq 3 (.mv (kb true))]) .ret)))
theorem k42 : conv Tryd.prog 8 (Tryd.f42.body.getD .skip) = c42 := by kernel_rfl
theorem in42 {a0 a1 : Value} {w : World} {R : Value → World → Prop} (h : G Tryd.prog Tryd.f42 8 [.c c42] R (frL 0 [a0, a1]) w) : Ret Tryd.prog 42 #[a0, a1] w R := G.enter (args := [a0, a1]) Tryd.func42 (c := Tryd.f42.body.getD .skip) (by kernel_rfl) (by kernel_rfl) (by simp) k42 h
theorem pcl_spec {gt : Nat} {tv rv : Value} {vs : List Value} {xss : List (List Str)} {r : List Str} {M : List Chk} {w w0 : World} (hS : Sep w0 w (accC rv 9 eS r :: boxC gt 57 [tv] :: accC tv 26 eV vs :: frzC eS vs xss :: M)) (hl : xss.length ≤ 1000000000) :
    Ret Tryd.prog 42 #[rv, .pointer (some ⟨gt, 0, none⟩)] w fun res w' => res = .bool true ∧ ∃ tv vs, Sep w0 w' (boxC gt 57 [tv] :: accC tv 26 eV vs :: frzC eS vs (xss ++ [r]) :: M) := by
  refine in42 ?_
  have hlen := hS.frzLen (.t (.t (.t .h)))
  repeat' (first | ((with_reducible apply G.a); exact rfl) | refine G.reg fun K hK => ?_ | (with_reducible (refine hK _ _ ?_); clear hK K) | (have hk := hK; clear hk; simp (disch := first | exact dis | fail) only [push_cast, ↓reduceIte, Nat.reduceAdd, Nat.reduceLeDiff, Nat.reduceEqDiff, Nat.reduceLT, Int.reduceToNat, fct]) | (refine zbsl ?_; intro gb wb hS) | ((with_reducible refine gSt ?_); refine zs2 ?_; intro wb hS) | (refine zap ?_; intro vb wb hS))
  all_goals
    (first | refine G.r1 ?_ | refine G.r2 ?_ | refine G.r3 ?_ | refine G.r0 ?_ | refine G.d0 ?_); (try simp (disch := first | exact dis | fail) only [push_cast, ↓reduceIte, Nat.reduceAdd, Nat.reduceLeDiff, Nat.reduceEqDiff, Nat.reduceLT, Int.reduceToNat, fct])
    have hS := hS.frzPush (.h) (.t (.t .h))
    exact pcl_of hS (by repeat constructor) (by repeat constructor) (by repeat constructor)
theorem take_parse (gt : Nat) (E : List Chk) : TakeOK (.func (.func 42) #[] #[.pointer (some ⟨gt, 0, none⟩)]) (fun xss L => ∃ tv vs, L = boxC gt 57 [tv] :: accC tv 26 eV vs :: frzC eS vs xss :: E) (fun _ => true) := by
  refine ⟨?_⟩
  rintro xss r rv w0 w M L d ρ next ⟨tv, vs, rfl⟩ _ hl hS k
  have hS2 : Sep w0 w (accC rv 9 eS r :: boxC gt 57 [tv] :: accC tv 26 eV vs :: frzC eS vs xss :: (E ++ M)) := hS.sub (.c .h (sub_comm M (boxC gt 57 [tv] :: accC tv 26 eV vs :: frzC eS vs xss :: E)))
  refine zcv ?_
  refine zco 42 (pcl_spec hS2 hl) ?_
  rintro v w' ⟨rfl, tv', vs', hS3⟩
  exact k w' _ ⟨tv', vs', rfl⟩ (Sep.comm (A := boxC gt 57 [tv'] :: accC tv' 26 eV vs' :: frzC eS vs' (xss ++ [r]) :: E) hS3)
def c16 : MC := (.seq (.reg [qq 3 (.raw (.box 63 (.tmp 0)) 0), qq 4 (.raw (.box 65 (.tmp 1)) 0), qq 6 (.mv (.const (.slice none 0 0))), qq 7 (.alc 59 [(.int .i64 0), (.int .i64 0)])]) (.seq (.reg [qq 8 (.alc 57 [(.slice none 0 0)])]) (.seq (.reg [qq 10 (.ld (.some 3) (.tmp 3)), qq 11 (.ld (.some 4) (.tmp 4)), qm 12 2, qq 13 (.raw (.makeFunc (.func 42) #[] #[(.tmp 8)]) 112), qq 14 (.call 41 [(.tmp 10), (.tmp 11), (.tmp 12), (.tmp 13)]), qq 9 (.alc 59 [(.int .i64 0), (.int .i64 0)]), qn (.st 2 (.tmp 9) (.tmp 14))]) (.seq (.drg [qq 15 (.ld none (.tmp 8)), qq 16 (.ld (.some 2) (.tmp 9)), qm 6 15, qn (.st 2 (.tmp 7) (.tmp 16))] (.some (.br [] (.leaf [qq 15 (.ld none (.tmp 8)), qm 6 15, qq 16 (.ld (.some 2) (.tmp 9)), qn (.st 2 (.tmp 7) (.tmp 16))]) (.leaf [qq 16 (.ld (.some 2) (.tmp 9)), qq 15 (.ld none (.tmp 8)), qm 6 15, qn (.st 2 (.tmp 7) (.tmp 16))])))) .ret))))
theorem k16 : conv Tryd.prog 17 (Tryd.f16.body.getD .skip) = c16 := by kernel_rfl
theorem in16 {a0 a1 a2 : Value} {w : World} {R : Value → World → Prop} (h : G Tryd.prog Tryd.f16 17 [.c c16] R (frL 0 [a0, a1, a2]) w) : Ret Tryd.prog 16 #[a0, a1, a2] w R := G.enter (args := [a0, a1, a2]) Tryd.func16 (c := Tryd.f16.body.getD .skip) (by kernel_rfl) (by kernel_rfl) (by simp) k16 h
theorem parse_spec (d : Dl) (l : Lm) (s : Str) (w : World) (hl : s.length ≤ 900000) :
    Ret Tryd.prog 16 #[(.agg #[U d.dl, U d.q, I d.e]), (.agg #[I l.F, I l.N, I l.R, .bool l.U]), S s] w fun res w' => ∃ v vs, res = .tuple #[v, .agg #[I (walkM d l s).k, I (walkM d l s).a]] ∧ Sep w w' [accC v 26 eV vs, frzC eS vs ((walkM d l s).rs.map (·.1))] := by
  refine in16 ?_
  have hS := Sep.start w
  repeat' (first | ((with_reducible apply G.a); exact rfl) | refine G.reg fun K hK => ?_ | (with_reducible (refine hK _ _ ?_); clear hK K) | (with_reducible (refine hK _ ?_); clear hK K; intro wd hxd; have hS := Sep.ext (by assumption) hxd) | ((first | have hk := hK | have hk := hK2); clear hk; simp (disch := (first | exact dis | fail)) only [push_cast, ↓reduceIte, Nat.reduceAdd, Nat.reduceLeDiff, Nat.reduceEqDiff, Nat.reduceLT, Int.reduceToNat, List.map_toArray]) | ((first | refine brO_mk ?_ ?_ | refine brQ_mk ?_ ?_) <;> intro hb <;> (try simp only [Bool.not_eq_true', Bool.not_eq_false'] at hb) <;> have hc := hb <;> (try simp only [hcs, reduceCtorEq] at hc) <;> (try (exfalso; omega)) <;> simp only [hb] <;> clear hb) | (refine zalc ?_; intro gb wb hS) | (refine zbsl ?_; intro gb wb hS) | ((with_reducible (show SemK _ (Instr.box _ _) _ _ _ _)); refine zbox ?_; intro gb wb hS) | ((with_reducible (show StK _ _ (Value.pointer _) _ _ _ _ _)); refine zst ?_; intro wb hS; (try simp only [sets] at hS)) | (refine zcv ?_) | ((with_reducible (show CallK _ 41 _ _ _ _ _)); have hS := (hS.nil 26 eV).frz0 eS; refine zco 41 (walk_spec (take_parse gb _) d l s (by omega) (L := boxC gb 57 [.slice none 0 0] :: accC (.slice none 0 0) 26 eV [] :: frzC eS [] [] :: _) (Sep.sub hS (.c (by repeat constructor) (.c (by repeat constructor) (.c (by repeat constructor) Sub.rfl')))) ⟨_, _, rfl⟩) ?_; rw [goN_true]; rintro vb wb ⟨rfl, L3, ⟨tv, vs, rfl⟩, hS⟩; simp only [Bool.false_eq_true, if_false, List.nil_append] at hS ⊢) | (refine G.drt mixed fun K hK wd hxd => ?_; have hS := Sep.ext (by assumption) hxd) | with_reducible refine OT_leaf ?_ | (with_reducible refine OT_tail fun K2 hK2 => ?_) | (with_reducible (refine hK2 _ ?_); clear hK2 K2; intro wd hxd; have hS := Sep.ext (by assumption) hxd) | with_reducible refine OT_br fun K2 hK2 => ?_ | (refine hK2 _ _ ?_ ?_ <;> clear hK2 K2) | refine G.drg mixed fun K hK => ?_ | (refine G.cond (by simp only [push_cast, ↓reduceIte, Nat.reduceAdd, Nat.reduceLeDiff, Nat.reduceEqDiff, Nat.reduceLT, Int.reduceToNat, List.map_toArray]; rfl) ?_ ?_ <;> intro hc <;> (try simp only [hcs, reduceCtorEq] at hc) <;> (try (exfalso; omega))))
  all_goals
    (first | refine G.r1 ?_ | refine G.r2 ?_ | refine G.r3 ?_ | refine G.r0 ?_ | refine G.d0 ?_); (try simp (disch := first | exact dis | fail) only [push_cast, ↓reduceIte, Nat.reduceAdd, Nat.reduceLeDiff, Nat.reduceEqDiff, Nat.reduceLT, Int.reduceToNat, fct])
    exact ⟨_, _, rfl, Sep.sub hS (.c (by repeat constructor) (.c (by repeat constructor) Sub.nil0))⟩
end Go.Proofs.YtjajihaeoolefaaDoor
namespace Go.Proofs.YtjajihaeoolefaaDoor
set_option linter.unusedSimpArgs false
set_option linter.unusedVariables false
end Go.Proofs.YtjajihaeoolefaaDoor
namespace Go.Proofs.YtjajihaeoolefaaDoor
set_option linter.unusedSimpArgs false
set_option linter.unusedVariables false
attribute [local irreducible] SemK UnitK StK AlcK BslK CallK CallV Instr.box Builtin.append_ Instr.makeSlice Instr.makeMap Instr.lookup Instr.mapUpdate Instr.sliceAt convert
open Go.RowKit
end Go.Proofs.YtjajihaeoolefaaDoor
namespace Go.Proofs.YtjajihaeoolefaaDoor
set_option linter.unusedSimpArgs false
set_option linter.unusedVariables false
attribute [local irreducible] SemK UnitK StK AlcK BslK CallK CallV Instr.box Builtin.append_ Instr.makeSlice Instr.makeMap Instr.lookup Instr.mapUpdate Instr.sliceAt convert
open Go.RowKit
theorem walkM_top : walkM ⟨44, 34, 1⟩ ⟨9, 9, 9, false⟩ [97, 44, 34, 98, 34, 10] = ⟨[([[97], [98]], 5)], 0, 0⟩ := by kernel_rfl
def c6 : MC := (.seq (.reg [qq 0 (.mv (kb false))]) (.seq (.reg [qq 4 (.bld [(.int .u8 0), (.int .u8 0), (.int .i64 0)] [⟨0, ⟨1, (.const (.int .u8 44))⟩⟩, ⟨1, ⟨1, (.const (.int .u8 34))⟩⟩, ⟨2, ⟨1, (ki 1)⟩⟩]), qq 5 (.bld [(.int .i64 0), (.int .i64 0), (.int .i64 0), (.bool false)] [⟨0, ⟨1, (ki 9)⟩⟩, ⟨1, ⟨1, (ki 9)⟩⟩, ⟨2, ⟨1, (ki 9)⟩⟩]), qq 6 (.call 16 [(.tmp 4), (.tmp 5), (.const (S [97, 44, 34, 98, 34, 10]))]), qm 3 6, qq 7 (.ext 0 (.tmp 3)), qq 8 (.ext 1 (.tmp 3)), qq 2 (.alc 59 [(.int .i64 0), (.int .i64 0)]), qm 1 7, qn (.st 2 (.tmp 2) (.tmp 8))]) (.seq (.reg [qm 9 1, qq 10 (.len (.tmp 9)), qq 11 (.bin .eql (.tmp 10) (ki 1)), qm 12 11, qmt 12 13 1, qt 12 14 (.adr 1 (.tmp 13) (ki 0)), qt 12 15 (.ld none (.tmp 14)), qt 12 16 (.len (.tmp 15)), qt 12 17 (.bin .eql (.tmp 16) (ki 2)), qq 18 (.pick (.tmp 12) (.tmp 17) (kb false)), qm 19 18, qmt 19 20 1, qt 19 21 (.adr 1 (.tmp 20) (ki 0)), qt 19 22 (.ld none (.tmp 21)), qt 19 23 (.adr 1 (.tmp 22) (ki 1)), qt 19 24 (.ld none (.tmp 23)), qt 19 25 (.bin .eql (.tmp 24) (.const (S [98]))), qq 26 (.pick (.tmp 19) (.tmp 25) (kb false)), qm 27 26, qt 27 28 (.ld (.some 2) (.tmp 2)), qt 27 29 (.bld [(.int .i64 0), (.int .i64 0)] []), qt 27 30 (.eqA false [.i, .i] (.tmp 28) (.tmp 29)), qq 31 (.pick (.tmp 27) (.tmp 30) (kb false)), qm 0 31]) .ret)))
theorem k6 : conv Tryd.prog 32 (Tryd.f6.body.getD .skip) = c6 := by kernel_rfl
theorem in6 {w : World} {R : Value → World → Prop} (h : G Tryd.prog Tryd.f6 32 [.c c6] R (frL 0 []) w) : Ret Tryd.prog 6 #[] w R := G.enter (args := []) Tryd.func6 (c := Tryd.f6.body.getD .skip) (by kernel_rfl) (by kernel_rfl) (by simp) k6 h
theorem alive_spec (w : World) : Pu Tryd.prog 6 #[] w (.bool true) := by
  refine in6 ?_
  have hS := Sep.start w
  have hp : ∀ w, Ret Tryd.prog 16 #[.agg #[U 44, U 34, I 1], .agg #[I 9, I 9, I 9, .bool false], S [97, 44, 34, 98, 34, 10]] w fun res w' => ∃ v v0, res = .tuple #[v, .agg #[I 0, I 0]] ∧ Sep w w' [accC v 26 eV [v0], frzC eS [v0] [[[97], [98]]]] := by
    intro w
    have h := parse_spec ⟨44, 34, 1⟩ ⟨9, 9, 9, false⟩ [97, 44, 34, 98, 34, 10] w (by decide)
    rw [walkM_top] at h
    refine h.mono ?_
    rintro res w' ⟨v, vs, h1, hS⟩
    have hl := hS.frzLen (.t .h)
    match vs, hl with
    | [v0], _ => exact ⟨v, v0, h1, hS⟩
  repeat' (first | ((with_reducible apply G.a); exact rfl) | refine G.reg fun K hK => ?_ | (with_reducible (refine hK _ _ ?_); clear hK K) | (have hk := hK; clear hk; simp (disch := first | exact dis | fail) only [push_cast, ↓reduceIte, Nat.reduceAdd, Nat.reduceLeDiff, Nat.reduceEqDiff, Nat.reduceLT, Int.reduceToNat, fct]) | (refine brO_n ?_ ?_ <;> intro hb hc <;> first | (with_reducible exact False.elim hc) | (exfalso; omega) | (simp only [hb]; clear hb)) | (refine zalc ?_; intro gb wb hS) | ((with_reducible refine gSt ?_); refine zs2 ?_; intro wb hS) | (refine zco 16 (hp _) ?_; rintro vb wb ⟨v, v0, rfl, hS2⟩; have hS := hS2.ap; simp only [apps] at hS))
  have hfz : Rd _ eS v0 [[97], [98]] := Sep.frzAt hS (.t (.t .h)) (i := 0) (by decide)
  repeat' (first | ((with_reducible apply G.a); exact rfl) | refine G.reg fun K hK => ?_ | (with_reducible (refine hK _ _ ?_); clear hK K) | (have hk := hK; clear hk; simp (disch := first | exact dis | fail) only [push_cast, ↓reduceIte, Nat.reduceAdd, Nat.reduceLeDiff, Nat.reduceEqDiff, Nat.reduceLT, Int.reduceToNat, fct]) | (refine brO_n ?_ ?_ <;> intro hb hc <;> first | (with_reducible exact False.elim hc) | (exfalso; omega) | (simp only [hb]; clear hb)) | (refine zalc ?_; intro gb wb hS) | ((with_reducible refine gSt ?_); refine zs2 ?_; intro wb hS))
  all_goals
    (first | refine G.r1 ?_ | refine G.r2 ?_ | refine G.r3 ?_ | refine G.r0 ?_ | refine G.d0 ?_); (try simp (disch := first | exact dis | fail) only [push_cast, ↓reduceIte, Nat.reduceAdd, Nat.reduceLeDiff, Nat.reduceEqDiff, Nat.reduceLT, Int.reduceToNat, fct])
    exact Sep.xt (by assumption)
theorem takeS_snoc {α : Type} [Inhabited α] : ∀ (t : List α) (i : Nat), i < t.length → t.take (i + 1) = t.take i ++ [t.getD i default]
  | [], i, h => by simp at h
  | x :: t, 0, _ => by simp
  | x :: t, i + 1, h => by
    rw [List.take_succ_cons, takeS_snoc t i (by simpa using h), List.take_succ_cons]
    simp
theorem take_set {α : Type} [Inhabited α] (t X : List α) (i : Nat) (h1 : i < t.length) (h2 : X.length = t.length) : (t.take i ++ X.drop i).set i (t.getD i default) = t.take (i + 1) ++ X.drop (i + 1) := by
  have hx : i < X.length := by omega
  have hl : (t.take i).length = i := by rw [List.length_take]; omega
  rw [takeS_snoc t i h1, List.drop_eq_getElem_cons hx, List.set_append_right _ _ (by omega), hl, Nat.sub_self, List.set_cons_zero, List.append_assoc]
  rfl
end Go.Proofs.YtjajihaeoolefaaDoor
