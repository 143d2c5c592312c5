/- Texts of the proof, joined. -/
import Derived.Test.YtdikpaochhacmaaGreatDoortP20
import Derived.Test.YtdikpaochhacmaaGreatDoortW16
import Derived.Test.YtdikpaochhacmaaGreatDoortX19
import Derived.Test.YtdikpaochhacmaaGreatDoortA06
namespace Go.Proofs.YtdikpaochhacmaaGreatDoor
set_option linter.unusedSimpArgs false
set_option linter.unusedVariables false
open Go.RowKit
def rowF : List Str → List Col → List Val → List Val × Int × Int
  | s :: r, c :: l, out => if (deM s c.kind c.null).2 ≠ 0 then ([], (out.length : Int), (deM s c.kind c.null).2) else rowF r l (out ++ [(deM s c.kind c.null).1])
  | _, _, out => (out, (out.length : Int), 0)
def rowM (r : List Str) (l : List Col) : List Val × Int × Int := if (r.length : Int) = l.length then rowF r l [] else ([], (r.length : Int), 10)
structure Bd where
  k : Int
  r : Int
  c : Int
  a : Int
def rdF (r0 : Nat) (p : List Int) (l : List Col) (fk fa : Int) : List (List Str) → List (List Val) → List (List Val) × Bd
  | [], out => if fk ≠ 0 then ([], ⟨fk, 0, 0, fa⟩) else (out, ⟨0, 0, 0, 0⟩)
  | r :: t, out => if ¬ (r.length : Int) = r0 then ([], ⟨10, (out.length : Int) + 1, (r.length : Int), 0⟩) else
    if (pickM r p).2 ≠ 0 then ([], ⟨(pickM r p).2, (out.length : Int) + 1, 0, 0⟩) else
    if (rowM (pickM r p).1 l).2.2 ≠ 0 then ([], ⟨(rowM (pickM r p).1 l).2.2, (out.length : Int) + 1, (rowM (pickM r p).1 l).2.1, 0⟩) else rdF r0 p l fk fa t (out ++ [(rowM (pickM r p).1 l).1])
def rdT (l : List Col) (mode fk fa : Int) : List (List Str) → List (List Val) × Bd
  | [] => if fk ≠ 0 then ([], ⟨fk, 0, 0, fa⟩) else ([], ⟨25, 0, 0, 0⟩)
  | r0 :: t => if (bindCM r0 (l.map nkC) mode).2.2 ≠ 0 then ([], ⟨(bindCM r0 (l.map nkC) mode).2.2, 0, (bindCM r0 (l.map nkC) mode).2.1, 0⟩) else rdF r0.length (bindCM r0 (l.map nkC) mode).1 l fk fa t []
def readM (d : Dl) (l : List Col) (mode : Int) (s : Str) : List (List Val) × Bd :=
  if (checkM (l.map nkC)).2 ≠ 0 then ([], ⟨(checkM (l.map nkC)).2, 0, (checkM (l.map nkC)).1, 0⟩) else
  if mode < 1 ∨ 3 < mode then ([], ⟨22, 0, 0, 0⟩) else
  if rightD d = false then ([], ⟨1, 0, 0, 0⟩) else
  rdT l mode (parM d wideL s).k (parM d wideL s).a ((parM d wideL s).rs.map Prod.fst)
theorem rowF_at (r : List Str) (l : List Col) (k : Nat) (out : List Val) (h1 : (k : Int) < r.length) (h2 : (k : Int) < l.length) : rowF (r.drop k) (l.drop k) out =
    if (deM (r.getD k default) (l.getD k default).kind (l.getD k default).null).2 ≠ 0 then ([], (out.length : Int), (deM (r.getD k default) (l.getD k default).kind (l.getD k default).null).2) else rowF (r.drop (k + 1)) (l.drop (k + 1)) (out ++ [(deM (r.getD k default) (l.getD k default).kind (l.getD k default).null).1]) := by
  rw [dropD _ _ h1, dropD _ _ h2, rowF]
theorem rowF_end (r : List Str) (l : List Col) (k : Nat) (out : List Val) (h1 : ¬ (k : Int) < r.length) : rowF (r.drop k) (l.drop k) out = (out, (out.length : Int), 0) := by
  rw [List.drop_eq_nil_of_le (show r.length ≤ k by omega)]
  cases l.drop k <;> rfl
theorem rdF_at (r0 : Nat) (p : List Int) (l : List Col) (fk fa : Int) (t : List (List Str)) (k : Nat) (out : List (List Val)) (h1 : (k : Int) < t.length) : rdF r0 p l fk fa (t.drop k) out =
    if ¬ ((t.getD k []).length : Int) = r0 then ([], ⟨10, (out.length : Int) + 1, ((t.getD k []).length : Int), 0⟩) else
    if (pickM (t.getD k []) p).2 ≠ 0 then ([], ⟨(pickM (t.getD k []) p).2, (out.length : Int) + 1, 0, 0⟩) else
    if (rowM (pickM (t.getD k []) p).1 l).2.2 ≠ 0 then ([], ⟨(rowM (pickM (t.getD k []) p).1 l).2.2, (out.length : Int) + 1, (rowM (pickM (t.getD k []) p).1 l).2.1, 0⟩) else rdF r0 p l fk fa (t.drop (k + 1)) (out ++ [(rowM (pickM (t.getD k []) p).1 l).1]) := by
  have hd : t.getD k default = t.getD k [] := rfl
  rw [dropD _ _ h1, rdF, hd]
theorem rdF_end (r0 : Nat) (p : List Int) (l : List Col) (fk fa : Int) (t : List (List Str)) (k : Nat) (out : List (List Val)) (h1 : ¬ (k : Int) < t.length) : rdF r0 p l fk fa (t.drop k) out = if fk ≠ 0 then ([], ⟨fk, 0, 0, fa⟩) else (out, ⟨0, 0, 0, 0⟩) := by
  rw [List.drop_eq_nil_of_le (show t.length ≤ k by omega), rdF]
theorem read_ex1 : readM ⟨44, 34, 1⟩ [⟨[105, 100], 2, false⟩] 1 [105, 100, 10, 55, 10] = ([[⟨2, [], 7, false⟩]], ⟨0, 0, 0, 0⟩) := by kernel_rfl
theorem read_ex2 : readM ⟨44, 34, 1⟩ [⟨[105, 100], 2, false⟩] 1 [105, 100, 10, 120] = ([], ⟨17, 1, 0, 0⟩) := by kernel_rfl
end Go.Proofs.YtdikpaochhacmaaGreatDoor
namespace Go.Proofs.YtdikpaochhacmaaGreatDoor
set_option linter.unusedSimpArgs false
set_option linter.unusedVariables false
attribute [local irreducible] SemK UnitK StK AlcK BslK CallK CallV Instr.box Builtin.append_ Instr.makeSlice Instr.makeMap Instr.lookup Instr.mapUpdate Instr.sliceAt convert
open Go.RowKit
theorem pickF_sub (r : List Str) (B : Nat) (h : ∀ s ∈ r, s.length ≤ B) : ∀ (p : List Int) (out : List Str), (∀ s ∈ out, s.length ≤ B) → (∀ s ∈ (pickF r p out).1, s.length ≤ B) ∧ (pickF r p out).1.length ≤ out.length + p.length
  | [], out, ho => by rw [pickF]; exact ⟨ho, by simp⟩
  | p :: l, out, ho => by
    rw [pickF]
    split
    · exact ⟨by simp, by simp⟩
    · have := pickF_sub r B h l (out ++ [r.getD p.toNat default]) (fun s hs => by
        rcases List.mem_append.1 hs with hs | hs
        · exact ho s hs
        · rw [List.mem_singleton] at hs
          subst hs
          rcases Nat.lt_or_ge p.toNat r.length with h1 | h1
          · exact h _ (getD_mem r p.toNat (by omega))
          · rw [List.getD_eq_getElem?_getD, List.getElem?_eq_none h1]; exact Nat.zero_le _)
      simp only [List.length_append, List.length_cons, List.length_nil] at this ⊢
      exact ⟨this.1, by omega⟩
theorem pickM_sub (r : List Str) (p : List Int) (B : Nat) (h : ∀ s ∈ r, s.length ≤ B) : (∀ s ∈ (pickM r p).1, s.length ≤ B) ∧ (pickM r p).1.length ≤ p.length := by
  unfold pickM
  split
  · exact ⟨by simp, by simp⟩
  · have := pickF_sub r B h p [] (by simp)
    simpa using this
def c17l1 : MC := (.seq (.reg [qq 22 (.bin .lss (.tmp 21) (.tmp 20))]) (.seq (.cond (.tmp 22) .skip (.exit 0)) (.seq (.blk 1 (.seq (.reg [qm 23 21, qq 24 (.adr 1 (.tmp 19) (.tmp 21)), qq 25 (.ld none (.tmp 24)), qm 8 23, qm 9 25]) (.seq (.reg [qm 27 9, qm 28 1, qm 29 8, qq 30 (.adr 3 (.tmp 28) (.tmp 29)), qq 31 (.ld (.some 3) (.tmp 30)), qq 32 (.call 38 [(.tmp 27), (.tmp 31)]), qm 26 32, qq 33 (.ext 0 (.tmp 26)), qq 34 (.ext 1 (.tmp 26)), qq 10 (.alc 78 [(.int .i64 0), (S []), (.int .i64 0), (.bool false)]), qn (.st 4 (.tmp 10) (.tmp 33)), qm 11 34]) (.seq (.seq (.reg [qm 35 11, qq 36 (.bin .neq (.tmp 35) (ki 0))]) (.cond (.tmp 36) (.seq (.reg [qm 37 8, qm 38 11, qq 4 (.mv (.const (.slice none 0 0))), qm 5 37, qm 6 38]) .ret) .skip)) (.reg [qm 39 7, qq 40 (.ld (.some 4) (.tmp 10)), qq 41 (.bsl 78 [(.int .i64 0), (S []), (.int .i64 0), (.bool false)] 1 [⟨0, ⟨4, (.tmp 40)⟩⟩]), qq 42 (.raw (.call ⟨(.builtin .append), #[(.tmp 39), (.tmp 41)], #[50, 50]⟩) 50), qm 7 42]))))) (.reg [qq 43 (.bin .add (.tmp 21) (ki 1)), qm 21 43]))))
def c17 : MC := (.seq (.reg [qq 4 (.mv (.const (.slice none 0 0))), qq 5 (.mv (ki 0)), qq 6 (.mv (ki 0))]) (.seq (.seq (.reg [qm 12 0, qq 13 (.len (.tmp 12)), qm 14 1, qq 15 (.len (.tmp 14)), qq 16 (.bin .neq (.tmp 13) (.tmp 15))]) (.cond (.tmp 16) (.seq (.reg [qm 17 0, qq 18 (.len (.tmp 17)), qq 4 (.mv (.const (.slice none 0 0))), qm 5 18, qq 6 (.mv (ki 10))]) .ret) .skip)) (.seq (.reg [qq 7 (.mv (.const (.slice none 0 0)))]) (.seq (.seq (.reg [qm 19 0, qq 20 (.len (.tmp 19)), qq 21 (.mv (ki 0))]) (.blk 0 (.loop c17l1))) (.seq (.reg [qm 44 7, qm 45 7, qq 46 (.len (.tmp 45)), qm 4 44, qm 5 46, qq 6 (.mv (ki 0))]) .ret)))))
theorem k17 : conv Tryz.prog 47 (Tryz.f17.body.getD .skip) = c17 := by kernel_rfl
theorem in17 {a0 a1 : Value} {w : World} {R : Value → World → Prop} (h : G Tryz.prog Tryz.f17 47 [.c c17] R (frL 0 [a0, a1]) w) : Ret Tryz.prog 17 #[a0, a1] w R := G.enter (args := [a0, a1]) Tryz.func17 (c := Tryz.f17.body.getD .skip) (by kernel_rfl) (by kernel_rfl) (by simp) k17 h
set_option maxHeartbeats 1000000 in
theorem row_spec {v0 v1 : Value} {r : List Str} {l : List Col} {w : World} (h0 : Rd w eS v0 r) (h1 : Rd w eC v1 l) (hs : ∀ s ∈ r, s.length ≤ 1000000) (hrl : r.length ≤ 1000000000) (hv : ErrV w) :
    Ret Tryz.prog 17 #[v0, v1] w fun res w' => ∃ lv, res = .tuple #[lv, I (rowM r l).2.1, I (rowM r l).2.2] ∧ Sep w w' [accC lv 78 eVal (rowM r l).1] := by
  refine in17 ?_
  have hS := Sep.start w
  have hbd := h0.bd
  have hbd1 := h1.bd
  have nilR : ∀ {wx : World} {L : List Chk}, Sep w wx L → Sep w wx [accC (.slice none 0 0) 78 eVal []] := fun h => (Sep.sub h Sub.n).nil _ _
  unfold rowM
  by_cases hl : (r.length : Int) = l.length
  rotate_left
  · rw [if_neg hl]
    (have fct := @hl; repeat' (first | ((with_reducible apply G.a); exact rfl) | refine G.reg fun K hK => ?_ | (with_reducible (refine hK _ _ ?_); clear hK K) | (have hk := hK; clear hk; simp (disch := first | exact dis | fail) only [push_cast, ↓reduceIte, Nat.reduceAdd, Nat.reduceLeDiff, Nat.reduceEqDiff, Nat.reduceLT, Int.reduceToNat, fct]) | ((first | refine zalc ?_ | refine zbsl ?_); intro gb wb hS) | ((with_reducible refine gSt ?_); refine zs2 ?_; intro wb hS) | (refine G.cn ?_ ?_ <;> intro hc <;> first | (with_reducible exact False.elim hc) | (exfalso; omega) | skip))) <;> (try clear fct)
    all_goals
      (first | refine G.r1 ?_ | refine G.r2 ?_ | refine G.r3 ?_ | refine G.r0 ?_ | refine G.d0 ?_); (try simp (disch := first | exact dis | fail) only [push_cast, ↓reduceIte, Nat.reduceAdd, Nat.reduceLeDiff, Nat.reduceEqDiff, Nat.reduceLT, Int.reduceToNat, fct])
      exact ⟨_, rfl, nilR hS⟩
  · rw [if_pos hl]
    have hS := hS.nil 78 eVal
    (have fct := @hl; repeat' (first | ((with_reducible apply G.a); exact rfl) | refine G.reg fun K hK => ?_ | (with_reducible (refine hK _ _ ?_); clear hK K) | (have hk := hK; clear hk; simp (disch := first | exact dis | fail) only [push_cast, ↓reduceIte, Nat.reduceAdd, Nat.reduceLeDiff, Nat.reduceEqDiff, Nat.reduceLT, Int.reduceToNat, fct]) | ((first | refine zalc ?_ | refine zbsl ?_); intro gb wb hS) | ((with_reducible refine gSt ?_); refine zs2 ?_; intro wb hS) | (refine G.cn ?_ ?_ <;> intro hc <;> first | (with_reducible exact False.elim hc) | (exfalso; omega) | skip))) <;> (try clear fct)
    refine G.loop (fun u w' => ∃ (k : Nat) (lv : Value) (out : List Val), k ≤ r.length ∧ out.length = k ∧ u 21 = I k ∧ u 20 = I r.length ∧ u 19 = v0 ∧ u 1 = v1 ∧ u 7 = lv ∧ rowF r l [] = rowF (r.drop k) (l.drop k) out ∧ Sep w w' [accC lv 78 eVal out]) (fun u _ => r.length - toN (u 21)) ?_ ?_
    · have fct := @hl; exact ⟨0, .slice none 0 0, [], Nat.zero_le _, rfl, by exact sf, by exact sf, by exact sf, by exact sf, by exact sf, rfl, hS⟩
    · clear hS
      rintro u wl ⟨k, lv, out, hk, ho, q21, q20, q19, q1, q7, e, hS⟩ ih
      have hm : toN (u 21) = k := by rw [q21]; simp [toN]
      by_cases hlt : (k : Int) < r.length
      · have hlb : (k : Int) < l.length := by omega
        rw [rowF_at r l k out hlt hlb, ho] at e
        have hsk := hs _ (getD_mem r k hlt)
        generalize hc : l.getD k default = c at *
        generalize hq : r.getD k default = q at *
        by_cases he : (deM q c.kind c.null).2 = 0
        · rw [if_neg (not_not_intro he)] at e
          (have fct := (And.intro @q21 (And.intro @q20 (And.intro @q19 (And.intro @q1 (And.intro @q7 (And.intro @hc (And.intro @hq @he))))))); repeat' (first | ((with_reducible apply G.a); exact rfl) | refine G.reg fun K hK => ?_ | (with_reducible (refine hK _ _ ?_); clear hK K) | (have hk := hK; clear hk; simp (disch := first | exact dis | fail) only [push_cast, ↓reduceIte, Nat.reduceAdd, Nat.reduceLeDiff, Nat.reduceEqDiff, Nat.reduceLT, Int.reduceToNat, fct]) | ((first | refine zalc ?_ | refine zbsl ?_); intro gb wb hS) | ((with_reducible refine gSt ?_); refine zs2 ?_; intro wb hS) | (refine zcp 38 (dec_spec q c.name c.kind c.null _ hsk (hv.ext hS.x)) ?_; intro wb hS) | (refine zap (y := (deM q c.kind c.null).1) ?_ (hy := by simp only [eVal_f]); intro vb wb hS) | (refine G.cn ?_ ?_ <;> intro hc <;> first | (with_reducible exact False.elim hc) | (exfalso; omega) | skip))) <;> (try clear fct)
          all_goals
            have fct := (And.intro @q21 (And.intro @q20 (And.intro @q19 (And.intro @q1 @q7)))); refine ih _ _ ⟨k + 1, vb, out ++ [(deM q c.kind c.null).1], by omega, by simp [ho], by exact sf, by exact sf, by exact sf, by exact sf, by exact sf, e, (Sep.sub hS (by repeat first | exact Sub.rfl' | (refine Sub.c (by repeat constructor) ?_) | refine Sub.skip ?_))⟩ ?_
            rw [hm]; simp only [push_cast, ↓reduceIte, Nat.reduceAdd, Nat.reduceLeDiff, Nat.reduceEqDiff, Nat.reduceLT, Int.reduceToNat, toN_i, q21, q20, q19, q1, q7]; omega
        · rw [if_pos he] at e
          (have fct := (And.intro @q21 (And.intro @q20 (And.intro @q19 (And.intro @q1 (And.intro @q7 (And.intro @hc (And.intro @hq @he))))))); repeat' (first | ((with_reducible apply G.a); exact rfl) | refine G.reg fun K hK => ?_ | (with_reducible (refine hK _ _ ?_); clear hK K) | (have hk := hK; clear hk; simp (disch := first | exact dis | fail) only [push_cast, ↓reduceIte, Nat.reduceAdd, Nat.reduceLeDiff, Nat.reduceEqDiff, Nat.reduceLT, Int.reduceToNat, fct]) | ((first | refine zalc ?_ | refine zbsl ?_); intro gb wb hS) | ((with_reducible refine gSt ?_); refine zs2 ?_; intro wb hS) | (refine zcp 38 (dec_spec q c.name c.kind c.null _ hsk (hv.ext hS.x)) ?_; intro wb hS) | (refine G.cn ?_ ?_ <;> intro hc <;> first | (with_reducible exact False.elim hc) | (exfalso; omega) | skip))) <;> (try clear fct)
          all_goals
            rw [e]
            (have fct := (And.intro @q21 (And.intro @q20 (And.intro @q19 (And.intro @q1 @q7)))); (first | refine G.r1 ?_ | refine G.r2 ?_ | refine G.r3 ?_ | refine G.r0 ?_ | refine G.d0 ?_); (try simp (disch := first | exact dis | fail) only [push_cast, ↓reduceIte, Nat.reduceAdd, Nat.reduceLeDiff, Nat.reduceEqDiff, Nat.reduceLT, Int.reduceToNat, fct]); (try clear fct))
            exact ⟨_, rfl, nilR hS⟩
      · rw [rowF_end r l k out hlt] at e
        rw [e]
        (have fct := (And.intro @q21 (And.intro @q20 (And.intro @q19 (And.intro @q1 @q7)))); repeat' (first | ((with_reducible apply G.a); exact rfl) | refine G.reg fun K hK => ?_ | (with_reducible (refine hK _ _ ?_); clear hK K) | (have hk := hK; clear hk; simp (disch := first | exact dis | fail) only [push_cast, ↓reduceIte, Nat.reduceAdd, Nat.reduceLeDiff, Nat.reduceEqDiff, Nat.reduceLT, Int.reduceToNat, fct]) | ((first | refine zalc ?_ | refine zbsl ?_); intro gb wb hS) | ((with_reducible refine gSt ?_); refine zs2 ?_; intro wb hS) | (refine G.cn ?_ ?_ <;> intro hc <;> first | (with_reducible exact False.elim hc) | (exfalso; omega) | skip))) <;> (try clear fct)
        all_goals
          (have fct := (And.intro @q21 (And.intro @q20 (And.intro @q19 (And.intro @q1 @q7)))); (first | refine G.r1 ?_ | refine G.r2 ?_ | refine G.r3 ?_ | refine G.r0 ?_ | refine G.d0 ?_); (try simp (disch := first | exact dis | fail) only [push_cast, ↓reduceIte, Nat.reduceAdd, Nat.reduceLeDiff, Nat.reduceEqDiff, Nat.reduceLT, Int.reduceToNat, fct]); (try clear fct))
          exact ⟨_, rfl, hS⟩
end Go.Proofs.YtdikpaochhacmaaGreatDoor
namespace Go.Proofs.YtdikpaochhacmaaGreatDoor
set_option linter.unusedSimpArgs false
set_option linter.unusedVariables false
attribute [local irreducible] SemK UnitK StK AlcK BslK CallK CallV Instr.box Builtin.append_ Instr.makeSlice Instr.makeMap Instr.lookup Instr.mapUpdate Instr.sliceAt convert
open Go.RowKit
def recF : List Val → List Col → List Str → List Str × Int × Int
  | v :: r, c :: l, out => if (encM v c.kind c.null).2 ≠ 0 then ([], (out.length : Int), (encM v c.kind c.null).2) else recF r l (out ++ [(encM v c.kind c.null).1])
  | _, _, out => (out, (out.length : Int), 0)
def recM (r : List Val) (l : List Col) : List Str × Int × Int := if (r.length : Int) = l.length then recF r l [] else ([], (r.length : Int), 10)
theorem recF_at (r : List Val) (l : List Col) (k : Nat) (out : List Str) (h1 : (k : Int) < r.length) (h2 : (k : Int) < l.length) : recF (r.drop k) (l.drop k) out =
    if (encM (r.getD k default) (l.getD k default).kind (l.getD k default).null).2 ≠ 0 then ([], (out.length : Int), (encM (r.getD k default) (l.getD k default).kind (l.getD k default).null).2) else recF (r.drop (k + 1)) (l.drop (k + 1)) (out ++ [(encM (r.getD k default) (l.getD k default).kind (l.getD k default).null).1]) := by
  rw [dropD _ _ h1, dropD _ _ h2, recF]
theorem recF_end (r : List Val) (l : List Col) (k : Nat) (out : List Str) (h1 : ¬ (k : Int) < r.length) : recF (r.drop k) (l.drop k) out = (out, (out.length : Int), 0) := by
  rw [List.drop_eq_nil_of_le (show r.length ≤ k by omega)]
  cases l.drop k <;> rfl
theorem toR_at (l : List Col) (k : Nat) (h : (k : Int) < l.length) : (l.map toR).getD k default = ⟨(l.getD k default).name, (l.getD k default).kind, if (l.getD k default).null = true then 1 else 0⟩ := by
  have h2 : k < l.length := by omega
  simp only [List.getD_eq_getElem?_getD, List.getElem?_map, List.getElem?_eq_getElem h2, Option.map_some, Option.getD_some]
  rfl
end Go.Proofs.YtdikpaochhacmaaGreatDoor
