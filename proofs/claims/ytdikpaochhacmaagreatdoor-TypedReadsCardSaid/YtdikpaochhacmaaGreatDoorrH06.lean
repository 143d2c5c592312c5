/- Texts of the proof, joined. -/
import Derived.Test.YtdikpaochhacmaaGreatDoorrG06
namespace Go.Proofs.YtdikpaochhacmaaGreatDoor
set_option linter.unusedSimpArgs false
set_option linter.unusedVariables false
attribute [local irreducible] SemK UnitK StK AlcK BslK CallK CallV Instr.box Builtin.append_ Instr.makeSlice Instr.makeMap Instr.lookup Instr.mapUpdate Instr.sliceAt convert
open Go.RowKit
theorem Sep.frzPick {α : Type} {E : Enc α} {w0 w : World} {L R : List Chk} {vs us : List Value} {xss yss : List (List α)} (hS : Sep w0 w L) (h2 : Ex (frzC E vs xss) L R) (hl : us.length = yss.length)
    (h : ∀ j, j < yss.length → ∃ i, i < xss.length ∧ us.getD j default = vs.getD i default ∧ yss.getD j [] = xss.getD i []) : Sep w0 w (frzC E us yss :: R) := by
  obtain ⟨F, f1, f2, f3⟩ := SepL.take h2 hS.2
  refine ⟨hS.1, F, ⟨hl, fun j hj => ?_⟩, fun b hb => ⟨(f2 b hb).1, (f2 b hb).2.1, id⟩, f3⟩
  obtain ⟨i, hi, e1, e2⟩ := h j hj
  rw [e1, e2]
  exact f1.2 i hi
theorem Sub.nil0 : ∀ {L : List Chk}, Sub [] L
  | [] => .n
  | _ :: _ => Sub.skip Sub.nil0
theorem rd_one {w : World} {v : Value} {vs : List Value} {i : Nat} (h : Rd w eV v vs) (hi : i < vs.length) : One (vs.getD i default) := by
  obtain ⟨_, _, _, _, _, h1, _⟩ := h
  refine h1 _ (List.mem_flatMap.2 ⟨vs.getD i default, ?_, by simp [eV]⟩)
  rw [List.getD_eq_getElem?_getD, List.getElem?_eq_getElem hi]
  exact List.getElem_mem hi
def parM (d : Dl) (l : Lm) (s : Str) : Rs := wrun d l 0 0 {} (s.length - (stripM s).length) (stripM s)
theorem strip_drop (s : Str) : stripM s = s.drop (s.length - (stripM s).length) ∧ (stripM s).length ≤ s.length := by
  unfold stripM
  split
  · rename_i h
    have := congrArg List.length h
    simp at this
    constructor
    · congr 1; simp; omega
    · simp
  · simp
theorem strip_run (s : Str) : (runM 0 s).1 = (runM 0 (stripM s)).1 ∧ (runM 0 s).2 = (runM 0 (stripM s)).2 + (s.length - (stripM s).length) := by
  by_cases h : s.take 3 = [239, 187, 191]
  · have hs : s = [239, 187, 191] ++ s.drop 3 := by rw [← h, List.take_append_drop]
    have hm : stripM s = s.drop 3 := by unfold stripM; rw [if_pos h]
    have hl := congrArg List.length h
    simp at hl
    rw [hm]
    have e := run_app (s.drop 3) [239, 187, 191] 0
    rw [← hs, if_neg (by decide)] at e
    rw [e]
    refine ⟨by rw [show (runM 0 [239, 187, 191]).1 = 0 from by decide], ?_⟩
    rw [show (runM 0 [239, 187, 191]).1 = 0 from by decide]
    simp; omega
  · have hm : stripM s = s := by unfold stripM; rw [if_neg h]
    rw [hm]; simp
theorem par_fin (d : Dl) (l : Lm) (s : Str) : (refKA s (rn d l (stripM s) 0 {} 0) (s.length - (stripM s).length)).1 = (parM d l s).k ∧ (if (refKA s (rn d l (stripM s) 0 {} 0) (s.length - (stripM s).length)).1 = 0 then 0 else (refKA s (rn d l (stripM s) 0 {} 0) (s.length - (stripM s).length)).2) = (parM d l s).a ∧
    ((rn d l (stripM s) 0 {} 0).rs.filter fun x => decide ((refKA s (rn d l (stripM s) 0 {} 0) (s.length - (stripM s).length)).1 = 0 ∨ ((x.2 : Int) + (s.length - (stripM s).length : Nat) < (refKA s (rn d l (stripM s) 0 {} 0) (s.length - (stripM s).length)).2))).map (·.1) = (parM d l s).rs.map (·.1) :=
  ref_fin d l s (stripM s) _ (by have := (strip_drop s).2; omega) (strip_run s) _ _ rfl rfl
def c35l1 : MC := (.seq (.reg [qq 72 (.bin .lss (.tmp 71) (.tmp 70))]) (.seq (.cond (.tmp 72) .skip (.exit 0)) (.seq (.blk 1 (.seq (.reg [qm 73 71, qq 74 (.adr 1 (.tmp 69) (.tmp 71)), qq 75 (.ld none (.tmp 74)), qm 17 73, qm 18 75]) (.seq (.reg [qm 76 13, qq 77 (.bin .eql (.tmp 76) (ki 0)), qm 78 77, qf 78 79 (.fad 1 (.tmp 12)), qf 78 80 (.ld none (.tmp 79)), qmf 78 81 17, qf 78 82 (.adr 1 (.tmp 80) (.tmp 81)), qf 78 83 (.ld none (.tmp 82)), qmf 78 84 11, qf 78 85 (.bin .add (.tmp 83) (.tmp 84)), qmf 78 86 14, qf 78 87 (.bin .lss (.tmp 85) (.tmp 86)), qq 88 (.pick (.tmp 78) (kb true) (.tmp 87))]) (.cond (.tmp 88) (.reg [qm 89 16, qm 90 18, qq 91 (.bsl 49 [(.slice none 0 0)] 1 [⟨0, ⟨1, (.tmp 90)⟩⟩]), qq 92 (.raw (.call ⟨(.builtin .append), #[(.tmp 89), (.tmp 91)], #[82, 82]⟩) 82), qm 16 92]) .skip)))) (.reg [qq 93 (.bin .add (.tmp 71) (ki 1)), qm 71 93]))))
def c35 : MC := (.seq (.reg [qq 3 (.raw (.box 41 (.tmp 0)) 0), qq 4 (.raw (.box 98 (.tmp 1)) 0), qq 6 (.mv (.const (.slice none 0 0))), qq 7 (.mv (ki 0)), qq 8 (.mv (ki 0))]) (.seq (.reg [qm 20 2, qq 21 (.call 61 [(.tmp 20)]), qm 19 21, qq 22 (.ext 0 (.tmp 19)), qq 23 (.ext 1 (.tmp 19)), qm 9 22, qm 10 23]) (.seq (.reg [qm 24 2, qq 25 (.lenS (.tmp 24)), qm 26 9, qq 27 (.lenS (.tmp 26)), qq 28 (.bin .sub (.tmp 25) (.tmp 27)), qm 11 28]) (.seq (.reg [qq 29 (.ld (.some 3) (.tmp 3)), qq 30 (.ld (.some 4) (.tmp 4)), qm 31 9, qq 32 (.call 62 [(.tmp 29), (.tmp 30), (.tmp 31)]), qq 12 (.alc 144 [(.slice none 0 0), (.slice none 0 0), (.int .i64 0), (.int .i64 0)]), qn (.st 4 (.tmp 12) (.tmp 32))]) (.seq (.drg [qq 33 (.fad 2 (.tmp 12)), qq 34 (.ld none (.tmp 33)), qq 35 (.fad 3 (.tmp 12)), qq 36 (.ld none (.tmp 35)), qm 37 11, qq 38 (.bin .add (.tmp 36) (.tmp 37)), qm 13 34, qm 14 38] none) (.seq (.seq (.reg [qm 39 13, qq 40 (.bin .eql (.tmp 39) (ki 0))]) (.cond (.tmp 40) (.reg [qm 41 2, qq 42 (.lenS (.tmp 41)), qm 14 42]) .skip)) (.seq (.seq (.reg [qm 43 2, qq 44 (.call 63 [(.tmp 43)]), qm 15 44]) (.seq (.reg [qm 45 15, qq 46 (.bin .geq (.tmp 45) (ki 0))]) (.cond (.tmp 46) (.seq (.reg [qm 47 13, qq 48 (.bin .eql (.tmp 47) (ki 0)), qm 49 48, qmf 49 50 15, qmf 49 51 14, qf 49 52 (.bin .leq (.tmp 50) (.tmp 51)), qq 53 (.pick (.tmp 49) (kb true) (.tmp 52))]) (.cond (.tmp 53) (.reg [qm 54 15, qq 13 (.mv (ki 1)), qm 14 54]) .skip)) (.seq (.reg [qm 55 2, qq 56 (.call 59 [(.tmp 55)]), qm 57 2, qq 58 (.lenS (.tmp 57)), qq 59 (.bin .lss (.tmp 56) (.tmp 58)), qm 60 59, qmt 60 61 14, qmt 60 62 2, qt 60 63 (.lenS (.tmp 62)), qt 60 64 (.bin .eql (.tmp 61) (.tmp 63)), qq 65 (.pick (.tmp 60) (.tmp 64) (kb false))]) (.cond (.tmp 65) (.reg [qq 13 (.mv (ki 12))]) .skip))))) (.seq (.seq (.reg [qm 66 13, qq 67 (.bin .eql (.tmp 66) (ki 1))]) (.cond (.tmp 67) (.reg [qq 13 (.mv (ki 3))]) .skip)) (.seq (.reg [qq 16 (.mv (.const (.slice none 0 0)))]) (.seq (.seq (.reg [qq 68 (.fad 0 (.tmp 12)), qq 69 (.ld none (.tmp 68)), qq 70 (.len (.tmp 69)), qq 71 (.mv (ki 0))]) (.blk 0 (.loop c35l1))) (.seq (.seq (.reg [qm 94 13, qq 95 (.bin .eql (.tmp 94) (ki 0))]) (.cond (.tmp 95) (.reg [qq 14 (.mv (ki 0))]) .skip)) (.seq (.reg [qm 96 16, qm 97 13, qm 98 14, qm 6 96, qm 7 97, qm 8 98]) .ret))))))))))))
theorem k35 : conv Tryz.prog 99 (Tryz.f35.body.getD .skip) = c35 := by kernel_rfl
theorem in35 {a0 a1 a2 : Value} {w : World} {R : Value → World → Prop} (h : G Tryz.prog Tryz.f35 99 [.c c35] R (frL 0 [a0, a1, a2]) w) : Ret Tryz.prog 35 #[a0, a1, a2] w R := G.enter (args := [a0, a1, a2]) Tryz.func35 (c := Tryz.f35.body.getD .skip) (by kernel_rfl) (by kernel_rfl) (by simp) k35 h
def parT : MC := match c35 with
  | .seq _ (.seq _ (.seq _ (.seq _ (.seq _ (.seq _ (.seq _ (.seq _ (.seq _ (.seq _ t))))))))) => t
  | _ => .skip
section
variable {d : Dl} {l : Lm} {s : Str} {w w0 : World}
def pick06 (K A : Int) (off : Nat) (x : List Str × Nat) : Bool := decide (K = 0 ∨ (x.2 : Int) + off < A)
theorem take_snoc {α : Type} (l : List α) (d : α) (i : Nat) (h : i < l.length) : l.take (i + 1) = l.take i ++ [l.getD i d] := by
  rw [List.take_succ_eq_append_getElem h, List.getD_eq_getElem?_getD, List.getElem?_eq_getElem h]; rfl
theorem getD_map_fst (l : List (List Str × Nat)) (i : Nat) : (l.map Prod.fst).getD i [] = (l.getD i ([], 0)).1 := by
  simp only [List.getD_eq_getElem?_getD, List.getElem?_map]
  cases l[i]? <;> rfl
theorem getD_map_snd (l : List (List Str × Nat)) (i : Nat) : (l.map fun x => (x.2 : Int)).getD i default = ((l.getD i ([], 0)).2 : Int) := by
  simp only [List.getD_eq_getElem?_getD, List.getElem?_map]
  cases l[i]? <;> rfl
set_option maxHeartbeats 1000000 in
theorem rparse_tail {n : Nat} {ρ : Fr} {K A : Int} {g R : Rs} {off gg : Nat} {Rv Ev : Value} {vs : List Value} {L : List Chk} (q11 : ρ 11 = I off) (q12 : ρ 12 = .pointer (some ⟨gg, 0, none⟩)) (q13 : ρ 13 = I K) (q14 : ρ 14 = I A) (q16 : ρ 16 = .slice none 0 0) (q69 : ρ 69 = Rv) (q70 : ρ 70 = I (vs.length : Nat)) (q71 : ρ 71 = I 0)
    (h1 : K = R.k) (h2 : (if K = 0 then 0 else A) = R.a) (h3 : (g.rs.filter (pick06 K A off)).map Prod.fst = R.rs.map Prod.fst) (hend : ∀ x ∈ g.rs, x.2 ≤ 1000000) (hlen : g.rs.length ≤ 1000000) (hoff : off ≤ 1000000)
    (hS : Sep w0 w (boxC gg 144 [Rv, Ev, I g.k, I g.a] :: accC Rv 49 eV vs :: frzC eS vs (List.map Prod.fst g.rs) :: accC Ev 3 eI (List.map (fun x => (x.2 : Int)) g.rs) :: L)) :
    G Tryz.prog Tryz.f35 n [.c (.loop c35l1), .b 0, .c parT] (fun res w' => ∃ v vs, res = .tuple #[v, I R.k, I R.a] ∧ Sep w0 w' [accC v 49 eV vs, frzC eS vs (List.map Prod.fst R.rs)]) ρ w := by
  have hvl := hS.frzLen (.t (.t .h))
  rw [List.length_map] at hvl
  refine G.loop (fun r w' => ∃ (i : Nat) (ov : Value) (ovs : List Value), i ≤ vs.length ∧ r 11 = I off ∧ r 12 = .pointer (some ⟨gg, 0, none⟩) ∧ r 13 = I K ∧ r 14 = I A ∧ r 16 = ov ∧ r 69 = Rv ∧ r 70 = I (vs.length : Nat) ∧ r 71 = I i ∧
    ovs.length = ((g.rs.take i).filter (pick06 K A off)).length ∧ (∀ j, j < ovs.length → ∃ i', i' < vs.length ∧ ovs.getD j default = vs.getD i' default ∧ (((g.rs.take i).filter (pick06 K A off)).map Prod.fst).getD j [] = (g.rs.map Prod.fst).getD i' []) ∧
    Sep w0 w' (boxC gg 144 [Rv, Ev, I g.k, I g.a] :: accC Rv 49 eV vs :: frzC eS vs (List.map Prod.fst g.rs) :: accC Ev 3 eI (List.map (fun x => (x.2 : Int)) g.rs) :: accC ov 49 eV ovs :: L)) (fun r _ => vs.length - toN (r 71)) ?_ ?_
  · have hS := hS.nil 49 eV
    exact ⟨0, _, [], by omega, q11, q12, q13, q14, q16, q69, q70, q71, by simp, fun j h => by simp at h, Sep.sub hS (by repeat first | exact Sub.rfl' | exact Sub.nil0 | (refine Sub.c (by repeat constructor) ?_) | refine Sub.skip ?_)⟩
  · clear hS q11 q12 q13 q14 q16 q69 q70 q71
    rintro u wl ⟨i, ov, ovs, hi, q11, q12, q13, q14, q16, q69, q70, q71, hol, hoj, hS⟩ ih
    have hm : toN (u 71) = i := by rw [q71]; simp [toN]
    by_cases hlt : (i : Int) < vs.length
    · have hgi : i < g.rs.length := by omega
      have hsn := getD_map_snd g.rs i
      have hel : (g.rs.getD i ([], 0)).2 ≤ 1000000 := by
        rw [List.getD_eq_getElem?_getD, List.getElem?_eq_getElem hgi]
        exact hend _ (List.getElem_mem hgi)
      have hone := rd_one (i := i) (hS.rd (.t .h)) (by omega)
      have hovl : ovs.length ≤ i := by rw [hol]; exact Nat.le_trans (List.length_filter_le _ _) (by simp; omega)
      have hts := take_snoc g.rs ([], 0) i hgi
      cases hp : pick06 K A off (g.rs.getD i ([], 0))
      · have hp' := of_decide_eq_false hp
        have e0 : ([g.rs.getD i ([], 0)].filter (pick06 K A off)) = [] := by rw [List.filter_cons_of_neg (by rw [hp]; simp)]; rfl
        (have fct := (And.intro @q11 (And.intro @q12 (And.intro @q13 (And.intro @q14 (And.intro @q16 (And.intro @q69 (And.intro @q70 (And.intro @q71 @hsn)))))))); repeat' (first | ((with_reducible apply G.a); exact rfl) | refine G.reg fun K hK => ?_ | (with_reducible (refine hK _ _ ?_); clear hK K) | (with_reducible (refine hK _ ?_); clear hK K; intro wd hxd; have hS := Sep.xx hxd) | (have hk := hK; clear hk; simp (disch := first | exact dis | fail) only [push_cast, ↓reduceIte, Nat.reduceAdd, Nat.reduceLeDiff, Nat.reduceEqDiff, Nat.reduceLT, Int.reduceToNat, fct]) | ((first | refine brO_n ?_ ?_ | refine brQ_n ?_ ?_) <;> intro hb hc <;> first | (with_reducible exact False.elim hc) | (exfalso; omega) | (simp only [hb]; clear hb)) | ((first | refine zalc ?_ | refine zbsl ?_ | ((with_reducible refine gBox ?_); refine zbox ?_)); intro gb wb hS) | ((with_reducible refine gSt ?_); refine zs2 ?_; intro wb hS) | (refine zap ?_; intro vb wb hS) | refine G.drg mixed fun K hK => ?_ | (refine G.cn ?_ ?_ <;> intro hc <;> first | (with_reducible exact False.elim hc) | (exfalso; omega) | skip))) <;> (try clear fct)
        all_goals
          have fct := (And.intro @q11 (And.intro @q12 (And.intro @q13 (And.intro @q14 (And.intro @q16 (And.intro @q69 (And.intro @q70 @q71))))))); refine ih _ _ ⟨i + 1, ov, ovs, by omega, by exact sf, by exact sf, by exact sf, by exact sf, by exact sf, by exact sf, by exact sf, by exact sf, ?_, ?_, hS⟩ ?_
          · rw [hts, List.filter_append, e0, List.append_nil, hol]
          · rw [hts, List.filter_append, e0, List.append_nil]; exact hoj
          · rw [hm]; simp only [push_cast, ↓reduceIte, Nat.reduceAdd, Nat.reduceLeDiff, Nat.reduceEqDiff, Nat.reduceLT, Int.reduceToNat, toN_i, q11, q12, q13, q14, q16, q69, q70, q71]; omega
      · have hp' := of_decide_eq_true hp
        have e0 : ([g.rs.getD i ([], 0)].filter (pick06 K A off)) = [g.rs.getD i ([], 0)] := by rw [List.filter_cons_of_pos hp]; rfl
        (have fct := (And.intro @q11 (And.intro @q12 (And.intro @q13 (And.intro @q14 (And.intro @q16 (And.intro @q69 (And.intro @q70 (And.intro @q71 @hsn)))))))); repeat' (first | ((with_reducible apply G.a); exact rfl) | refine G.reg fun K hK => ?_ | (with_reducible (refine hK _ _ ?_); clear hK K) | (with_reducible (refine hK _ ?_); clear hK K; intro wd hxd; have hS := Sep.xx hxd) | (have hk := hK; clear hk; simp (disch := first | exact dis | fail) only [push_cast, ↓reduceIte, Nat.reduceAdd, Nat.reduceLeDiff, Nat.reduceEqDiff, Nat.reduceLT, Int.reduceToNat, fct]) | ((first | refine brO_n ?_ ?_ | refine brQ_n ?_ ?_) <;> intro hb hc <;> first | (with_reducible exact False.elim hc) | (exfalso; omega) | (simp only [hb]; clear hb)) | ((first | refine zalc ?_ | refine zbsl ?_ | ((with_reducible refine gBox ?_); refine zbox ?_)); intro gb wb hS) | ((with_reducible refine gSt ?_); refine zs2 ?_; intro wb hS) | (refine zap ?_; intro vb wb hS) | refine G.drg mixed fun K hK => ?_ | (refine G.cn ?_ ?_ <;> intro hc <;> first | (with_reducible exact False.elim hc) | (exfalso; omega) | skip))) <;> (try clear fct)
        all_goals
          have fct := (And.intro @q11 (And.intro @q12 (And.intro @q13 (And.intro @q14 (And.intro @q16 (And.intro @q69 (And.intro @q70 @q71))))))); refine ih _ _ ⟨i + 1, _, ovs ++ [vs.getD i default], by omega, by exact sf, by exact sf, by exact sf, by exact sf, by exact sf, by exact sf, by exact sf, by exact sf, ?_, ?_, hS⟩ ?_
          · rw [hts, List.filter_append, e0]; simp [hol]
          · rw [hts, List.filter_append]
            intro j hj
            rw [e0, List.map_append]
            by_cases hjl : j < ovs.length
            · obtain ⟨i', hi', e1, e2⟩ := hoj j hjl
              refine ⟨i', hi', by rw [getD_snoc_lt _ _ _ _ hjl]; exact e1, ?_⟩
              rw [List.map_cons, List.map_nil, getD_snoc_lt _ _ _ _ (by rw [List.length_map]; omega)]
              exact e2
            · have hj2 : j = ovs.length := by simp at hj; omega
              refine ⟨i, by omega, by rw [hj2, getD_snoc_eq], ?_⟩
              have hj3 : j = (((g.rs.take i).filter (pick06 K A off)).map Prod.fst).length := by rw [List.length_map]; omega
              rw [List.map_cons, List.map_nil, hj3, getD_snoc_eq, getD_map_fst]
          · rw [hm]; simp only [push_cast, ↓reduceIte, Nat.reduceAdd, Nat.reduceLeDiff, Nat.reduceEqDiff, Nat.reduceLT, Int.reduceToNat, toN_i, q11, q12, q13, q14, q16, q69, q70, q71]; omega
    · unfold parT c35
      dsimp only
      have hie : g.rs.take i = g.rs := List.take_of_length_le (by omega)
      rw [hie] at hol hoj
      subst h1
      by_cases hK : R.k = 0
      · rw [if_pos hK] at h2
        (have fct := (And.intro @q11 (And.intro @q12 (And.intro @q13 (And.intro @q14 (And.intro @q16 (And.intro @q69 (And.intro @q70 @q71))))))); repeat' (first | ((with_reducible apply G.a); exact rfl) | refine G.reg fun K hK => ?_ | (with_reducible (refine hK _ _ ?_); clear hK K) | (with_reducible (refine hK _ ?_); clear hK K; intro wd hxd; have hS := Sep.xx hxd) | (have hk := hK; clear hk; simp (disch := first | exact dis | fail) only [push_cast, ↓reduceIte, Nat.reduceAdd, Nat.reduceLeDiff, Nat.reduceEqDiff, Nat.reduceLT, Int.reduceToNat, fct]) | ((first | refine brO_n ?_ ?_ | refine brQ_n ?_ ?_) <;> intro hb hc <;> first | (with_reducible exact False.elim hc) | (exfalso; omega) | (simp only [hb]; clear hb)) | ((first | refine zalc ?_ | refine zbsl ?_ | ((with_reducible refine gBox ?_); refine zbox ?_)); intro gb wb hS) | ((with_reducible refine gSt ?_); refine zs2 ?_; intro wb hS) | refine G.drg mixed fun K hK => ?_ | (refine G.cn ?_ ?_ <;> intro hc <;> first | (with_reducible exact False.elim hc) | (exfalso; omega) | skip))) <;> (try clear fct)
        all_goals
          (have fct := (And.intro @q11 (And.intro @q12 (And.intro @q13 (And.intro @q14 (And.intro @q16 (And.intro @q69 (And.intro @q70 @q71))))))); (first | refine G.r1 ?_ | refine G.r2 ?_ | refine G.r3 ?_ | refine G.r0 ?_ | refine G.d0 ?_); (try simp (disch := first | exact dis | fail) only [push_cast, ↓reduceIte, Nat.reduceAdd, Nat.reduceLeDiff, Nat.reduceEqDiff, Nat.reduceLT, Int.reduceToNat, fct]); (try clear fct))
          have hS := hS.frzPick (.t (.t .h)) (us := ovs) (yss := List.map Prod.fst R.rs) (by rw [← h3, List.length_map]; exact hol) (by rw [← h3, List.length_map]; intro j hj; have := hoj j (by omega); rw [List.length_map]; obtain ⟨i', h, r⟩ := this; exact ⟨i', by omega, r⟩)
          exact ⟨_, _, by rw [← h2], Sep.sub hS (by repeat first | exact Sub.rfl' | exact Sub.nil0 | (refine Sub.c (by repeat constructor) ?_) | refine Sub.skip ?_)⟩
      · rw [if_neg hK] at h2
        (have fct := (And.intro @q11 (And.intro @q12 (And.intro @q13 (And.intro @q14 (And.intro @q16 (And.intro @q69 (And.intro @q70 @q71))))))); repeat' (first | ((with_reducible apply G.a); exact rfl) | refine G.reg fun K hK => ?_ | (with_reducible (refine hK _ _ ?_); clear hK K) | (with_reducible (refine hK _ ?_); clear hK K; intro wd hxd; have hS := Sep.xx hxd) | (have hk := hK; clear hk; simp (disch := first | exact dis | fail) only [push_cast, ↓reduceIte, Nat.reduceAdd, Nat.reduceLeDiff, Nat.reduceEqDiff, Nat.reduceLT, Int.reduceToNat, fct]) | ((first | refine brO_n ?_ ?_ | refine brQ_n ?_ ?_) <;> intro hb hc <;> first | (with_reducible exact False.elim hc) | (exfalso; omega) | (simp only [hb]; clear hb)) | ((first | refine zalc ?_ | refine zbsl ?_ | ((with_reducible refine gBox ?_); refine zbox ?_)); intro gb wb hS) | ((with_reducible refine gSt ?_); refine zs2 ?_; intro wb hS) | refine G.drg mixed fun K hK => ?_ | (refine G.cn ?_ ?_ <;> intro hc <;> first | (with_reducible exact False.elim hc) | (exfalso; omega) | skip))) <;> (try clear fct)
        all_goals
          (have fct := (And.intro @q11 (And.intro @q12 (And.intro @q13 (And.intro @q14 (And.intro @q16 (And.intro @q69 (And.intro @q70 @q71))))))); (first | refine G.r1 ?_ | refine G.r2 ?_ | refine G.r3 ?_ | refine G.r0 ?_ | refine G.d0 ?_); (try simp (disch := first | exact dis | fail) only [push_cast, ↓reduceIte, Nat.reduceAdd, Nat.reduceLeDiff, Nat.reduceEqDiff, Nat.reduceLT, Int.reduceToNat, fct]); (try clear fct))
          have hS := hS.frzPick (.t (.t .h)) (us := ovs) (yss := List.map Prod.fst R.rs) (by rw [← h3, List.length_map]; exact hol) (by rw [← h3, List.length_map]; intro j hj; have := hoj j (by omega); rw [List.length_map]; obtain ⟨i', h, r⟩ := this; exact ⟨i', by omega, r⟩)
          exact ⟨_, _, by rw [← h2], Sep.sub hS (by repeat first | exact Sub.rfl' | exact Sub.nil0 | (refine Sub.c (by repeat constructor) ?_) | refine Sub.skip ?_)⟩
end
end Go.Proofs.YtdikpaochhacmaaGreatDoor
