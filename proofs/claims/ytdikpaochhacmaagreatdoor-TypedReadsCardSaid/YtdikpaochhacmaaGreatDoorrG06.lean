/- Texts of the proof, joined. -/
import Derived.Test.YtdikpaochhacmaaGreatDoorrF06
namespace Go.Proofs.YtdikpaochhacmaaGreatDoor
set_option linter.unusedSimpArgs false
set_option linter.unusedVariables false
attribute [local irreducible] SemK UnitK StK AlcK BslK CallK CallV Instr.box Builtin.append_ Instr.makeSlice Instr.makeMap Instr.lookup Instr.mapUpdate Instr.sliceAt convert
open Go.RowKit
def kst (w : World) (g : Nat) : Nat := toN ((w.cell? ⟨g, 13, none⟩).getD undef)
section
variable {g : Nat} {d : Dl} {l : Lm} {s : Str} {p : Nat} {m : Mk} {acc : List (List Str × Nat)} {k a : Int} {M : List Chk} {w w0 : World}
theorem kst_of {rv Rv Ev : Value} {bg : Int} (hS : Sep w0 w (boxC g 192 [I d.dl, I d.q, I d.e, I l.F, I l.N, I l.R, I (if l.U = true then 1 else 0), S s, I p, I bg, rv, Rv, Ev, I k, I a] :: M)) : kst w g = k.toNat := by
  unfold kst
  rw [(hS.blk .h).cell]
  rfl
theorem rn_pos {st : Int} (h : (rn d l s st m p).k ≠ 0) : 0 < (rn d l s st m p).k := ((mrun_ends d l (s.drop p) st m p).2.1 h).1
def c62l1 : MC := (.seq (.seq (.reg [qm 14 7, qq 15 (.nck (.tmp 14)), qq 16 (.fad 8 (.tmp 15)), qq 17 (.ld none (.tmp 16)), qm 18 2, qq 19 (.lenS (.tmp 18)), qq 20 (.bin .lss (.tmp 17) (.tmp 19)), qm 21 20, qmt 21 22 7, qt 21 23 (.nck (.tmp 22)), qt 21 24 (.fad 11 (.tmp 23)), qt 21 25 (.fad 2 (.tmp 24)), qt 21 26 (.ld none (.tmp 25)), qt 21 27 (.bin .eql (.tmp 26) (ki 0)), qq 28 (.pick (.tmp 21) (.tmp 27) (kb false))]) (.cond (.tmp 28) .skip (.exit 0))) (.blk 1 (.seq (.seq (.reg [qm 29 7, qq 30 (.call 91 [(.tmp 29), (ki 10)]), qm 31 30, qmf 31 32 7, qf 31 33 (.call 91 [(.tmp 32), (ki 13)]), qq 34 (.pick (.tmp 31) (kb true) (.tmp 33))]) (.cond (.tmp 34) (.seq (.reg [qm 35 7, qq 36 (.call 92 [(.tmp 35)]), qm 8 36]) (.seq (.seq (.reg [qm 37 8, qq 38 (.bin .eql (.tmp 37) (ki 2))]) (.cond (.tmp 38) (.reg [qm 39 7, qq 40 (.call 93 [(.tmp 39)])]) .skip)) (.seq (.reg [qm 41 7, qm 42 7, qq 43 (.nck (.tmp 42)), qq 44 (.fad 8 (.tmp 43)), qq 45 (.ld none (.tmp 44)), qm 46 8, qq 47 (.bin .add (.tmp 45) (.tmp 46)), qq 48 (.nck (.tmp 41)), qq 49 (.fad 8 (.tmp 48)), qn (.st 1 (.tmp 49) (.tmp 47))]) (.exit 1)))) .skip)) (.reg [qm 50 7, qq 51 (.call 94 [(.tmp 50)])]))))
def c62 : MC := (.seq (.reg [qq 3 (.raw (.box 41 (.tmp 0)) 0), qq 4 (.raw (.box 98 (.tmp 1)) 0), qq 6 (.alc 144 [(.slice none 0 0), (.slice none 0 0), (.int .i64 0), (.int .i64 0)])]) (.seq (.reg [qq 9 (.ld (.some 3) (.tmp 3)), qq 10 (.ld (.some 4) (.tmp 4)), qm 11 2, qq 12 (.bld [(.int .i64 0), (.int .i64 0), (.int .i64 0), (.int .i64 0), (.int .i64 0), (.int .i64 0), (.int .i64 0), (S []), (.int .i64 0), (.int .i64 0), (.slice none 0 0), (.slice none 0 0), (.slice none 0 0), (.int .i64 0), (.int .i64 0)] [⟨0, ⟨3, (.tmp 9)⟩⟩, ⟨3, ⟨4, (.tmp 10)⟩⟩, ⟨7, ⟨1, (.tmp 11)⟩⟩]), qq 13 (.raw (.box 192 (.tmp 12)) 190), qm 7 13]) (.seq (.blk 0 (.loop c62l1)) (.seq (.reg [qm 52 7, qq 53 (.nck (.tmp 52)), qq 54 (.fad 11 (.tmp 53)), qq 55 (.ld (.some 4) (.tmp 54)), qn (.st 4 (.tmp 6) (.tmp 55))]) .ret))))
theorem k62 : conv Tryz.prog 56 (Tryz.f62.body.getD .skip) = c62 := by kernel_rfl
theorem in62 {a0 a1 a2 : Value} {w : World} {R : Value → World → Prop} (h : G Tryz.prog Tryz.f62 56 [.c c62] R (frL 0 [a0, a1, a2]) w) : Ret Tryz.prog 62 #[a0, a1, a2] w R := G.enter (args := [a0, a1, a2]) Tryz.func62 (c := Tryz.f62.body.getD .skip) (by kernel_rfl) (by kernel_rfl) (by simp) k62 h
set_option maxHeartbeats 1000000 in
theorem rread_spec (hr : Rt d) (hl : s.length ≤ 900000) (hF : 1 ≤ l.F) (hN : 1 ≤ l.N) (hR0 : 0 ≤ l.R) (hRR : l.R ≤ 2147483648) :
    Ret Tryz.prog 62 #[(.agg #[I d.dl, I d.q, I d.e]), (.agg #[I l.F, I l.N, I l.R, I (if l.U = true then 1 else 0)]), S s] w fun res w' => ∃ Rv Ev vs, res = .agg #[Rv, Ev, I (rn d l s 0 {} 0).k, I (rn d l s 0 {} 0).a] ∧
      Sep w w' [accC Rv 49 eV vs, frzC eS vs (List.map Prod.fst (rn d l s 0 {} 0).rs), accC Ev 3 eI (List.map (fun x => (x.2 : Int)) (rn d l s 0 {} 0).rs)] := by
  refine in62 ?_
  have hS := Sep.start w
  have hpos := rn_pos (d := d) (l := l) (s := s) (m := {}) (p := 0) (st := 0)
  generalize hR : rn d l s 0 {} 0 = R at hpos ⊢
  repeat' (first | ((with_reducible apply G.a); exact rfl) | refine G.reg fun K hK => ?_ | (with_reducible (refine hK _ _ ?_); clear hK K) | (have hk := hK; clear hk; simp (disch := first | exact dis | fail) only [push_cast, ↓reduceIte, Nat.reduceAdd, Nat.reduceLeDiff, Nat.reduceEqDiff, Nat.reduceLT, Int.reduceToNat, fct]) | (refine brO_n ?_ ?_ <;> intro hb hc <;> first | (with_reducible exact False.elim hc) | (exfalso; omega) | (simp only [hb]; clear hb)) | ((first | refine zalc ?_ | ((with_reducible refine gBox ?_); refine zbox ?_)); intro gb wb hS) | ((with_reducible refine gSt ?_); refine zs2 ?_; intro wb hS) | (refine G.cn ?_ ?_ <;> intro hc <;> first | (with_reducible exact False.elim hc) | (exfalso; omega) | skip))
  rename_i gr _ _
  have hS := (((hS.nil 9 eS).nil 49 eV).nil 3 eI).frz0 eS
  refine G.loop (fun r w' => ∃ (p : Nat) (m : Mk) (acc : List (List Str × Nat)) (k : Int) (a : Nat) (rv Rv Ev : Value) (vs : List Value), r 7 = .pointer (some ⟨gb, 0, none⟩) ∧ r 2 = S s ∧ r 6 = .pointer (some ⟨gr, 0, none⟩) ∧
    (k = 0 → a = 0 ∧ p ≤ s.length ∧ MOk l m acc p ∧ m.rc = [] ∧ R = (rn d l s 0 m p).pre acc) ∧ (k ≠ 0 → R = ⟨acc, k, a⟩) ∧
    Sep w w' (boxC gb 192 [I d.dl, I d.q, I d.e, I l.F, I l.N, I l.R, I (if l.U = true then 1 else 0), S s, I p, I m.bg, rv, Rv, Ev, I k, I a] :: accC rv 9 eS m.rc :: accC Rv 49 eV vs :: frzC eS vs (List.map Prod.fst acc) :: accC Ev 3 eI (List.map (fun x => (x.2 : Int)) acc) :: [boxC gr 144 [.slice none 0 0, .slice none 0 0, I 0, I 0]]))
    (fun _ w' => if kst w' gb = 0 then s.length + 1 - pos8 w' gb else 0) ?_ ?_
  · have hS : Sep w wb [boxC gb 192 [I d.dl, I d.q, I d.e, I l.F, I l.N, I l.R, I (if l.U = true then 1 else 0), S s, I 0, I 0, .slice none 0 0, .slice none 0 0, .slice none 0 0, I 0, I 0], accC (.slice none 0 0) 9 eS [], accC (.slice none 0 0) 49 eV [], frzC eS [] [], accC (.slice none 0 0) 3 eI [], boxC gr 144 [.slice none 0 0, .slice none 0 0, I 0, I 0]] := Sep.sub hS (by repeat first | exact Sub.rfl' | (refine Sub.c (by repeat constructor) ?_) | refine Sub.skip ?_)
    exact ⟨0, {}, [], 0, 0, .slice none 0 0, .slice none 0 0, .slice none 0 0, [], by exact sf, by exact sf, by exact sf, fun _ => ⟨rfl, by omega, ⟨rfl, rfl, fun h => by simp at h, hR0, by simp, by simp; omega, by simp⟩, rfl, hR.symm⟩, fun h => absurd rfl h, hS⟩
  · clear hS hR
    rintro u wl ⟨p, m, acc, k, a, rv, Rv, Ev, vs, q7, q2, q6, hk0, hk1, hS⟩ ih
    have h8 := pos8_of hS
    have hks := kst_of hS
    by_cases hk : k = 0
    · subst hk
      obtain ⟨rfl, hp, hm, hrc, hR⟩ := hk0 rfl
      clear hk0 hk1
      by_cases hlt : (p : Int) < s.length
      · have hlt' : p < s.length := by omega
        cases h10 : atB s p 10
        · cases h13 : atB s p 13
          · (have fct := (And.intro @q7 (And.intro @q2 (And.intro @q6 (And.intro @h10 @h13)))); repeat' (first | ((with_reducible apply G.a); exact rfl) | refine G.reg fun K hK => ?_ | (with_reducible (refine hK _ _ ?_); clear hK K) | (have hk := hK; clear hk; simp (disch := first | exact dis | fail) only [push_cast, ↓reduceIte, Nat.reduceAdd, Nat.reduceLeDiff, Nat.reduceEqDiff, Nat.reduceLT, Int.reduceToNat, fct]) | (refine brO_n ?_ ?_ <;> intro hb hc <;> first | (with_reducible exact False.elim hc) | (exfalso; omega) | (simp only [hb]; clear hb)) | ((first | refine zalc ?_ | ((with_reducible refine gBox ?_); refine zbox ?_)); intro gb wb hS) | ((with_reducible refine gSt ?_); refine zs2 ?_; intro wb hS) | ((with_reducible (show CallK _ 91 _ _ _ _ _)); refine zcp 91 (ris_spec (Sep.blk hS .h) _) ?_; intro wb hS) | ((with_reducible (show CallK _ 94 _ _ _ _ _)); refine zco 94 (rline_spec (p := p) (m := m) (acc := acc) hr ⟨_, _, _, _, hS⟩ hm hrc (by omega) h10 h13 hl hF hN hRR) ?_; rintro vb wb ⟨p2, m2, new, k2, a2, ⟨rv2, Rv2, Ev2, vs2, hS⟩, hz, hnz⟩) | (refine G.cn ?_ ?_ <;> intro hc <;> first | (with_reducible exact False.elim hc) | (exfalso; omega) | skip))) <;> (try clear fct)
            all_goals
              refine ih _ _ ⟨p2, m2, acc ++ new, k2, a2, rv2, Rv2, Ev2, vs2, by simp only [push_cast, ↓reduceIte, Nat.reduceAdd, Nat.reduceLeDiff, Nat.reduceEqDiff, Nat.reduceLT, Int.reduceToNat, q7], by simp only [push_cast, ↓reduceIte, Nat.reduceAdd, Nat.reduceLeDiff, Nat.reduceEqDiff, Nat.reduceLT, Int.reduceToNat, q2], by simp only [push_cast, ↓reduceIte, Nat.reduceAdd, Nat.reduceLeDiff, Nat.reduceEqDiff, Nat.reduceLT, Int.reduceToNat, q6], fun h => ?_, fun h => ?_, hS⟩ ?_
              · obtain ⟨ha, hp1, hp2, hm2, hrc2, hR2⟩ := hz h
                exact ⟨ha, hp2, hm2, hrc2, by rw [hR, hR2, pre_pre]⟩
              · obtain ⟨hn, hR2⟩ := hnz h
                rw [hR, hR2, hn]; simp [Rs.pre]
              · rw [hks, h8, kst_of hS]
                by_cases h : k2 = 0
                · have := hz h
                  subst h
                  rw [pos8_of hS]; simp; omega
                · have hkp : 0 < k2 := by
                    have := hnz h
                    have h2 := rn_pos (d := d) (l := l) (s := s) (m := m) (p := p) (st := 0)
                    rw [this.2] at h2
                    exact h2 h
                  rw [if_neg (by omega)]; simp; omega
          · have h13' := (atB_t h13).2
            by_cases he : d.e = 1
            · rw [rn_er hlt' (k := 6) (by rw [s0_13 hr h13', if_pos he])] at hR
              have hR : R = ⟨acc, 6, p⟩ := by rw [hR]; simp [Rs.pre]
              (have fct := (And.intro @q7 (And.intro @q2 (And.intro @q6 (And.intro @h10 @h13)))); repeat' (first | ((with_reducible apply G.a); exact rfl) | refine G.reg fun K hK => ?_ | (with_reducible (refine hK _ _ ?_); clear hK K) | (have hk := hK; clear hk; simp (disch := first | exact dis | fail) only [push_cast, ↓reduceIte, Nat.reduceAdd, Nat.reduceLeDiff, Nat.reduceEqDiff, Nat.reduceLT, Int.reduceToNat, fct]) | (refine brO_n ?_ ?_ <;> intro hb hc <;> first | (with_reducible exact False.elim hc) | (exfalso; omega) | (simp only [hb]; clear hb)) | ((first | refine zalc ?_ | ((with_reducible refine gBox ?_); refine zbox ?_)); intro gb wb hS) | ((with_reducible refine gSt ?_); refine zs2 ?_; intro wb hS) | ((with_reducible (show CallK _ 91 _ _ _ _ _)); refine zcp 91 (ris_spec (Sep.blk hS .h) _) ?_; intro wb hS) | ((with_reducible (show CallK _ 92 _ _ _ _ _)); refine zco 92 (rfeed_no hS (by rw [h10]; simpa using he)) ?_; rintro vb wb ⟨rfl, hS⟩) | (refine G.cn ?_ ?_ <;> intro hc <;> first | (with_reducible exact False.elim hc) | (exfalso; omega) | skip))) <;> (try clear fct)
              all_goals
                (refine ih _ _ ⟨_, _, acc, 6, _, _, _, _, _, by simp only [push_cast, ↓reduceIte, Nat.reduceAdd, Nat.reduceLeDiff, Nat.reduceEqDiff, Nat.reduceLT, Int.reduceToNat, q7], by simp only [push_cast, ↓reduceIte, Nat.reduceAdd, Nat.reduceLeDiff, Nat.reduceEqDiff, Nat.reduceLT, Int.reduceToNat, q2], by simp only [push_cast, ↓reduceIte, Nat.reduceAdd, Nat.reduceLeDiff, Nat.reduceEqDiff, Nat.reduceLT, Int.reduceToNat, q6], fun h => absurd h (by decide), fun _ => hR, hS⟩ ?_; rw [hks, h8, kst_of (p := p) (k := 6) hS]; simp; omega)
            · rw [rn_go hlt' (by rw [s0_13 hr h13', if_neg he])] at hR
              cases h2 : atB s (p + 1) 10
              · have hR : R = ⟨acc, 6, p + 1⟩ := by
                  rw [hR]
                  by_cases hlt2 : p + 1 < s.length
                  · rw [rn_er hlt2 (s56_x (.inr rfl) (atB_f h2 (by omega)))]; simp [Rs.pre]
                  · rw [rn_nil (by omega), s56_e (.inr rfl)]; simp [Rs.pre]
                (have fct := (And.intro @q7 (And.intro @q2 (And.intro @q6 (And.intro @h10 @h13)))); repeat' (first | ((with_reducible apply G.a); exact rfl) | refine G.reg fun K hK => ?_ | (with_reducible (refine hK _ _ ?_); clear hK K) | (have hk := hK; clear hk; simp (disch := first | exact dis | fail) only [push_cast, ↓reduceIte, Nat.reduceAdd, Nat.reduceLeDiff, Nat.reduceEqDiff, Nat.reduceLT, Int.reduceToNat, fct]) | (refine brO_n ?_ ?_ <;> intro hb hc <;> first | (with_reducible exact False.elim hc) | (exfalso; omega) | (simp only [hb]; clear hb)) | ((first | refine zalc ?_ | ((with_reducible refine gBox ?_); refine zbox ?_)); intro gb wb hS) | ((with_reducible refine gSt ?_); refine zs2 ?_; intro wb hS) | ((with_reducible (show CallK _ 91 _ _ _ _ _)); refine zcp 91 (ris_spec (Sep.blk hS .h) _) ?_; intro wb hS) | ((with_reducible (show CallK _ 92 _ _ _ _ _)); refine zco 92 (rfeed_ok hS (by rw [h10]; simpa using he)) ?_; rintro vb wb ⟨rfl, hS⟩) | ((with_reducible (show CallK _ 93 _ _ _ _ _)); refine zco 93 (rsecond_no hS (by omega) h2) ?_; rintro vb wb ⟨rfl, hS⟩) | (refine G.cn ?_ ?_ <;> intro hc <;> first | (with_reducible exact False.elim hc) | (exfalso; omega) | skip))) <;> (try clear fct)
                all_goals
                  (refine ih _ _ ⟨_, _, acc, 6, _, _, _, _, _, by simp only [push_cast, ↓reduceIte, Nat.reduceAdd, Nat.reduceLeDiff, Nat.reduceEqDiff, Nat.reduceLT, Int.reduceToNat, q7], by simp only [push_cast, ↓reduceIte, Nat.reduceAdd, Nat.reduceLeDiff, Nat.reduceEqDiff, Nat.reduceLT, Int.reduceToNat, q2], by simp only [push_cast, ↓reduceIte, Nat.reduceAdd, Nat.reduceLeDiff, Nat.reduceEqDiff, Nat.reduceLT, Int.reduceToNat, q6], fun h => absurd h (by decide), fun _ => hR, hS⟩ ?_; rw [hks, h8, kst_of (p := p + 2) (k := 6) hS]; simp; omega)
              · have h2' := atB_t h2
                rw [rn_go (by omega) (s6_10 h2'.2)] at hR
                (have fct := (And.intro @q7 (And.intro @q2 (And.intro @q6 (And.intro @h10 @h13)))); repeat' (first | ((with_reducible apply G.a); exact rfl) | refine G.reg fun K hK => ?_ | (with_reducible (refine hK _ _ ?_); clear hK K) | (have hk := hK; clear hk; simp (disch := first | exact dis | fail) only [push_cast, ↓reduceIte, Nat.reduceAdd, Nat.reduceLeDiff, Nat.reduceEqDiff, Nat.reduceLT, Int.reduceToNat, fct]) | (refine brO_n ?_ ?_ <;> intro hb hc <;> first | (with_reducible exact False.elim hc) | (exfalso; omega) | (simp only [hb]; clear hb)) | ((first | refine zalc ?_ | ((with_reducible refine gBox ?_); refine zbox ?_)); intro gb wb hS) | ((with_reducible refine gSt ?_); refine zs2 ?_; intro wb hS) | ((with_reducible (show CallK _ 91 _ _ _ _ _)); refine zcp 91 (ris_spec (Sep.blk hS .h) _) ?_; intro wb hS) | ((with_reducible (show CallK _ 92 _ _ _ _ _)); refine zco 92 (rfeed_ok hS (by rw [h10]; simpa using he)) ?_; rintro vb wb ⟨rfl, hS⟩) | ((with_reducible (show CallK _ 93 _ _ _ _ _)); refine zco 93 (rsecond_ok hS (by omega) h2) ?_; rintro vb wb ⟨rfl, hS⟩) | (refine G.cn ?_ ?_ <;> intro hc <;> first | (with_reducible exact False.elim hc) | (exfalso; omega) | skip))) <;> (try clear fct)
                all_goals
                  refine ih _ _ ⟨p + 1 + 1, m, acc, 0, 0, rv, Rv, Ev, vs, by simp only [push_cast, ↓reduceIte, Nat.reduceAdd, Nat.reduceLeDiff, Nat.reduceEqDiff, Nat.reduceLT, Int.reduceToNat, q7], by simp only [push_cast, ↓reduceIte, Nat.reduceAdd, Nat.reduceLeDiff, Nat.reduceEqDiff, Nat.reduceLT, Int.reduceToNat, q2], by simp only [push_cast, ↓reduceIte, Nat.reduceAdd, Nat.reduceLeDiff, Nat.reduceEqDiff, Nat.reduceLT, Int.reduceToNat, q6], fun _ => ⟨rfl, by omega, mok_mono hm (by omega), hrc, hR⟩, fun h => absurd rfl h, hS⟩ ?_
                  rw [hks, h8, kst_of (p := p + 1 + 1) (k := 0) hS, pos8_of (p := p + 1 + 1) hS]; simp; omega
        · have h10' := (atB_t h10).2
          by_cases he : d.e = 2
          · rw [rn_er hlt' (k := 6) (by rw [s0_10 hr h10', if_pos he])] at hR
            have hR : R = ⟨acc, 6, p⟩ := by rw [hR]; simp [Rs.pre]
            (have fct := (And.intro @q7 (And.intro @q2 (And.intro @q6 @h10))); repeat' (first | ((with_reducible apply G.a); exact rfl) | refine G.reg fun K hK => ?_ | (with_reducible (refine hK _ _ ?_); clear hK K) | (have hk := hK; clear hk; simp (disch := first | exact dis | fail) only [push_cast, ↓reduceIte, Nat.reduceAdd, Nat.reduceLeDiff, Nat.reduceEqDiff, Nat.reduceLT, Int.reduceToNat, fct]) | (refine brO_n ?_ ?_ <;> intro hb hc <;> first | (with_reducible exact False.elim hc) | (exfalso; omega) | (simp only [hb]; clear hb)) | ((first | refine zalc ?_ | ((with_reducible refine gBox ?_); refine zbox ?_)); intro gb wb hS) | ((with_reducible refine gSt ?_); refine zs2 ?_; intro wb hS) | ((with_reducible (show CallK _ 91 _ _ _ _ _)); refine zcp 91 (ris_spec (Sep.blk hS .h) _) ?_; intro wb hS) | ((with_reducible (show CallK _ 92 _ _ _ _ _)); refine zco 92 (rfeed_no hS (by rw [h10]; simpa using he)) ?_; rintro vb wb ⟨rfl, hS⟩) | (refine G.cn ?_ ?_ <;> intro hc <;> first | (with_reducible exact False.elim hc) | (exfalso; omega) | skip))) <;> (try clear fct)
            all_goals
              (refine ih _ _ ⟨_, _, acc, 6, _, _, _, _, _, by simp only [push_cast, ↓reduceIte, Nat.reduceAdd, Nat.reduceLeDiff, Nat.reduceEqDiff, Nat.reduceLT, Int.reduceToNat, q7], by simp only [push_cast, ↓reduceIte, Nat.reduceAdd, Nat.reduceLeDiff, Nat.reduceEqDiff, Nat.reduceLT, Int.reduceToNat, q2], by simp only [push_cast, ↓reduceIte, Nat.reduceAdd, Nat.reduceLeDiff, Nat.reduceEqDiff, Nat.reduceLT, Int.reduceToNat, q6], fun h => absurd h (by decide), fun _ => hR, hS⟩ ?_; rw [hks, h8, kst_of (p := p) (k := 6) hS]; simp; omega)
          · rw [rn_go hlt' (by rw [s0_10 hr h10', if_neg he])] at hR
            (have fct := (And.intro @q7 (And.intro @q2 (And.intro @q6 @h10))); repeat' (first | ((with_reducible apply G.a); exact rfl) | refine G.reg fun K hK => ?_ | (with_reducible (refine hK _ _ ?_); clear hK K) | (have hk := hK; clear hk; simp (disch := first | exact dis | fail) only [push_cast, ↓reduceIte, Nat.reduceAdd, Nat.reduceLeDiff, Nat.reduceEqDiff, Nat.reduceLT, Int.reduceToNat, fct]) | (refine brO_n ?_ ?_ <;> intro hb hc <;> first | (with_reducible exact False.elim hc) | (exfalso; omega) | (simp only [hb]; clear hb)) | ((first | refine zalc ?_ | ((with_reducible refine gBox ?_); refine zbox ?_)); intro gb wb hS) | ((with_reducible refine gSt ?_); refine zs2 ?_; intro wb hS) | ((with_reducible (show CallK _ 91 _ _ _ _ _)); refine zcp 91 (ris_spec (Sep.blk hS .h) _) ?_; intro wb hS) | ((with_reducible (show CallK _ 92 _ _ _ _ _)); refine zco 92 (rfeed_ok hS (by rw [h10]; simpa using he)) ?_; rintro vb wb ⟨rfl, hS⟩) | (refine G.cn ?_ ?_ <;> intro hc <;> first | (with_reducible exact False.elim hc) | (exfalso; omega) | skip))) <;> (try clear fct)
            all_goals
              refine ih _ _ ⟨p + 1, m, acc, 0, 0, rv, Rv, Ev, vs, by simp only [push_cast, ↓reduceIte, Nat.reduceAdd, Nat.reduceLeDiff, Nat.reduceEqDiff, Nat.reduceLT, Int.reduceToNat, q7], by simp only [push_cast, ↓reduceIte, Nat.reduceAdd, Nat.reduceLeDiff, Nat.reduceEqDiff, Nat.reduceLT, Int.reduceToNat, q2], by simp only [push_cast, ↓reduceIte, Nat.reduceAdd, Nat.reduceLeDiff, Nat.reduceEqDiff, Nat.reduceLT, Int.reduceToNat, q6], fun _ => ⟨rfl, by omega, mok_mono hm (by omega), hrc, hR⟩, fun h => absurd rfl h, hS⟩ ?_
              rw [hks, h8, kst_of (p := p + 1) (k := 0) hS, pos8_of (p := p + 1) hS]; simp; omega
      · rw [rn_nil (by omega), s0_e] at hR
        have hR : R = ⟨acc, 0, 0⟩ := by rw [hR]; simp [Rs.pre, oneR]
        (have fct := (And.intro @q7 (And.intro @q2 @q6)); repeat' (first | ((with_reducible apply G.a); exact rfl) | refine G.reg fun K hK => ?_ | (with_reducible (refine hK _ _ ?_); clear hK K) | (have hk := hK; clear hk; simp (disch := first | exact dis | fail) only [push_cast, ↓reduceIte, Nat.reduceAdd, Nat.reduceLeDiff, Nat.reduceEqDiff, Nat.reduceLT, Int.reduceToNat, fct]) | (refine brO_n ?_ ?_ <;> intro hb hc <;> first | (with_reducible exact False.elim hc) | (exfalso; omega) | (simp only [hb]; clear hb)) | ((first | refine zalc ?_ | ((with_reducible refine gBox ?_); refine zbox ?_)); intro gb wb hS) | ((with_reducible refine gSt ?_); refine zs2 ?_; intro wb hS) | (refine G.cn ?_ ?_ <;> intro hc <;> first | (with_reducible exact False.elim hc) | (exfalso; omega) | skip))) <;> (try clear fct)
        all_goals
          (have fct := (And.intro @q7 (And.intro @q2 @q6)); (first | refine G.r1 ?_ | refine G.r2 ?_ | refine G.r3 ?_ | refine G.r0 ?_ | refine G.d0 ?_); (try simp (disch := first | exact dis | fail) only [push_cast, ↓reduceIte, Nat.reduceAdd, Nat.reduceLeDiff, Nat.reduceEqDiff, Nat.reduceLT, Int.reduceToNat, fct]); (try clear fct))
          subst hR
          exact ⟨_, _, _, rfl, Sep.sub hS (by repeat first | exact Sub.rfl' | (refine Sub.c (by repeat constructor) ?_) | refine Sub.skip ?_)⟩
    · have hR := hk1 hk
      (have fct := (And.intro @q7 (And.intro @q2 @q6)); repeat' (first | ((with_reducible apply G.a); exact rfl) | refine G.reg fun K hK => ?_ | (with_reducible (refine hK _ _ ?_); clear hK K) | (have hk := hK; clear hk; simp (disch := first | exact dis | fail) only [push_cast, ↓reduceIte, Nat.reduceAdd, Nat.reduceLeDiff, Nat.reduceEqDiff, Nat.reduceLT, Int.reduceToNat, fct]) | (refine brO_n ?_ ?_ <;> intro hb hc <;> first | (with_reducible exact False.elim hc) | (exfalso; omega) | (simp only [hb]; clear hb)) | ((first | refine zalc ?_ | ((with_reducible refine gBox ?_); refine zbox ?_)); intro gb wb hS) | ((with_reducible refine gSt ?_); refine zs2 ?_; intro wb hS) | (refine G.cn ?_ ?_ <;> intro hc <;> first | (with_reducible exact False.elim hc) | (exfalso; omega) | skip))) <;> (try clear fct)
      all_goals
        (have fct := (And.intro @q7 (And.intro @q2 @q6)); (first | refine G.r1 ?_ | refine G.r2 ?_ | refine G.r3 ?_ | refine G.r0 ?_ | refine G.d0 ?_); (try simp (disch := first | exact dis | fail) only [push_cast, ↓reduceIte, Nat.reduceAdd, Nat.reduceLeDiff, Nat.reduceEqDiff, Nat.reduceLT, Int.reduceToNat, fct]); (try clear fct))
        subst hR
        exact ⟨_, _, _, rfl, Sep.sub hS (by repeat first | exact Sub.rfl' | (refine Sub.c (by repeat constructor) ?_) | refine Sub.skip ?_)⟩
end
end Go.Proofs.YtdikpaochhacmaaGreatDoor
