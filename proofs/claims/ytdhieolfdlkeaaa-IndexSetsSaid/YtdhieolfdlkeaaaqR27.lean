/- Texts of the proof, joined. -/
import Derived.Test.YtdhieolfdlkeaaaqW27
import Derived.Test.YtdhieolfdlkeaaaqU27
namespace Go.Proofs.Ytdhieolfdlkeaaa
set_option linter.unusedSimpArgs false
set_option linter.unusedVariables false
open Go.RowKit
instance (st : Int) : Decidable (outR st) := by unfold outR; infer_instance
def nFr (st : Int) (n : Nat) : Nat := if outR st then n else n + 1
def nTo (st : Int) (n : Nat) : Nat := if st = 5 then n + 1 else n
structure Held27 (SP : List (Nat × Nat)) (st : Int) (n : Nat) (fs ts : List Nat) : Prop where
  fl : fs.length = nFr st n
  tl : ts.length = nTo st n
  fp : fs = (SP.map Prod.fst).take fs.length
  tp : ts = (SP.map Prod.snd).take ts.length
  ks : outR st ∨ inR st ∨ st = 5
  nn : inR st → n < SP.length
theorem take_push {l : List Nat} {x n : Nat} (h : l[n]? = some x) : l.take (n + 1) = l.take n ++ [x] := by
  have hn : n < l.length := by
    apply Decidable.byContradiction
    intro hn
    rw [List.getElem?_eq_none (by omega)] at h
    simp at h
  rw [List.take_succ_eq_append_getElem hn]
  rw [List.getElem?_eq_getElem hn] at h
  injection h with h; rw [h]
theorem sp_at {SP sp rem : List (Nat × Nat)} {x : Nat × Nat} {r : List (Nat × Nat)} (h : SP = sp ++ rem) (hx : rem = x :: r) : (SP.map Prod.fst)[sp.length]? = some x.1 ∧ (SP.map Prod.snd)[sp.length]? = some x.2 := by
  subst hx; subst h
  simp
theorem out_not {st : Int} (h : inR st ∨ st = 5) : ¬ outR st := by unfold inR outR at *; omega
theorem Held27.step {d : Dl} {s : Str} {R : Rs} {SP : List (Nat × Nat)} {p : Nat} {st : Int} {fr to : Nat} {sp : List (Nat × Nat)} {q : Int} {m : Mk} {acc : List (List Str × Nat)} {fs ts : List Nat}
    (hat : At d s R SP p st fr to sp q m acc) (h : Held27 SP st sp.length fs ts) (hp : p < s.length) (hn : ts.length < SP.length) :
    ∃ fr' to' sp' q' m' acc', At d s R SP (p + 1) (scM d st (s.getD p 0)).2.1 fr' to' sp' q' m' acc' ∧ sp'.length ≤ SP.length ∧
      Held27 SP (scM d st (s.getD p 0)).2.1 sp'.length (if (scM d st (s.getD p 0)).1.b = true then fs ++ [p] else fs) (if (scM d st (s.getD p 0)).1.l = true then ts ++ [p] else ts) := by
  obtain ⟨g1, g2, g3, g4, g5, g6⟩ := h
  have hspn : sp.length < SP.length := by
    have : sp.length ≤ ts.length := by rw [g2]; unfold nTo; split <;> omega
    omega
  obtain ⟨e0, q', m', acc', hat'⟩ := hat.step hp hspn
  obtain ⟨k1, k2, k3⟩ := sc_kinds d st (s.getD p 0) g5 e0
  generalize scM d st (s.getD p 0) = x at *
  have hle : ∀ {sp2 : List (Nat × Nat)} {q2 st2 : Int} {m2 : Mk} {fr2 to2 : Nat}, SP = sp2 ++ spW d wideL q2 st2 m2 fr2 to2 (p + 1) (s.drop (p + 1)) → sp2.length ≤ SP.length := by
    intro sp2 q2 st2 m2 fr2 to2 h; rw [h]; simp
  rcases g5 with g5 | g5 | g5
  · obtain ⟨hl, hr, h⟩ := k1 g5
    rw [hl, hr] at hat'
    simp only [Bool.false_eq_true, if_false] at hat'
    rcases h with ⟨hb, ho⟩ | ⟨hb, hi⟩
    · rw [hb] at hat'
      simp only [Bool.false_eq_true, if_false] at hat'
      refine ⟨_, _, _, _, _, _, hat', hle hat'.sps, ?_⟩
      rw [hb, hl]
      simp only [Bool.false_eq_true, if_false]
      refine ⟨by rw [g1]; unfold nFr; rw [if_pos g5, if_pos ho], ?_, g3, g4, .inl ho, fun h => absurd ho (out_not (.inl h))⟩
      rw [g2]; unfold nTo; rw [if_neg (by unfold outR at g5; omega), if_neg (by unfold outR at ho; omega)]
    · rw [hb] at hat'
      simp only [if_true] at hat'
      refine ⟨_, _, _, _, _, _, hat', hle hat'.sps, ?_⟩
      rw [hb, hl]
      simp only [Bool.false_eq_true, if_false, if_true]
      have hfl : fs.length = sp.length := by rw [g1]; unfold nFr; rw [if_pos g5]
      refine ⟨by rw [List.length_append, hfl]; unfold nFr; rw [if_neg (out_not (.inl hi))]; rfl, ?_, ?_, g4, .inr (.inl hi), fun _ => hspn⟩
      · rw [g2]; unfold nTo; rw [if_neg (by unfold outR at g5; omega), if_neg (by unfold inR at hi; omega)]
      · match hrem : spW d wideL q' x.2.1 m' p to (p + 1) (s.drop (p + 1)) with
        | [] =>
          have := congrArg List.length hat'.sps
          rw [hrem] at this; simp at this; omega
        | y :: r =>
          have hy := (spW_head d wideL _ _ _ _ _ _ _ y r (.inl hi) hrem).1
          have hs := (sp_at hat'.sps hrem).1
          rw [List.length_append, hfl, List.length_singleton, take_push (x := p) (by rw [hs, hy]), ← hfl, ← g3]
  · obtain ⟨hb, h⟩ := k2 g5
    rw [hb] at hat'
    simp only [Bool.false_eq_true, if_false] at hat'
    have hfl : fs.length = sp.length + 1 := by rw [g1]; unfold nFr; rw [if_neg (out_not (.inl g5))]
    have htl : ts.length = sp.length := by rw [g2]; unfold nTo; rw [if_neg (by unfold inR at g5; omega)]
    rcases h with ⟨hl, hr, hi⟩ | ⟨hl, hr, hi⟩ | ⟨hl, hr, hi⟩
    · rw [hl, hr] at hat'
      simp only [Bool.false_eq_true, if_false] at hat'
      refine ⟨_, _, _, _, _, _, hat', hle hat'.sps, ?_⟩
      rw [hb, hl]
      simp only [Bool.false_eq_true, if_false]
      refine ⟨by rw [hfl]; unfold nFr; rw [if_neg (out_not (.inl hi))], ?_, g3, g4, .inr (.inl hi), fun _ => hspn⟩
      rw [htl]; unfold nTo; rw [if_neg (by unfold inR at hi; omega)]
    · rw [hl, hr] at hat'
      simp only [Bool.false_eq_true, if_false, if_true] at hat'
      refine ⟨_, _, _, _, _, _, hat', hle hat'.sps, ?_⟩
      rw [hb, hl]
      simp only [Bool.false_eq_true, if_false, if_true]
      refine ⟨by rw [hfl]; unfold nFr; rw [if_neg (out_not (.inr hi))], by rw [List.length_append, htl]; unfold nTo; rw [if_pos hi]; rfl, g3, ?_, .inr (.inr hi), fun h => by unfold inR at h; omega⟩
      match hrem : spW d wideL q' x.2.1 m' fr p (p + 1) (s.drop (p + 1)) with
      | [] =>
        have := congrArg List.length hat'.sps
        rw [hrem] at this; simp at this; omega
      | y :: r =>
        have hy := (spW_head d wideL _ _ _ _ _ _ _ y r (.inr hi) hrem).2 hi
        have hs := (sp_at hat'.sps hrem).2
        rw [List.length_append, htl, List.length_singleton, take_push (x := p) (by rw [hs, hy]), ← htl, ← g4]
    · rw [hl, hr] at hat'
      simp only [Bool.false_eq_true, if_false, if_true] at hat'
      refine ⟨_, _, _, _, _, _, hat', hle hat'.sps, ?_⟩
      rw [hb, hl]
      simp only [Bool.false_eq_true, if_false, if_true]
      refine ⟨by rw [hfl]; unfold nFr; rw [if_pos hi]; simp, by rw [List.length_append, htl]; unfold nTo; rw [if_neg (by unfold outR at hi; omega)]; simp, g3, ?_, .inl hi, fun h => absurd hi (out_not (.inl h))⟩
      have hs : (SP.map Prod.snd)[sp.length]? = some p := by rw [hat'.sps]; simp
      rw [List.length_append, htl, List.length_singleton, take_push (x := p) hs, ← htl, ← g4]
  · obtain ⟨hb, hl, hr, hi⟩ := k3 g5
    rw [hb, hl, hr] at hat'
    simp only [Bool.false_eq_true, if_false, if_true] at hat'
    refine ⟨_, _, _, _, _, _, hat', hle hat'.sps, ?_⟩
    rw [hb, hl]
    simp only [Bool.false_eq_true, if_false]
    refine ⟨by rw [g1]; unfold nFr; rw [if_neg (out_not (.inr g5)), if_pos hi]; simp, by rw [g2]; unfold nTo; rw [if_pos g5, if_neg (by unfold outR at hi; omega)]; simp, g3, g4, .inl hi, fun h => absurd hi (out_not (.inl h))⟩
theorem Held27.full {SP : List (Nat × Nat)} {st : Int} {n : Nat} {fs ts : List Nat} (h : Held27 SP st n fs ts) (hn : n ≤ SP.length) (ht : SP.length ≤ ts.length) : fs = SP.map Prod.fst ∧ ts = SP.map Prod.snd := by
  obtain ⟨g1, g2, g3, g4, g5, g6⟩ := h
  have htl : ts.length ≤ SP.length := by rw [g4]; simp; omega
  have hfl : fs.length = SP.length := by
    rw [g1]; unfold nFr
    unfold nTo at g2
    rcases g5 with h | h | h
    · rw [if_pos h]; rw [if_neg (by unfold outR at h; omega)] at g2; omega
    · have := g6 h; rw [if_neg (by unfold inR at h; omega)] at g2; omega
    · rw [if_neg (out_not (.inr h))]; rw [if_pos h] at g2; omega
  exact ⟨by rw [g3, hfl]; exact List.take_of_length_le (by simp), by rw [g4, show ts.length = SP.length by omega]; exact List.take_of_length_le (by simp)⟩
theorem Held27.last {d : Dl} {s : Str} {R : Rs} {SP : List (Nat × Nat)} {p : Nat} {st : Int} {fr to : Nat} {sp : List (Nat × Nat)} {q : Int} {m : Mk} {acc : List (List Str × Nat)} {fs ts : List Nat}
    (hat : At d s R SP p st fr to sp q m acc) (h : Held27 SP st sp.length fs ts) (hp : s.length ≤ p) (hn : ts.length < SP.length) : fs = SP.map Prod.fst ∧ ts ++ [s.length] = SP.map Prod.snd := by
  obtain ⟨g1, g2, g3, g4, g5, g6⟩ := h
  have hspn : sp.length < SP.length := by
    have : sp.length ≤ ts.length := by rw [g2]; unfold nTo; split <;> omega
    omega
  have hlast := hat.last hp hspn
  have hlen : SP.length = sp.length + 1 := by rw [hlast]; simp
  have hin : inR st := by
    have h2 := hat.sps
    rw [List.drop_eq_nil_of_le hp, spW] at h2
    split at h2
    · rename_i r he
      have := endW_rec he
      unfold aft at this
      unfold inR; omega
    · rw [h2] at hspn; simp at hspn
  have hfl : fs.length = SP.length := by rw [g1]; unfold nFr; rw [if_neg (out_not (.inl hin))]; omega
  have htl : ts.length = sp.length := by rw [g2]; unfold nTo; rw [if_neg (by unfold inR at hin; omega)]
  refine ⟨by rw [g3, hfl]; exact List.take_of_length_le (by simp), ?_⟩
  rw [g4, htl, hlast]; simp
end Go.Proofs.Ytdhieolfdlkeaaa
namespace Go.Proofs.Ytdhieolfdlkeaaa
set_option linter.unusedSimpArgs false
set_option linter.unusedVariables false
attribute [local irreducible] SemK UnitK StK AlcK BslK CallK CallV Instr.box Builtin.append_ Instr.makeSlice Instr.makeMap Instr.lookup Instr.mapUpdate Instr.sliceAt convert
open Go.RowKit
theorem slv_full {α : Type} {w : World} {E : Enc α} {v : Value} {xs : List α} (h : Rd w E v xs) (sz : Nat) (k : IntKind) : slVV sz none (some (.int k (xs.length : Int))) v = v ∧ okSlV none (some (.int k (xs.length : Int))) v = True := by
  obtain ⟨p, cap, rfl, h1, h2, h3, h4⟩ := h
  constructor
  · cases p <;> simp [slVV, loN, hiN, add_0]
  · simp [okSlV, okI, loN, hiN]; omega
abbrev toI (l : List Nat) : List Int := l.map fun (x : Nat) => (x : Int)
theorem toI_snoc (l : List Nat) (a b : Nat) : toI l ++ [(a : Int) + (b : Int)] = toI (l ++ [a + b]) := by simp [toI]
def c30l1 : MC := (.seq (.seq (.reg [qm 36 10, qm 37 6, qq 38 (.lenS (.tmp 37)), qq 39 (.bin .lss (.tmp 36) (.tmp 38)), qm 40 39, qt 40 41 (.fad 2 (.tmp 5)), qt 40 42 (.ld none (.tmp 41)), qt 40 43 (.len (.tmp 42)), qt 40 44 (.fad 0 (.tmp 5)), qt 40 45 (.ld none (.tmp 44)), qt 40 46 (.len (.tmp 45)), qt 40 47 (.bin .lss (.tmp 43) (.tmp 46)), qq 48 (.pick (.tmp 40) (.tmp 47) (kb false))]) (.cond (.tmp 48) .skip (.exit 0))) (.seq (.blk 1 (.seq (.drg [qq 52 (.ld (.some 3) (.tmp 2)), qm 53 9, qm 54 6, qm 55 10, qq 56 (.idxS (.tmp 54) (.tmp 55)), qq 57 (.cvi .i64 (.tmp 56)), qq 58 (.call 65 [(.tmp 52), (.tmp 53), (.tmp 57)]), qm 51 58, qq 59 (.ext 0 (.tmp 51)), qq 60 (.ext 1 (.tmp 51)), qq 61 (.ext 2 (.tmp 51)), qq 11 (.alc 116 [(.int .i64 0), (.int .i64 0), (.int .i64 0), (.int .i64 0), (.int .i64 0), (.int .i64 0)]), qn (.st 6 (.tmp 11) (.tmp 59)), qm 12 60, qm 13 61] (.some (.br [qm 53 9, qm 54 6, qm 55 10, qq 56 (.idxS (.tmp 54) (.tmp 55)), qq 57 (.cvi .i64 (.tmp 56))] (.br [qq 52 (.ld (.some 3) (.tmp 2))] (.leaf [qq 58 (.call 65 [(.tmp 52), (.tmp 53), (.tmp 57)]), qm 51 58, qq 59 (.ext 0 (.tmp 51)), qq 60 (.ext 1 (.tmp 51)), qq 61 (.ext 2 (.tmp 51)), qq 11 (.alc 116 [(.int .i64 0), (.int .i64 0), (.int .i64 0), (.int .i64 0), (.int .i64 0), (.int .i64 0)]), qn (.st 6 (.tmp 11) (.tmp 59)), qm 12 60, qm 13 61]) (.leaf [qq 11 (.alc 116 [(.int .i64 0), (.int .i64 0), (.int .i64 0), (.int .i64 0), (.int .i64 0), (.int .i64 0)]), qq 58 (.call 65 [(.tmp 52), (.tmp 53), (.tmp 57)]), qm 51 58, qq 59 (.ext 0 (.tmp 51)), qq 60 (.ext 1 (.tmp 51)), qq 61 (.ext 2 (.tmp 51)), qn (.st 6 (.tmp 11) (.tmp 59)), qm 12 60, qm 13 61])) (.leaf [qq 11 (.alc 116 [(.int .i64 0), (.int .i64 0), (.int .i64 0), (.int .i64 0), (.int .i64 0), (.int .i64 0)]), qq 52 (.ld (.some 3) (.tmp 2)), qq 58 (.call 65 [(.tmp 52), (.tmp 53), (.tmp 57)]), qm 51 58, qq 59 (.ext 0 (.tmp 51)), qq 60 (.ext 1 (.tmp 51)), qq 61 (.ext 2 (.tmp 51)), qn (.st 6 (.tmp 11) (.tmp 59)), qm 12 60, qm 13 61])))) (.seq (.reg [qm 62 12, qm 9 62]) (.seq (.seq (.reg [qq 63 (.fad 0 (.tmp 11)), qq 64 (.ld none (.tmp 63)), qq 65 (.bin .eql (.tmp 64) (ki 1))]) (.cond (.tmp 65) (.reg [qq 66 (.fad 1 (.tmp 5)), qq 67 (.ld none (.tmp 66)), qm 68 8, qm 69 10, qq 70 (.bin .add (.tmp 68) (.tmp 69)), qq 71 (.bsl 3 [(.int .i64 0)] 1 [⟨0, ⟨1, (.tmp 70)⟩⟩]), qq 72 (.raw (.call ⟨(.builtin .append), #[(.tmp 67), (.tmp 71)], #[58, 58]⟩) 58), qq 73 (.fad 1 (.tmp 5)), qn (.st 1 (.tmp 73) (.tmp 72))]) .skip)) (.seq (.reg [qq 74 (.fad 3 (.tmp 11)), qq 75 (.ld none (.tmp 74)), qq 76 (.bin .eql (.tmp 75) (ki 1))]) (.cond (.tmp 76) (.reg [qq 77 (.fad 2 (.tmp 5)), qq 78 (.ld none (.tmp 77)), qm 79 8, qm 80 10, qq 81 (.bin .add (.tmp 79) (.tmp 80)), qq 82 (.bsl 3 [(.int .i64 0)] 1 [⟨0, ⟨1, (.tmp 81)⟩⟩]), qq 83 (.raw (.call ⟨(.builtin .append), #[(.tmp 78), (.tmp 82)], #[58, 58]⟩) 58), qq 84 (.fad 2 (.tmp 5)), qn (.st 1 (.tmp 84) (.tmp 83))]) .skip)))))) (.reg [qm 49 10, qq 50 (.bin .add (.tmp 49) (ki 1)), qm 10 50])))
def c30 : MC := (.seq (.reg [qq 2 (.raw (.box 35 (.tmp 0)) 0), qq 4 (.alc 60 [(.slice none 0 0), (.slice none 0 0), (.slice none 0 0), (.int .i64 0), (.int .i64 0)])]) (.seq (.reg [qq 14 (.bld [(.slice none 0 0), (.slice none 0 0), (.slice none 0 0), (.int .i64 0), (.int .i64 0)] []), qq 5 (.alc 60 [(.slice none 0 0), (.slice none 0 0), (.slice none 0 0), (.int .i64 0), (.int .i64 0)]), qn (.st 5 (.tmp 5) (.tmp 14))]) (.seq (.reg [qq 16 (.ld (.some 3) (.tmp 2)), qq 17 (.bld [(.int .i64 0), (.int .i64 0), (.int .i64 0), (.int .i64 0)] [⟨0, ⟨1, (ki 2147483648)⟩⟩, ⟨1, ⟨1, (ki 2147483648)⟩⟩, ⟨2, ⟨1, (ki 2147483648)⟩⟩]), qm 18 1, qq 19 (.call 22 [(.tmp 16), (.tmp 17), (.tmp 18)]), qm 15 19, qq 20 (.ext 0 (.tmp 15)), qq 21 (.ext 1 (.tmp 15)), qq 22 (.ext 2 (.tmp 15)), qq 23 (.fad 0 (.tmp 5)), qn (.st 1 (.tmp 23) (.tmp 20)), qq 24 (.fad 3 (.tmp 5)), qn (.st 1 (.tmp 24) (.tmp 21)), qq 25 (.fad 4 (.tmp 5)), qn (.st 1 (.tmp 25) (.tmp 22))]) (.seq (.reg [qm 27 1, qq 28 (.call 56 [(.tmp 27)]), qm 26 28, qq 29 (.ext 0 (.tmp 26)), qq 30 (.ext 1 (.tmp 26)), qm 6 29, qm 7 30]) (.seq (.reg [qm 31 1, qq 32 (.lenS (.tmp 31)), qm 33 6, qq 34 (.lenS (.tmp 33)), qq 35 (.bin .sub (.tmp 32) (.tmp 34)), qm 8 35]) (.seq (.reg [qq 9 (.mv (ki 0))]) (.seq (.seq (.reg [qq 10 (.mv (ki 0))]) (.blk 0 (.loop c30l1))) (.seq (.seq (.reg [qq 85 (.fad 2 (.tmp 5)), qq 86 (.ld none (.tmp 85)), qq 87 (.len (.tmp 86)), qq 88 (.fad 0 (.tmp 5)), qq 89 (.ld none (.tmp 88)), qq 90 (.len (.tmp 89)), qq 91 (.bin .lss (.tmp 87) (.tmp 90))]) (.cond (.tmp 91) (.reg [qq 92 (.fad 2 (.tmp 5)), qq 93 (.ld none (.tmp 92)), qm 94 1, qq 95 (.lenS (.tmp 94)), qq 96 (.bsl 3 [(.int .i64 0)] 1 [⟨0, ⟨1, (.tmp 95)⟩⟩]), qq 97 (.raw (.call ⟨(.builtin .append), #[(.tmp 93), (.tmp 96)], #[58, 58]⟩) 58), qq 98 (.fad 2 (.tmp 5)), qn (.st 1 (.tmp 98) (.tmp 97))]) .skip)) (.seq (.reg [qq 99 (.fad 1 (.tmp 5)), qq 100 (.ld none (.tmp 99)), qq 101 (.fad 0 (.tmp 5)), qq 102 (.ld none (.tmp 101)), qq 103 (.len (.tmp 102)), qq 104 (.slV 1 (.tmp 100) none (.some (.tmp 103))), qq 105 (.fad 1 (.tmp 5)), qn (.st 1 (.tmp 105) (.tmp 104))]) (.seq (.reg [qq 106 (.ld (.some 5) (.tmp 5)), qn (.st 5 (.tmp 4) (.tmp 106))]) .ret))))))))))
theorem k30 : conv Try.prog 107 (Try.f30.body.getD .skip) = c30 := by kernel_rfl
theorem in30 {a0 a1 : Value} {w : World} {R : Value → World → Prop} (h : G Try.prog Try.f30 107 [.c c30] R (frL 0 [a0, a1]) w) : Ret Try.prog 30 #[a0, a1] w R := G.enter (args := [a0, a1]) Try.func30 (c := Try.f30.body.getD .skip) (by kernel_rfl) (by kernel_rfl) (by simp) k30 h
set_option maxHeartbeats 1000000 in
set_option maxRecDepth 8000 in
theorem rnew27_spec (d : Dl) (hr : Rt d) (s : Str) (hl : s.length ≤ 900000) (w : World) :
    Ret Try.prog 30 #[(.agg #[I d.dl, I d.q, I d.e]), S s] w fun res w' => ∃ v vs fv tv, res = .agg #[v, fv, tv, I (parM d wideL s).k, I (parM d wideL s).a] ∧ vs.length = (parM d wideL s).rs.length ∧
      Sep w w' [accC v 47 eV vs, frzC eS vs (List.map Prod.fst (parM d wideL s).rs), accC fv 3 eI (toI ((spM d s).map Prod.fst)), accC tv 3 eI (toI ((spM d s).map Prod.snd))] := by
  refine in30 ?_
  have hS := Sep.start w
  have hst := At.start d s
  obtain ⟨hsd, hsl⟩ := strip_drop s
  have hlen := spM_len d s
  have hRl := parM_len d wideL s
  have hq := fun w => rparse_spec (w := w) (l := wideL) (s := s) hr hl (by decide) (by decide) (by decide) (by decide)
  simp only [wideL, Bool.false_eq_true, if_false] at hq
  have ew : (⟨2147483648, 2147483648, 2147483648, false⟩ : Lm) = wideL := rfl
  rw [ew] at hq
  generalize parM d wideL s = R at *
  generalize spM d s = SP at *
  generalize hoff : s.length - (stripM s).length = off at *
  have hI : (s.length : Int) - ((stripM s).length : Int) = off := by omega
  (have fct := @hI; repeat' (first | ((with_reducible apply G.a); exact rfl) | refine G.reg fun K hK => ?_ | (with_reducible (refine hK _ _ ?_); clear hK K) | (with_reducible (refine hK _ ?_); clear hK K; intro wd hxd; have hS := Sep.xx hxd) | ((first | have hk := hK | have hk := hK2); clear hk; simp (disch := (first | exact dis | fail)) only [push_cast, ↓reduceIte, Nat.reduceAdd, Nat.reduceLeDiff, Nat.reduceEqDiff, Nat.reduceLT, Int.reduceToNat, fct]) | ((first | refine brO_n ?_ ?_ | refine brQ_n ?_ ?_) <;> intro hb hc <;> first | (with_reducible exact False.elim hc) | (exfalso; omega) | (simp only [hb]; clear hb)) | ((first | refine zalc ?_ | refine zbsl ?_ | ((with_reducible refine gBox ?_); refine zbox ?_)); intro gb wb hS) | ((with_reducible refine gSt ?_); refine zs2 ?_; intro wb hS) | (refine zcv ?_) | (refine zco 22 (hq _) ?_; rintro vb wb ⟨v, vs, rfl, hS2⟩; have hS := hS2.ap; simp only [apps] at hS) | (refine zcp 56 (stripR_spec s _ (by omega)) ?_; intro wb hS) | (refine G.drt mixed fun K hK wd hxd => ?_; have hS := Sep.xx hxd) | with_reducible refine OT_leaf ?_ | (with_reducible refine OT_tail fun K2 hK2 => ?_) | (with_reducible (refine hK2 _ ?_); clear hK2 K2; intro wd hxd; have hS := Sep.xx hxd) | with_reducible refine OT_br fun K2 hK2 => ?_ | (refine hK2 _ _ ?_ ?_ <;> clear hK2 K2) | refine G.drg mixed fun K hK => ?_ | (refine G.cn ?_ ?_ <;> intro hc <;> first | (with_reducible exact False.elim hc) | (exfalso; omega) | skip))) <;> (try clear fct)
  have hS := (hS.nil 3 eI).nil 3 eI
  refine G.loop (fun r w' => ∃ (g2 g4 g5 i : Nat) (st : Int) (fr to : Nat) (sp : List (Nat × Nat)) (q : Int) (m : Mk) (acc : List (List Str × Nat)) (fs ts : List Nat) (fv tv : Value),
    Sep w w' [boxC g5 60 [v, fv, tv, I R.k, I R.a], boxC g4 60 [.slice none 0 0, .slice none 0 0, .slice none 0 0, I 0, I 0], boxC g2 35 [I d.dl, I d.q, I d.e], accC v 47 eV vs, frzC eS vs (List.map Prod.fst R.rs), accC fv 3 eI (toI fs), accC tv 3 eI (toI ts)] ∧
    r 5 = .pointer (some ⟨g5, 0, none⟩) ∧ r 4 = .pointer (some ⟨g4, 0, none⟩) ∧ r 2 = .pointer (some ⟨g2, 0, none⟩) ∧ r 1 = S s ∧ r 6 = S (stripM s) ∧ r 8 = I off ∧ r 9 = I st ∧ r 10 = I i ∧
    At d s R SP (off + i) st fr to sp q m acc ∧ sp.length ≤ SP.length ∧ Held27 SP st sp.length fs ts) (fun r _ => (stripM s).length - toN (r 10)) ?_ ?_
  · refine ⟨_, _, _, 0, 0, 0, 0, [], 0, {}, [], [], [], _, _, (Sep.sub hS (by repeat first | exact Sub.rfl' | exact Sub.n | (refine Sub.c (by repeat constructor) ?_) | refine Sub.skip ?_)), by simp only [push_cast, ↓reduceIte, Nat.reduceAdd, Nat.reduceLeDiff, Nat.reduceEqDiff, Nat.reduceLT, Int.reduceToNat] <;> rfl, by simp only [push_cast, ↓reduceIte, Nat.reduceAdd, Nat.reduceLeDiff, Nat.reduceEqDiff, Nat.reduceLT, Int.reduceToNat] <;> rfl, by simp only [push_cast, ↓reduceIte, Nat.reduceAdd, Nat.reduceLeDiff, Nat.reduceEqDiff, Nat.reduceLT, Int.reduceToNat] <;> rfl, by simp only [push_cast, ↓reduceIte, Nat.reduceAdd, Nat.reduceLeDiff, Nat.reduceEqDiff, Nat.reduceLT, Int.reduceToNat], by simp only [push_cast, ↓reduceIte, Nat.reduceAdd, Nat.reduceLeDiff, Nat.reduceEqDiff, Nat.reduceLT, Int.reduceToNat], by simp only [push_cast, ↓reduceIte, Nat.reduceAdd, Nat.reduceLeDiff, Nat.reduceEqDiff, Nat.reduceLT, Int.reduceToNat, hI] <;> rfl, by simp only [push_cast, ↓reduceIte, Nat.reduceAdd, Nat.reduceLeDiff, Nat.reduceEqDiff, Nat.reduceLT, Int.reduceToNat] <;> rfl, by simp only [push_cast, ↓reduceIte, Nat.reduceAdd, Nat.reduceLeDiff, Nat.reduceEqDiff, Nat.reduceLT, Int.reduceToNat] <;> rfl, hst, by simp, ⟨rfl, rfl, rfl, rfl, .inl (.inl rfl), fun h => by unfold inR at h; omega⟩⟩
  · clear hS hst
    rintro u wl ⟨g2, g4, g5, i, st, fr, to, sp, q, m, acc, fs, ts, fv, tv, hS, q5, q4, q2, q1, q6, q8, q9, q10, hat, hsp, hh⟩ ih
    have hm : toN (u 10) = i := by rw [q10]; simp [toN]
    have hpl := hat.pl
    have hvl := hS.frzLen (.t (.t (.t (.t .h))))
    rw [List.length_map] at hvl
    have hRS : R.rs.length = SP.length := hlen.symm
    have htl : (toI ts).length = ts.length := List.length_map _
    have hfl : (toI fs).length = fs.length := List.length_map _
    have hfl2 : fs.length ≤ SP.length + 1 := by rw [hh.fl]; unfold nFr; split <;> omega
    have hks : st = 0 ∨ st = 1 ∨ st = 2 ∨ st = 3 ∨ st = 4 ∨ st = 5 ∨ st = 6 := by have := hh.ks; unfold outR inR at this; omega
    by_cases hgo : i < (stripM s).length ∧ ts.length < SP.length
    · obtain ⟨hp, hn⟩ := hgo
      have hp' : off + i < s.length := by omega
      obtain ⟨fr', to', sp', q', m', acc', hat', hsp', hh'⟩ := hh.step hat hp' hn
      have hb0 : (stripM s).getD i 0 = s.getD (off + i) 0 := by rw [hsd]; simp [List.getD]
      have hst := fun w => rstep_spec d hr st ((stripM s).getD i 0) w hks
      have hbb := (s.getD (off + i) 0).toNat_lt
      simp only [tabV, hb0] at hst
      generalize (s.getD (off + i) 0) = b at *
      generalize scM d st b = x at *
      cases hb : x.1.b <;> cases hl' : x.1.l <;> simp only [hb, hl', b2i, if_true, if_false, Bool.false_eq_true] at hst hh'
      · (((have fct := (And.intro @q5 (And.intro @q4 (And.intro @q2 (And.intro @q1 (And.intro @q6 (And.intro @q8 (And.intro @q9 (And.intro @q10 (And.intro @hb0 (And.intro @hvl @hRS)))))))))); repeat' (first | ((with_reducible apply G.a); exact rfl) | refine G.reg fun K hK => ?_ | (with_reducible (refine hK _ _ ?_); clear hK K) | (with_reducible (refine hK _ ?_); clear hK K; intro wd hxd; have hS := Sep.xx hxd) | ((first | have hk := hK | have hk := hK2); clear hk; simp (disch := (first | exact dis | fail)) only [push_cast, ↓reduceIte, Nat.reduceAdd, Nat.reduceLeDiff, Nat.reduceEqDiff, Nat.reduceLT, Int.reduceToNat, fct]) | ((first | refine brO_n ?_ ?_ | refine brQ_n ?_ ?_) <;> intro hb hc <;> first | (with_reducible exact False.elim hc) | (exfalso; omega) | (simp only [hb]; clear hb)) | ((first | refine zalc ?_ | refine zbsl ?_ | ((with_reducible refine gBox ?_); refine zbox ?_)); intro gb wb hS) | ((with_reducible refine gSt ?_); refine zs2 ?_; intro wb hS) | (refine zcv ?_) | (refine zcp 65 (hst _) ?_; intro wb hS) | (refine zap (y := ((off : Int) + (i : Int))) ?_ (hy := by rfl); intro vb wb hS) | (refine G.drt mixed fun K hK wd hxd => ?_; have hS := Sep.xx hxd) | with_reducible refine OT_leaf ?_ | (with_reducible refine OT_tail fun K2 hK2 => ?_) | (with_reducible (refine hK2 _ ?_); clear hK2 K2; intro wd hxd; have hS := Sep.xx hxd) | with_reducible refine OT_br fun K2 hK2 => ?_ | (refine hK2 _ _ ?_ ?_ <;> clear hK2 K2) | refine G.drg mixed fun K hK => ?_ | (refine G.cn ?_ ?_ <;> intro hc <;> first | (with_reducible exact False.elim hc) | (exfalso; omega) | skip))) <;> (try clear fct)); all_goals (
        (try simp only [toI_snoc] at hS)
        refine ih _ _ ⟨g2, g4, g5, i + 1, _, fr', to', sp', q', m', acc', _, _, _, _, (Sep.sub hS (by repeat first | exact Sub.rfl' | exact Sub.n | (refine Sub.c (by repeat constructor) ?_) | refine Sub.skip ?_)), by simp only [push_cast, ↓reduceIte, Nat.reduceAdd, Nat.reduceLeDiff, Nat.reduceEqDiff, Nat.reduceLT, Int.reduceToNat, q5, q4, q2, q1, q6, q8, q9, q10] <;> rfl, by simp only [push_cast, ↓reduceIte, Nat.reduceAdd, Nat.reduceLeDiff, Nat.reduceEqDiff, Nat.reduceLT, Int.reduceToNat, q5, q4, q2, q1, q6, q8, q9, q10] <;> rfl, by simp only [push_cast, ↓reduceIte, Nat.reduceAdd, Nat.reduceLeDiff, Nat.reduceEqDiff, Nat.reduceLT, Int.reduceToNat, q5, q4, q2, q1, q6, q8, q9, q10] <;> rfl, by simp only [push_cast, ↓reduceIte, Nat.reduceAdd, Nat.reduceLeDiff, Nat.reduceEqDiff, Nat.reduceLT, Int.reduceToNat, q5, q4, q2, q1, q6, q8, q9, q10] <;> rfl, by simp only [push_cast, ↓reduceIte, Nat.reduceAdd, Nat.reduceLeDiff, Nat.reduceEqDiff, Nat.reduceLT, Int.reduceToNat, q5, q4, q2, q1, q6, q8, q9, q10] <;> rfl, by simp only [push_cast, ↓reduceIte, Nat.reduceAdd, Nat.reduceLeDiff, Nat.reduceEqDiff, Nat.reduceLT, Int.reduceToNat, q5, q4, q2, q1, q6, q8, q9, q10] <;> rfl, by simp only [push_cast, ↓reduceIte, Nat.reduceAdd, Nat.reduceLeDiff, Nat.reduceEqDiff, Nat.reduceLT, Int.reduceToNat, q5, q4, q2, q1, q6, q8, q9, q10] <;> rfl, by simp only [push_cast, ↓reduceIte, Nat.reduceAdd, Nat.reduceLeDiff, Nat.reduceEqDiff, Nat.reduceLT, Int.reduceToNat, q5, q4, q2, q1, q6, q8, q9, q10] <;> rfl, hat', hsp', hh'⟩ ?_
        rw [hm]; simp only [push_cast, ↓reduceIte, Nat.reduceAdd, Nat.reduceLeDiff, Nat.reduceEqDiff, Nat.reduceLT, Int.reduceToNat, toN_i, q5, q4, q2, q1, q6, q8, q9, q10]; omega))
      · (((have fct := (And.intro @q5 (And.intro @q4 (And.intro @q2 (And.intro @q1 (And.intro @q6 (And.intro @q8 (And.intro @q9 (And.intro @q10 (And.intro @hb0 (And.intro @hvl @hRS)))))))))); repeat' (first | ((with_reducible apply G.a); exact rfl) | refine G.reg fun K hK => ?_ | (with_reducible (refine hK _ _ ?_); clear hK K) | (with_reducible (refine hK _ ?_); clear hK K; intro wd hxd; have hS := Sep.xx hxd) | ((first | have hk := hK | have hk := hK2); clear hk; simp (disch := (first | exact dis | fail)) only [push_cast, ↓reduceIte, Nat.reduceAdd, Nat.reduceLeDiff, Nat.reduceEqDiff, Nat.reduceLT, Int.reduceToNat, fct]) | ((first | refine brO_n ?_ ?_ | refine brQ_n ?_ ?_) <;> intro hb hc <;> first | (with_reducible exact False.elim hc) | (exfalso; omega) | (simp only [hb]; clear hb)) | ((first | refine zalc ?_ | refine zbsl ?_ | ((with_reducible refine gBox ?_); refine zbox ?_)); intro gb wb hS) | ((with_reducible refine gSt ?_); refine zs2 ?_; intro wb hS) | (refine zcv ?_) | (refine zcp 65 (hst _) ?_; intro wb hS) | (refine zap (y := ((off : Int) + (i : Int))) ?_ (hy := by rfl); intro vb wb hS) | (refine G.drt mixed fun K hK wd hxd => ?_; have hS := Sep.xx hxd) | with_reducible refine OT_leaf ?_ | (with_reducible refine OT_tail fun K2 hK2 => ?_) | (with_reducible (refine hK2 _ ?_); clear hK2 K2; intro wd hxd; have hS := Sep.xx hxd) | with_reducible refine OT_br fun K2 hK2 => ?_ | (refine hK2 _ _ ?_ ?_ <;> clear hK2 K2) | refine G.drg mixed fun K hK => ?_ | (refine G.cn ?_ ?_ <;> intro hc <;> first | (with_reducible exact False.elim hc) | (exfalso; omega) | skip))) <;> (try clear fct)); all_goals (
        (try simp only [toI_snoc] at hS)
        refine ih _ _ ⟨g2, g4, g5, i + 1, _, fr', to', sp', q', m', acc', _, _, _, _, (Sep.sub hS (by repeat first | exact Sub.rfl' | exact Sub.n | (refine Sub.c (by repeat constructor) ?_) | refine Sub.skip ?_)), by simp only [push_cast, ↓reduceIte, Nat.reduceAdd, Nat.reduceLeDiff, Nat.reduceEqDiff, Nat.reduceLT, Int.reduceToNat, q5, q4, q2, q1, q6, q8, q9, q10] <;> rfl, by simp only [push_cast, ↓reduceIte, Nat.reduceAdd, Nat.reduceLeDiff, Nat.reduceEqDiff, Nat.reduceLT, Int.reduceToNat, q5, q4, q2, q1, q6, q8, q9, q10] <;> rfl, by simp only [push_cast, ↓reduceIte, Nat.reduceAdd, Nat.reduceLeDiff, Nat.reduceEqDiff, Nat.reduceLT, Int.reduceToNat, q5, q4, q2, q1, q6, q8, q9, q10] <;> rfl, by simp only [push_cast, ↓reduceIte, Nat.reduceAdd, Nat.reduceLeDiff, Nat.reduceEqDiff, Nat.reduceLT, Int.reduceToNat, q5, q4, q2, q1, q6, q8, q9, q10] <;> rfl, by simp only [push_cast, ↓reduceIte, Nat.reduceAdd, Nat.reduceLeDiff, Nat.reduceEqDiff, Nat.reduceLT, Int.reduceToNat, q5, q4, q2, q1, q6, q8, q9, q10] <;> rfl, by simp only [push_cast, ↓reduceIte, Nat.reduceAdd, Nat.reduceLeDiff, Nat.reduceEqDiff, Nat.reduceLT, Int.reduceToNat, q5, q4, q2, q1, q6, q8, q9, q10] <;> rfl, by simp only [push_cast, ↓reduceIte, Nat.reduceAdd, Nat.reduceLeDiff, Nat.reduceEqDiff, Nat.reduceLT, Int.reduceToNat, q5, q4, q2, q1, q6, q8, q9, q10] <;> rfl, by simp only [push_cast, ↓reduceIte, Nat.reduceAdd, Nat.reduceLeDiff, Nat.reduceEqDiff, Nat.reduceLT, Int.reduceToNat, q5, q4, q2, q1, q6, q8, q9, q10] <;> rfl, hat', hsp', hh'⟩ ?_
        rw [hm]; simp only [push_cast, ↓reduceIte, Nat.reduceAdd, Nat.reduceLeDiff, Nat.reduceEqDiff, Nat.reduceLT, Int.reduceToNat, toN_i, q5, q4, q2, q1, q6, q8, q9, q10]; omega))
      · (((have fct := (And.intro @q5 (And.intro @q4 (And.intro @q2 (And.intro @q1 (And.intro @q6 (And.intro @q8 (And.intro @q9 (And.intro @q10 (And.intro @hb0 (And.intro @hvl @hRS)))))))))); repeat' (first | ((with_reducible apply G.a); exact rfl) | refine G.reg fun K hK => ?_ | (with_reducible (refine hK _ _ ?_); clear hK K) | (with_reducible (refine hK _ ?_); clear hK K; intro wd hxd; have hS := Sep.xx hxd) | ((first | have hk := hK | have hk := hK2); clear hk; simp (disch := (first | exact dis | fail)) only [push_cast, ↓reduceIte, Nat.reduceAdd, Nat.reduceLeDiff, Nat.reduceEqDiff, Nat.reduceLT, Int.reduceToNat, fct]) | ((first | refine brO_n ?_ ?_ | refine brQ_n ?_ ?_) <;> intro hb hc <;> first | (with_reducible exact False.elim hc) | (exfalso; omega) | (simp only [hb]; clear hb)) | ((first | refine zalc ?_ | refine zbsl ?_ | ((with_reducible refine gBox ?_); refine zbox ?_)); intro gb wb hS) | ((with_reducible refine gSt ?_); refine zs2 ?_; intro wb hS) | (refine zcv ?_) | (refine zcp 65 (hst _) ?_; intro wb hS) | (refine zap (y := ((off : Int) + (i : Int))) ?_ (hy := by rfl); intro vb wb hS) | (refine G.drt mixed fun K hK wd hxd => ?_; have hS := Sep.xx hxd) | with_reducible refine OT_leaf ?_ | (with_reducible refine OT_tail fun K2 hK2 => ?_) | (with_reducible (refine hK2 _ ?_); clear hK2 K2; intro wd hxd; have hS := Sep.xx hxd) | with_reducible refine OT_br fun K2 hK2 => ?_ | (refine hK2 _ _ ?_ ?_ <;> clear hK2 K2) | refine G.drg mixed fun K hK => ?_ | (refine G.cn ?_ ?_ <;> intro hc <;> first | (with_reducible exact False.elim hc) | (exfalso; omega) | skip))) <;> (try clear fct)); all_goals (
        (try simp only [toI_snoc] at hS)
        refine ih _ _ ⟨g2, g4, g5, i + 1, _, fr', to', sp', q', m', acc', _, _, _, _, (Sep.sub hS (by repeat first | exact Sub.rfl' | exact Sub.n | (refine Sub.c (by repeat constructor) ?_) | refine Sub.skip ?_)), by simp only [push_cast, ↓reduceIte, Nat.reduceAdd, Nat.reduceLeDiff, Nat.reduceEqDiff, Nat.reduceLT, Int.reduceToNat, q5, q4, q2, q1, q6, q8, q9, q10] <;> rfl, by simp only [push_cast, ↓reduceIte, Nat.reduceAdd, Nat.reduceLeDiff, Nat.reduceEqDiff, Nat.reduceLT, Int.reduceToNat, q5, q4, q2, q1, q6, q8, q9, q10] <;> rfl, by simp only [push_cast, ↓reduceIte, Nat.reduceAdd, Nat.reduceLeDiff, Nat.reduceEqDiff, Nat.reduceLT, Int.reduceToNat, q5, q4, q2, q1, q6, q8, q9, q10] <;> rfl, by simp only [push_cast, ↓reduceIte, Nat.reduceAdd, Nat.reduceLeDiff, Nat.reduceEqDiff, Nat.reduceLT, Int.reduceToNat, q5, q4, q2, q1, q6, q8, q9, q10] <;> rfl, by simp only [push_cast, ↓reduceIte, Nat.reduceAdd, Nat.reduceLeDiff, Nat.reduceEqDiff, Nat.reduceLT, Int.reduceToNat, q5, q4, q2, q1, q6, q8, q9, q10] <;> rfl, by simp only [push_cast, ↓reduceIte, Nat.reduceAdd, Nat.reduceLeDiff, Nat.reduceEqDiff, Nat.reduceLT, Int.reduceToNat, q5, q4, q2, q1, q6, q8, q9, q10] <;> rfl, by simp only [push_cast, ↓reduceIte, Nat.reduceAdd, Nat.reduceLeDiff, Nat.reduceEqDiff, Nat.reduceLT, Int.reduceToNat, q5, q4, q2, q1, q6, q8, q9, q10] <;> rfl, by simp only [push_cast, ↓reduceIte, Nat.reduceAdd, Nat.reduceLeDiff, Nat.reduceEqDiff, Nat.reduceLT, Int.reduceToNat, q5, q4, q2, q1, q6, q8, q9, q10] <;> rfl, hat', hsp', hh'⟩ ?_
        rw [hm]; simp only [push_cast, ↓reduceIte, Nat.reduceAdd, Nat.reduceLeDiff, Nat.reduceEqDiff, Nat.reduceLT, Int.reduceToNat, toN_i, q5, q4, q2, q1, q6, q8, q9, q10]; omega))
      · (((have fct := (And.intro @q5 (And.intro @q4 (And.intro @q2 (And.intro @q1 (And.intro @q6 (And.intro @q8 (And.intro @q9 (And.intro @q10 (And.intro @hb0 (And.intro @hvl @hRS)))))))))); repeat' (first | ((with_reducible apply G.a); exact rfl) | refine G.reg fun K hK => ?_ | (with_reducible (refine hK _ _ ?_); clear hK K) | (with_reducible (refine hK _ ?_); clear hK K; intro wd hxd; have hS := Sep.xx hxd) | ((first | have hk := hK | have hk := hK2); clear hk; simp (disch := (first | exact dis | fail)) only [push_cast, ↓reduceIte, Nat.reduceAdd, Nat.reduceLeDiff, Nat.reduceEqDiff, Nat.reduceLT, Int.reduceToNat, fct]) | ((first | refine brO_n ?_ ?_ | refine brQ_n ?_ ?_) <;> intro hb hc <;> first | (with_reducible exact False.elim hc) | (exfalso; omega) | (simp only [hb]; clear hb)) | ((first | refine zalc ?_ | refine zbsl ?_ | ((with_reducible refine gBox ?_); refine zbox ?_)); intro gb wb hS) | ((with_reducible refine gSt ?_); refine zs2 ?_; intro wb hS) | (refine zcv ?_) | (refine zcp 65 (hst _) ?_; intro wb hS) | (refine zap (y := ((off : Int) + (i : Int))) ?_ (hy := by rfl); intro vb wb hS) | (refine G.drt mixed fun K hK wd hxd => ?_; have hS := Sep.xx hxd) | with_reducible refine OT_leaf ?_ | (with_reducible refine OT_tail fun K2 hK2 => ?_) | (with_reducible (refine hK2 _ ?_); clear hK2 K2; intro wd hxd; have hS := Sep.xx hxd) | with_reducible refine OT_br fun K2 hK2 => ?_ | (refine hK2 _ _ ?_ ?_ <;> clear hK2 K2) | refine G.drg mixed fun K hK => ?_ | (refine G.cn ?_ ?_ <;> intro hc <;> first | (with_reducible exact False.elim hc) | (exfalso; omega) | skip))) <;> (try clear fct)); all_goals (
        (try simp only [toI_snoc] at hS)
        refine ih _ _ ⟨g2, g4, g5, i + 1, _, fr', to', sp', q', m', acc', _, _, _, _, (Sep.sub hS (by repeat first | exact Sub.rfl' | exact Sub.n | (refine Sub.c (by repeat constructor) ?_) | refine Sub.skip ?_)), by simp only [push_cast, ↓reduceIte, Nat.reduceAdd, Nat.reduceLeDiff, Nat.reduceEqDiff, Nat.reduceLT, Int.reduceToNat, q5, q4, q2, q1, q6, q8, q9, q10] <;> rfl, by simp only [push_cast, ↓reduceIte, Nat.reduceAdd, Nat.reduceLeDiff, Nat.reduceEqDiff, Nat.reduceLT, Int.reduceToNat, q5, q4, q2, q1, q6, q8, q9, q10] <;> rfl, by simp only [push_cast, ↓reduceIte, Nat.reduceAdd, Nat.reduceLeDiff, Nat.reduceEqDiff, Nat.reduceLT, Int.reduceToNat, q5, q4, q2, q1, q6, q8, q9, q10] <;> rfl, by simp only [push_cast, ↓reduceIte, Nat.reduceAdd, Nat.reduceLeDiff, Nat.reduceEqDiff, Nat.reduceLT, Int.reduceToNat, q5, q4, q2, q1, q6, q8, q9, q10] <;> rfl, by simp only [push_cast, ↓reduceIte, Nat.reduceAdd, Nat.reduceLeDiff, Nat.reduceEqDiff, Nat.reduceLT, Int.reduceToNat, q5, q4, q2, q1, q6, q8, q9, q10] <;> rfl, by simp only [push_cast, ↓reduceIte, Nat.reduceAdd, Nat.reduceLeDiff, Nat.reduceEqDiff, Nat.reduceLT, Int.reduceToNat, q5, q4, q2, q1, q6, q8, q9, q10] <;> rfl, by simp only [push_cast, ↓reduceIte, Nat.reduceAdd, Nat.reduceLeDiff, Nat.reduceEqDiff, Nat.reduceLT, Int.reduceToNat, q5, q4, q2, q1, q6, q8, q9, q10] <;> rfl, by simp only [push_cast, ↓reduceIte, Nat.reduceAdd, Nat.reduceLeDiff, Nat.reduceEqDiff, Nat.reduceLT, Int.reduceToNat, q5, q4, q2, q1, q6, q8, q9, q10] <;> rfl, hat', hsp', hh'⟩ ?_
        rw [hm]; simp only [push_cast, ↓reduceIte, Nat.reduceAdd, Nat.reduceLeDiff, Nat.reduceEqDiff, Nat.reduceLT, Int.reduceToNat, toN_i, q5, q4, q2, q1, q6, q8, q9, q10]; omega))
    · have hsl : ∀ {g : List Nat}, g = SP.map Prod.fst → Rd wl eI fv (toI g) → slVV 1 none (some (I SP.length)) fv = fv ∧ okSlV none (some (I SP.length)) fv = True := by
        intro g hg h
        have := slv_full h 1 .i64
        rw [List.length_map, hg, List.length_map] at this
        exact this
      have hfv : Rd wl eI fv (toI fs) := hS.rd (by repeat constructor)
      by_cases ht : ts.length < SP.length
      · obtain ⟨e1, e2⟩ := Held27.last hat hh (by omega) ht
        have hs2 := hsl e1 hfv
        have hge : (stripM s).length ≤ i := by omega
        (have fct := (And.intro @q5 (And.intro @q4 (And.intro @q2 (And.intro @q1 (And.intro @q6 (And.intro @q8 (And.intro @q9 (And.intro @q10 (And.intro @hvl (And.intro @hRS @hs2)))))))))); repeat' (first | ((with_reducible apply G.a); exact rfl) | refine G.reg fun K hK => ?_ | (with_reducible (refine hK _ _ ?_); clear hK K) | (with_reducible (refine hK _ ?_); clear hK K; intro wd hxd; have hS := Sep.xx hxd) | ((first | have hk := hK | have hk := hK2); clear hk; simp (disch := (first | exact dis | fail)) only [push_cast, ↓reduceIte, Nat.reduceAdd, Nat.reduceLeDiff, Nat.reduceEqDiff, Nat.reduceLT, Int.reduceToNat, fct]) | ((first | refine brO_n ?_ ?_ | refine brQ_n ?_ ?_) <;> intro hb hc <;> first | (with_reducible exact False.elim hc) | (exfalso; omega) | (simp only [hb]; clear hb)) | ((first | refine zalc ?_ | refine zbsl ?_ | ((with_reducible refine gBox ?_); refine zbox ?_)); intro gb wb hS) | ((with_reducible refine gSt ?_); refine zs2 ?_; intro wb hS) | (refine zcv ?_) | (refine zap (y := ((s.length : Nat) : Int)) ?_ (hy := by rfl); intro vb wb hS) | (refine G.drt mixed fun K hK wd hxd => ?_; have hS := Sep.xx hxd) | with_reducible refine OT_leaf ?_ | (with_reducible refine OT_tail fun K2 hK2 => ?_) | (with_reducible (refine hK2 _ ?_); clear hK2 K2; intro wd hxd; have hS := Sep.xx hxd) | with_reducible refine OT_br fun K2 hK2 => ?_ | (refine hK2 _ _ ?_ ?_ <;> clear hK2 K2) | refine G.drg mixed fun K hK => ?_ | (refine G.cn ?_ ?_ <;> intro hc <;> first | (with_reducible exact False.elim hc) | (exfalso; omega) | skip))) <;> (try clear fct)
        all_goals
          (have fct := (And.intro @q5 (And.intro @q4 (And.intro @q2 (And.intro @q1 (And.intro @q6 (And.intro @q8 (And.intro @q9 @q10))))))); ((first | apply G.rv1 rfl | apply G.rv2 rfl | apply G.rv3 rfl | apply G.ret0 rfl) <;> first | exact RV.tmp | exact zag2 | skip); (try simp (disch := (first | exact dis | fail)) only [push_cast, ↓reduceIte, Nat.reduceAdd, Nat.reduceLeDiff, Nat.reduceEqDiff, Nat.reduceLT, Int.reduceToNat, fct]); (try clear fct))
          refine ⟨_, vs, _, _, rfl, hvl, ?_⟩
          have e3 : toI ts ++ [((s.length : Nat) : Int)] = toI (SP.map Prod.snd) := by rw [← e2]; simp [toI]
          rw [e1, e3] at hS
          exact (Sep.sub hS (by repeat first | exact Sub.rfl' | exact Sub.n | (refine Sub.c (by repeat constructor) ?_) | refine Sub.skip ?_))
      · obtain ⟨e1, e2⟩ := Held27.full hh hsp (by omega)
        have hs2 := hsl e1 hfv
        (have fct := (And.intro @q5 (And.intro @q4 (And.intro @q2 (And.intro @q1 (And.intro @q6 (And.intro @q8 (And.intro @q9 (And.intro @q10 (And.intro @hvl (And.intro @hRS @hs2)))))))))); repeat' (first | ((with_reducible apply G.a); exact rfl) | refine G.reg fun K hK => ?_ | (with_reducible (refine hK _ _ ?_); clear hK K) | (with_reducible (refine hK _ ?_); clear hK K; intro wd hxd; have hS := Sep.xx hxd) | ((first | have hk := hK | have hk := hK2); clear hk; simp (disch := (first | exact dis | fail)) only [push_cast, ↓reduceIte, Nat.reduceAdd, Nat.reduceLeDiff, Nat.reduceEqDiff, Nat.reduceLT, Int.reduceToNat, fct]) | ((first | refine brO_n ?_ ?_ | refine brQ_n ?_ ?_) <;> intro hb hc <;> first | (with_reducible exact False.elim hc) | (exfalso; omega) | (simp only [hb]; clear hb)) | ((first | refine zalc ?_ | refine zbsl ?_ | ((with_reducible refine gBox ?_); refine zbox ?_)); intro gb wb hS) | ((with_reducible refine gSt ?_); refine zs2 ?_; intro wb hS) | (refine zcv ?_)  | (refine G.drt mixed fun K hK wd hxd => ?_; have hS := Sep.xx hxd) | with_reducible refine OT_leaf ?_ | (with_reducible refine OT_tail fun K2 hK2 => ?_) | (with_reducible (refine hK2 _ ?_); clear hK2 K2; intro wd hxd; have hS := Sep.xx hxd) | with_reducible refine OT_br fun K2 hK2 => ?_ | (refine hK2 _ _ ?_ ?_ <;> clear hK2 K2) | refine G.drg mixed fun K hK => ?_ | (refine G.cn ?_ ?_ <;> intro hc <;> first | (with_reducible exact False.elim hc) | (exfalso; omega) | skip))) <;> (try clear fct)
        all_goals
          (have fct := (And.intro @q5 (And.intro @q4 (And.intro @q2 (And.intro @q1 (And.intro @q6 (And.intro @q8 (And.intro @q9 @q10))))))); ((first | apply G.rv1 rfl | apply G.rv2 rfl | apply G.rv3 rfl | apply G.ret0 rfl) <;> first | exact RV.tmp | exact zag2 | skip); (try simp (disch := (first | exact dis | fail)) only [push_cast, ↓reduceIte, Nat.reduceAdd, Nat.reduceLeDiff, Nat.reduceEqDiff, Nat.reduceLT, Int.reduceToNat, fct]); (try clear fct))
          refine ⟨_, vs, _, _, rfl, hvl, ?_⟩
          rw [e1, e2] at hS
          exact (Sep.sub hS (by repeat first | exact Sub.rfl' | exact Sub.n | (refine Sub.c (by repeat constructor) ?_) | refine Sub.skip ?_))
end Go.Proofs.Ytdhieolfdlkeaaa
