/- The engine, part 4: whole functions in short, and the rules by which they are walked. -/
import Derived.Test.YtdhieolfdlkeaaaMe3
namespace Go.Proofs.Ytdhieolfdlkeaaa
set_option linter.unusedSimpArgs false
set_option linter.unusedVariables false
open Go.RowKit

section
variable {P : Program} {ρ : Fr} {w : World} {n : Nat}

theorem aggN_cases {t : TypeId} {k : Option Nat} (_h : aggN P t = some k) : k = none ∨ ∃ m, k = some m := by cases k <;> simp

theorem run_cmA (o : Oper) (p : Op) (ho : o.op = p) (h : okM ρ w (cmA P o p)) :
    (execOp (ev ρ) o).run P w = .ok (.value (vM ρ w (cmA P o p))) (wM ρ w (cmA P o p)) ∨
    ((execOp (ev ρ) o).run P w = .ok .skip (wM ρ w (cmA P o p)) ∧ vM ρ w (cmA P o p) = undef ∧ ∃ n x y, cmA P o p = .st n x y) := by
  unfold cmA at *
  split at h
  case h_1 x => left; unfold execOp; simp [ho, vM, wM]
  case h_2 x => left; unfold execOp; simp [ho, vM, wM]
  case h_3 c a b => left; exact run_pick o c a b ho h
  case h_4 op t x y t' =>
    left
    split at h
    · rename_i h1
      (try simp only [h1, if_true] at h ⊢)
      refine run_bin o op t t' x y ho ?_ h
      cases op <;> simp_all [plainOp, eqOp]
    · rename_i h1
      (try simp only [h1, if_false, Bool.false_eq_true] at h ⊢)
      split at h
      · rename_i h2
        (try simp only [h2, if_true] at h ⊢)
        simp only [Bool.and_eq_true] at h2
        exact run_eqb o op t t' x y ho h2.1 h2.2 h.1 h.2
      · rename_i h2
        simp only [h2, if_false, Bool.false_eq_true]
        split at h
        · rename_i h3
          rw [if_pos h3]
          unfold cmEqA at *
          split at h
          · rename_i fs hu
            split at h
            · simp [okM] at h
            · rename_i hg
              rw [if_neg hg]
              simp only [Bool.or_eq_true, not_or, Bool.not_eq_true] at hg
              split at h
              · rename_i ks hks; exact run_eqA o op t t' fs ks x y ho h3 hu hg.1 hg.2 hks h
              · simp [okM] at h
          · simp [okM] at h
        · simp [okM] at h
  case h_5 op t x => left; exact run_un o op t x ho h
  case h_6 s t x =>
    left
    split at h
    · rename_i j k hs ht; (try simp only [hs, ht] at h ⊢); exact run_cvi o s t j k x ho hs ht h
    · rename_i hs ht; (try simp only [hs, ht] at h ⊢); exact run_cvs o s t x ho hs ht h
    · rename_i e hs ht
      (try simp only [hs, ht] at h ⊢)
      split at h
      · rename_i he; (try simp only [he] at h ⊢); exact run_b2s o s t e x ho hs he ht h
      · simp [okM] at h
    · simp [okM] at h
  case h_7 t x =>
    left
    split at h
    · rename_i k hk
      (try simp only [hk] at h ⊢)
      cases k with
      | none => exact run_ld1 o t x ho hk h
      | some m => exact run_ldN o t m x ho hk h
    · simp [okM] at h
  case h_8 t x y =>
    right
    split at h
    · rename_i i hi; (try simp only [hi] at h ⊢); exact ⟨run_st o t i x y ho hi h, rfl, _, _, _, rfl⟩
    · simp [okM] at h
  case h_9 t x i =>
    left
    split at h
    · rename_i ht; (try simp only [ht, if_true] at h ⊢); exact run_idxS o t x i ho ht h
    · simp [okM] at h
  case h_10 t x i =>
    left
    split at h
    · rename_i e he
      (try simp only [he] at h ⊢)
      split at h
      · rename_i j hj; (try simp only [hj] at h ⊢); exact run_adr o t e j x i ho he hj h
      · simp [okM] at h
    · simp [okM] at h
  case h_11 x i => left; exact run_ext o i x ho h
  case h_12 c =>
    left
    unfold cmCall at *
    split at h
    · rename_i hb
      (try simp only [hb] at h ⊢)
      split at h
      · rename_i x t hx ht0
        (try simp only [hx, ht0] at h ⊢)
        have ho' : o.op = .call { callee := .builtin .len, args := #[x], argTypes := #[t] } := by
          rw [ho]
          obtain ⟨ce, as, ats⟩ := c
          obtain ⟨as⟩ := as
          obtain ⟨ats⟩ := ats
          simp only at hb hx ht0
          subst hb; subst hx; subst ht0; rfl
        split at h
        · rename_i ht; (try simp only [ht, if_true] at h ⊢); exact run_lenS o t x ho' ht h
        · rename_i ht
          (try simp only [ht, if_false, Bool.false_eq_true] at h ⊢)
          split at h
          · rename_i he
            (try simp only [he, if_true] at h ⊢)
            obtain ⟨e, he'⟩ := Option.isSome_iff_exists.1 he
            exact run_lenL o t e x ho' he' h
          · simp [okM] at h
      · simp [okM] at h
    · split at h <;> simp [okM] at h
    · simp [okM] at h
  case h_13 t x lo hi mx =>
    left
    unfold cmSlice at *
    cases mx with
    | some _ => simp [okM] at h
    | none =>
      simp only at h ⊢
      split at h
      · rename_i ht; (try simp only [ht, if_true] at h ⊢); exact run_slS o t x lo hi ho ht h
      · rename_i ht
        (try simp only [ht, if_false, Bool.false_eq_true] at h ⊢)
        split at h
        · rename_i e he
          (try simp only [he] at h ⊢)
          split at h
          · rename_i j hj; (try simp only [hj] at h ⊢); exact run_slV o t e j x lo hi ho he hj h
          · simp [okM] at h
        · simp [okM] at h
  case h_14 t =>
    left
    split at h
    · rename_i z hz; (try simp only [hz] at h ⊢); exact run_alc o t z ho hz
    · simp [okM] at h
  case h_15 x => left; exact run_nck o x ho h
  case h_16 s x f =>
    left
    unfold cmFad at *
    split at h
    · rename_i fd hf
      split at h
      · rename_i i hi
        split at h
        · simp [okM] at h
        · rename_i hz; rw [if_neg hz]; exact run_fad o s f fd i x ho hf hi hz h
      · simp [okM] at h
    · simp [okM] at h
  case h_17 s x f =>
    left
    unfold cmFld at *
    split at h
    · rename_i fd hf
      split at h
      · rename_i k hk; exact run_fld o s f fd k x ho hf hk h
      · simp [okM] at h
    · simp [okM] at h
  case h_18 t ps =>
    left
    unfold cmBld at *
    split at h
    · rename_i z pl hz hpl
      split at h
      · rename_i l hl; exact run_bld o t ps z pl l ho hz hpl hl h
      · simp [okM] at h
    · simp [okM] at h
  case h_19 t n ps =>
    left
    unfold cmBsl at *
    split at h
    · rename_i e he
      split at h
      · rename_i j zs l hj hz hl
        split at h
        · rename_i h24; rw [if_pos h24]; exact run_bsl o t e n j ps zs l ho he hj hz hl h24 h
        · simp [okM] at h
      · simp [okM] at h
    · simp [okM] at h
  case h_20 => simp [okM] at h
theorem run_cm (o : Oper) (h : okM ρ w (cm P o)) :
    (execOp (ev ρ) o).run P w = .ok (.value (vM ρ w (cm P o))) (wM ρ w (cm P o)) ∨
    ((execOp (ev ρ) o).run P w = .ok .skip (wM ρ w (cm P o)) ∧ vM ρ w (cm P o) = undef) := (run_cmA o o.op rfl h).imp id fun h => ⟨h.1, h.2.1⟩
/-- Operations that neither read memory nor change it. -/
def pureM : MO → Bool
  | .mv _ | .pick _ _ _ | .bin _ _ _ | .eqb _ _ _ | .eqA _ _ _ _ | .un _ _ | .cvi _ _ | .cvs _ | .len _ | .lenS _ | .idxS _ _ | .adr _ _ _ | .fad _ _ | .fld _ _ _ | .ext _ _ | .slS _ _ _ | .slV _ _ _ _ | .nck _ | .bld _ _ => true
  | _ => false
theorem okM_pure {m : MO} (hp : pureM m = true) (w' : World) : okM ρ w' m = okM ρ w m ∧ vM ρ w' m = vM ρ w m ∧ wM ρ w' m = w' := by
  cases m <;> simp [pureM] at hp <;> exact ⟨rfl, rfl, rfl⟩
theorem run_pure (o : Oper) (hp : pureM (cm P o) = true) (h : okM ρ w (cm P o)) (w' : World) : (execOp (ev ρ) o).run P w' = .ok (.value (vM ρ w (cm P o))) w' := by
  obtain ⟨h1, h2, h3⟩ := okM_pure (ρ := ρ) (w := w) hp w'
  rcases run_cmA (P := P) (w := w') o o.op rfl (by rw [← h1] at h; exact h) with h4 | ⟨_, _, n, x, y, h4⟩
  · have h5 : cmA P o o.op = cm P o := rfl
    rw [h5, h2, h3] at h4; exact h4
  · have h5 : cmA P o o.op = cm P o := rfl
    rw [h5] at h4; rw [h4] at hp; simp [pureM] at hp

theorem cmA_cases (o : Oper) (p : Op) (ho : o.op = p) : (∃ f args c, cmA P o p = .call f args ∧ o.op = .call c ∧ c.callee = .value (.func f) ∧ ownFn P f = true ∧ args = c.args.toList) ∨ (cmA P o p = .raw o.op o.type) ∨ ((∀ f args, cmA P o p ≠ .call f args) ∧ ∀ op ty, cmA P o p ≠ .raw op ty) := by
  unfold cmA
  split
  case h_12 c =>
    unfold cmCall
    split
    · split
      · split
        · simp
        · split <;> simp
      · simp
    · rename_i f hf
      split
      · rename_i hown
        exact .inl ⟨f, _, c, rfl, ho, hf, hown, rfl⟩
      · simp
    · simp
  case h_13 =>
    unfold cmSlice
    split
    · split
      · simp
      · split
        · split <;> simp
        · simp
    · simp
  case h_16 =>
    unfold cmFad
    split
    · split
      · split <;> simp
      · simp
    · simp
  case h_17 =>
    unfold cmFld
    split
    · split <;> simp
    · simp
  case h_18 =>
    unfold cmBld
    split
    · split <;> simp
    · simp
  case h_19 =>
    unfold cmBsl
    split
    · split
      · split <;> simp
      · simp
    · simp
  case h_4 =>
    split
    · simp
    · split
      · simp
      · split
        · unfold cmEqA
          split
          · split
            · simp
            · split <;> simp
          · simp
        · simp
  case h_6 =>
    split
    · simp
    · simp
    · split <;> simp
    · simp
  case h_10 =>
    split
    · split <;> simp
    · simp
  all_goals first | (simp; done) | (split <;> simp)
theorem cm_cases (o : Oper) : (∃ f args c, cm P o = .call f args ∧ o.op = .call c ∧ c.callee = .value (.func f) ∧ ownFn P f = true ∧ args = c.args.toList) ∨ (cm P o = .raw o.op o.type) ∨ ((∀ f args, cm P o ≠ .call f args) ∧ ∀ op ty, cm P o ≠ .raw op ty) := cmA_cases o o.op rfl

theorem cm_call (o : Oper) (f : Nat) (args : List Operand) (h : cm P o = .call f args) : (execOp (ev ρ) o).run P w = .ok (.enter f (args.map (ev ρ)).toArray) w := by
  rcases cm_cases (P := P) o with ⟨f', args', c, h1, h2, h3, h4, h5⟩ | h1 | ⟨h1, _⟩
  · rw [h1] at h
    injection h with e1 e2
    subst e1; subst e2; subst h5
    rw [run_call o f' c h2 h3 h4]
    congr 2
    rw [← List.map_toArray]
  · rw [h1] at h; simp at h
  · exact absurd h (h1 f args)
theorem cm_raw (o : Oper) (op : Op) (ty : TypeId) (h : cm P o = .raw op ty) : op = o.op ∧ ty = o.type := by
  rcases cm_cases (P := P) o with ⟨f', args', c, h1, _⟩ | h1 | ⟨_, h1⟩
  · rw [h1] at h; simp at h
  · rw [h1] at h; injection h with h h'; exact ⟨h.symm, h'.symm⟩
  · exact absurd h (h1 op ty)

theorem OS_sound (o : Oper) (next : Fr → World → Prop) (a : Act) (Q : Exit → Act → World → Prop) (hr : Rel n a ρ) (hd : ∀ k, o.dst = some k → k < n) (h : OS P o.dst (cm P o) ρ w next) :
    o.wp P a w (fun a' w' => ∃ ρ', Rel n a' ρ' ∧ next ρ' w') Q := by
  unfold Oper.wp
  rw [hr.evalF]
  by_cases hc : ∃ f args, cm P o = .call f args
  · obtain ⟨f, args, hc⟩ := hc
    rw [cm_call o f args hc, Oper.upon_enter]
    rw [hc] at h
    simp only [OS, CallK, Ret] at h
    refine Calls.mono h fun e w' ⟨v, he, hn⟩ => ?_
    subst he
    exact ⟨_, hr.put o.dst v hd, hn⟩
  · by_cases hw : ∃ op ty, cm P o = .raw op ty
    · obtain ⟨op, ty, hw⟩ := hw
      obtain ⟨rfl, rfl⟩ := cm_raw o op ty hw
      rw [hw] at h
      simp only [OS, RawK] at h
      have he : execOp (ev ρ) (opr o.op o.type) = execOp (ev ρ) o := rfl
      rw [he] at h
      rcases h with ⟨v, w', h1, h2⟩ | ⟨w', h1, h2⟩ | ⟨f, args, w', h1, h2⟩
      · rw [h1, Oper.upon_value]; exact ⟨_, hr.put _ v hd, h2⟩
      · rw [h1, Oper.upon_skip]; exact ⟨_, hr.put _ undef hd, h2⟩
      · rw [h1, Oper.upon_enter]
        refine Calls.mono h2 fun e w' ⟨v, he, hn⟩ => ?_
        subst he
        exact ⟨_, hr.put o.dst v hd, hn⟩
    · have hok : okM ρ w (cm P o) ∧ next (updO ρ o.dst (vM ρ w (cm P o))) (wM ρ w (cm P o)) := by
        generalize cm P o = m at *
        cases m <;> first | exact h | (exfalso; exact hc ⟨_, _, rfl⟩) | (exfalso; exact hw ⟨_, _, rfl⟩)
      rcases run_cm o hok.1 with h1 | ⟨h1, h2⟩
      · rw [h1, Oper.upon_value]; exact ⟨_, hr.put _ _ hd, hok.2⟩
      · rw [h1, Oper.upon_skip, ← h2]; exact ⟨_, hr.put _ _ hd, hok.2⟩

/-- A region's operation in short. -/
def cop (P : Program) (ops : Array Oper) (o : Oper) : ML :=
  { g := o.guard.bind fun p => ((ops[p.1]?).bind (·.dst)).map fun s => (s, p.2), d := o.dst, m := cm P o }
def okOp (n : Nat) (ops : Array Oper) (o : Oper) : Bool :=
  (match o.dst with | some k => decide (k < n) | none => true) && (match o.guard with | none => true | some p => ((ops[p.1]?).bind (·.dst)).isSome)

theorem wanted_eq {a : Act} (hr : Rel n a ρ) (ops : Array Oper) (o : Oper) (ho : okOp n ops o = true) :
    Region.wanted o (yielded ops a.tmps) = gF ρ (cop P ops o).g := by
  unfold Region.wanted cop
  simp only [okOp, Bool.and_eq_true] at ho
  cases hg : o.guard with
  | none => simp [gF]
  | some p =>
    obtain ⟨j, b⟩ := p
    have h2 := ho.2
    simp only [hg] at h2
    obtain ⟨s, hs⟩ := Option.isSome_iff_exists.1 h2
    simp only [Option.bind_some, hs, Option.map_some, yielded, gF]
    have := hr.2.2 s
    rw [← this]
    simp only [Array.getD_eq_getD_getElem?]
    cases hx : a.tmps[s]? with
    | none => simp [wantF, undef]
    | some v => cases v <;> simp [wantF]

theorem O_wpList {ops : Array Oper} {K : Fr → World → Prop} : ∀ (l : List Oper) (ρ : Fr) (w : World) (a : Act), (∀ o ∈ l, okOp n ops o = true) → Rel n a ρ → O P K (l.map (cop P ops)) ρ w →
    wpList P ops (fun e a' w' => e = .normal ∧ ∃ ρ', Rel n a' ρ' ∧ K ρ' w') l a w := by
  intro l
  induction l with
  | nil => intro ρ w a _ hr h; exact ⟨rfl, ρ, hr, h⟩
  | cons o l ih =>
    intro ρ w a hl hr h
    have ho := hl o (by simp)
    have hd : ∀ k, o.dst = some k → k < n := by
      intro k hk
      simp only [okOp, hk, Bool.and_eq_true, decide_eq_true_eq] at ho
      exact ho.1
    have hw := wanted_eq (P := P) hr ops o ho
    simp only [List.map_cons, O] at h
    unfold wpList
    rw [hw]
    obtain ⟨t, ht⟩ : ∃ t, t = gF ρ (cop P ops o).g := ⟨_, rfl⟩
    rw [← ht]
    replace h : if t = true then OS P (cop P ops o).d (cop P ops o).m ρ w (O P K (l.map (cop P ops))) else O P K (l.map (cop P ops)) (updO ρ (cop P ops o).d undef) w := by
      rw [ht]; exact h
    clear ht
    cases t
    · simp only [Bool.false_eq_true, if_false] at h ⊢
      exact ih _ w _ (fun o ho => hl o (by simp [ho])) (hr.put _ _ hd) h
    · simp only [if_true] at h ⊢
      left
      refine Oper.wp_mono ?_ (OS_sound o (O P K (l.map (cop P ops))) a _ hr hd h)
      rintro a' w' ⟨ρ', hr', h'⟩
      exact ih ρ' w' a' (fun o ho => hl o (by simp [ho])) hr' h'
end
end Go.Proofs.Ytdhieolfdlkeaaa
