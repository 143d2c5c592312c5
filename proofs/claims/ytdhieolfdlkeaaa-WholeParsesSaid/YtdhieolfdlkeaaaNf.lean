/- The engine, part f: results of whatever kinds; the rewrite rules as one set. -/
import Derived.Test.YtdhieolfdlkeaaaNe
namespace Go.Proofs.Ytdhieolfdlkeaaa
set_option linter.unusedSimpArgs false
set_option linter.unusedVariables false
open Go.RowKit

/-- What a result comes to. -/
def RV (P : Program) (ρ : Fr) (w : World) : ResultVar → Value → Prop
  | .tmp t, v => ρ t = v
  | .cell s t, v => ∃ q, ρ s = .pointer (some q) ∧ (loadVar t q).run P w = .ok v w
section
variable {P : Program} {fn : Func} {n : Nat} {ρ : Fr} {w : World} {r : List MI} {R : Value → World → Prop} {r1 r2 r3 r4 : ResultVar} {v1 v2 v3 v4 : Value}
theorem RV.tmp {t : Nat} : RV P ρ w (.tmp t) (ρ t) := rfl
theorem RV.agg {s t g bt : Nat} {xs : List Value} (hs : ρ s = .pointer (some ⟨g, 0, none⟩)) (hb : Blk w g bt xs.toArray) (ht : aggN P t = some (some xs.length)) : RV P ρ w (.cell s t) (.agg xs.toArray) := by
  obtain ⟨h1, j, h2, h3⟩ := run_isAgg_some (w := w) ht
  have hl : (loadCells ⟨g, 0, none⟩ xs.length).run P w = .ok xs.toArray w := run_loadCells_list w _ xs fun j v hv => by rw [add_blk, hb.cell]; simpa using hv
  exact ⟨_, hs, by simp [loadVar, h1, sizeOf, typeInfo, h2, h3, hl]⟩
theorem RV.one {s t g bt : Nat} {x : Value} (hs : ρ s = .pointer (some ⟨g, 0, none⟩)) (hb : Blk w g bt [x].toArray) (ht : aggN P t = some none) : RV P ρ w (.cell s t) x := by
  have h1 : (isAgg t).run P w = .ok false w := by
    unfold aggN at ht
    cases hu : P.underlying t with
    | none => simp [hu] at ht
    | some d => cases hi : P.info? t <;> cases d <;> simp [hu, hi] at ht <;> simp [isAgg, run_underlying hu]
  exact ⟨_, hs, by simp [loadVar, h1, hb.cell]⟩
def resF (tmps : Array Value) : ResultVar → Sem Value
  | .tmp t => pure (tmps.getD t undef)
  | .cell s t => do loadVar t (← asAddr (tmps.getD s undef))
theorem results_eq (fn : Func) (tmps : Array Value) : results fn tmps = (do let vs ← fn.results.mapM (resF tmps); pure (if h : vs.size = 1 then vs[0] else .tuple vs)) := by
  unfold results
  congr 2
theorem rv_run {a : Act} (hr : Rel n a ρ) (h : RV P ρ w r1 v1) : (resF a.tmps r1).run P w = .ok v1 w := by
  cases r1 with
  | tmp t => simp only [resF, hr.2.2]; simp only [RV] at h; rw [h]; rfl
  | cell s t =>
    obtain ⟨q, h1, h2⟩ := h
    simp only [resF, hr.2.2, h1, asAddr, Sem.run_bind, Sem.run_pure, Result.andThen_ok, h2]
theorem G.rv1 (hf : fn.results = #[r1]) (h1 : RV P ρ w r1 v1) (h : R v1 w) : G P fn n (.c .ret :: r) R ρ w := ret_of (fun a hr => by
  have e1 := rv_run hr h1
  rw [results_eq, hf]
  simp [e1]) h
theorem G.rv2 (hf : fn.results = #[r1, r2]) (h1 : RV P ρ w r1 v1) (h2 : RV P ρ w r2 v2) (h : R (.tuple #[v1, v2]) w) : G P fn n (.c .ret :: r) R ρ w := ret_of (fun a hr => by
  have e1 := rv_run hr h1
  have e2 := rv_run hr h2
  rw [results_eq, hf]
  simp [e1, e2]) h
theorem G.rv3 (hf : fn.results = #[r1, r2, r3]) (h1 : RV P ρ w r1 v1) (h2 : RV P ρ w r2 v2) (h3 : RV P ρ w r3 v3) (h : R (.tuple #[v1, v2, v3]) w) : G P fn n (.c .ret :: r) R ρ w := ret_of (fun a hr => by
  have e1 := rv_run hr h1
  have e2 := rv_run hr h2
  have e3 := rv_run hr h3
  rw [results_eq, hf]
  simp [e1, e2, e3]) h
end
theorem semK_val {P : Program} {s : Sem Value} {w w' : World} {d : Option Nat} {ρ : Fr} {next : Fr → World → Prop} {v : Value} (h : s.run P w = .ok v w') : SemK P s w d ρ next = next (updO ρ d v) w' :=
  propext ⟨fun ⟨v', w'', h1, h2⟩ => by rw [h] at h1; cases h1; exact h2, fun h2 => ⟨_, _, h, h2⟩⟩
/-! ### More rules -/
section
variable {P : Program} {d : Option Nat} {ρ : Fr} {w : World} {next : Fr → World → Prop} {a b : Int} {k : IntKind} {ts : Array TypeId} {ty t t' : TypeId} {x y : Operand}
theorem maxK : SemK P (Builtin.max_ ts ty #[.int k a, .int k b]) w d ρ next = next (updO ρ d (.int k (max a b))) w := by
  have h : (Builtin.max_ ts ty #[.int k a, .int k b]).run P w = .ok (.int k (max a b)) w := by
    simp only [Builtin.max_, List.foldlM_cons, List.foldlM_nil, Builtin.max2, Sem.run_bind, Sem.run_pure, Result.andThen_ok]
    congr 2
    simp only [Int.max_def]
    split <;> split <;> omega
  exact semK_val h
theorem minK : SemK P (Builtin.min_ ts ty #[.int k a, .int k b]) w d ρ next = next (updO ρ d (.int k (min a b))) w := by
  have h : (Builtin.min_ ts ty #[.int k a, .int k b]).run P w = .ok (.int k (min a b)) w := by
    simp only [Builtin.min_, List.foldlM_cons, List.foldlM_nil, Builtin.min2, Sem.run_bind, Sem.run_pure, Result.andThen_ok]
    congr 2
    simp only [Int.min_def]
    split <;> split <;> omega
  exact semK_val h
theorem mkfK {fn : Fn} {xs ys : Array Value} : SemK P (Instr.makeFunc fn xs ys) w d ρ next = next (updO ρ d (.func fn xs ys)) w := semK_val (by simp [Instr.makeFunc])
def isNil : Value → Bool
  | .slice none _ _ | .map none | .pointer none | .nilFunc => true
  | _ => false
theorem eq_nilS {v : Value} {e : TypeId} (hu : P.underlying t = some (.slice e)) (hv : isL v = True) : (Op.equal t v (.slice none 0 0)).run P w = .ok (isNil v) w := by
  cases v <;> simp [isL] at hv
  rename_i a n c
  have e0 : ∀ dd, (Op.equalIn (dd + 1) t (.slice a n c) (.slice none 0 0)).run P w = .ok (isNil (.slice a n c)) w := fun dd => by
    cases a <;> simp [Op.equalIn, run_underlying hu, isNil]
  simpa [Op.equal, Op.maxDepth] using e0 9999
theorem eq_nilP {p : Option Addr} {e : TypeId} (hu : P.underlying t = some (.pointer e)) : (Op.equal t (.pointer p) (.pointer none)).run P w = .ok (isNil (.pointer p)) w := by
  have e0 : ∀ dd, (Op.equalIn (dd + 1) t (.pointer p) (.pointer none)).run P w = .ok (isNil (.pointer p)) w := fun dd => by
    cases p <;> simp [Op.equalIn, run_underlying hu, isNil]
  simpa [Op.equal, Op.maxDepth] using e0 9999
theorem nilS_e {v : Value} {e : TypeId} {sz bt : Nat} {zs : List Value} (hu : SlT P t e sz bt zs) (hv : isL v = True) (h : next (updO ρ d (.bool (isNil v))) w) : SemK P (do eqGuard .eql t x y v (.slice none 0 0); binOp .eql t v (.slice none 0 0)) w d ρ next := by
  have h1 := eq_nilS (w := w) hu.u hv
  cases v <;> simp [isL] at hv
  exact ⟨_, w, by simp [eqGuard, binOp, h1], h⟩
theorem nilS_n {v : Value} {e : TypeId} {sz bt : Nat} {zs : List Value} (hu : SlT P t e sz bt zs) (hv : isL v = True) (h : next (updO ρ d (.bool (!(isNil v)))) w) : SemK P (do eqGuard .neq t x y v (.slice none 0 0); binOp .neq t v (.slice none 0 0)) w d ρ next := by
  have h1 := eq_nilS (w := w) hu.u hv
  cases v <;> simp [isL] at hv
  exact ⟨_, w, by simp [eqGuard, binOp, h1], h⟩
theorem nilP_e {p : Option Addr} {e : TypeId} (hu : PtT P t e) (h : next (updO ρ d (.bool (isNil (.pointer p)))) w) : SemK P (do eqGuard .eql t x y (.pointer p) (.pointer none); binOp .eql t (.pointer p) (.pointer none)) w d ρ next :=
  ⟨_, w, by simp [eqGuard, binOp, eq_nilP hu.u], h⟩
theorem nilP_n {p : Option Addr} {e : TypeId} (hu : PtT P t e) (h : next (updO ρ d (.bool (!(isNil (.pointer p))))) w) : SemK P (do eqGuard .neq t x y (.pointer p) (.pointer none); binOp .neq t (.pointer p) (.pointer none)) w d ρ next :=
  ⟨_, w, by simp [eqGuard, binOp, eq_nilP hu.u], h⟩
theorem isNil_p {a : Addr} : isNil (.pointer (some a)) = false := rfl
theorem isNil_pn : isNil (.pointer none) = true := rfl
theorem isNil_sn {n c : Nat} : isNil (.slice none n c) = true := rfl
theorem i64_add (h : -9223372036854775808 ≤ a + b ∧ a + b ≤ 9223372036854775807) : IntKind.i64.wrap (a + b) = a + b := IntWalk.i64_in _ h
theorem i64_sub (h : -9223372036854775808 ≤ a - b ∧ a - b ≤ 9223372036854775807) : IntKind.i64.wrap (a - b) = a - b := IntWalk.i64_in _ h
theorem i64_id (h : -9223372036854775808 ≤ a ∧ a ≤ 9223372036854775807) : IntKind.i64.wrap a = a := IntWalk.i64_in _ h
theorem u8_id (h : 0 ≤ a ∧ a ≤ 255) : IntKind.u8.wrap a = a := IntWalk.u8_in _ h
end
/-! ### Parts of slices -/
section
variable {α : Type} {w : World} {e : Enc α} {v : Value} {xs : List α} {k k' : IntKind} {a b : Int} {n : Nat}
theorem Rd.slh (h : Rd w e v xs) (hs : e.sz = n) (hb : 0 ≤ b ∧ b ≤ (xs.length : Int)) : Rd w e (slVV n none (some (.int k b)) v) (xs.take b.toNat) := by
  obtain ⟨p, cap, rfl, h2, h3, h4, h5⟩ := h
  have hl : (xs.take b.toNat).length = b.toNat := by simp; omega
  refine ⟨if cap = 0 then p else p.map (·.add 0), cap, ?_, by omega, by omega, fun u hu => h4 u ?_, fun h0 => ?_⟩
  · simp [slVV, loN, hiN, hl]
  · obtain ⟨x, hx, hu⟩ := List.mem_flatMap.1 hu
    exact List.mem_flatMap.2 ⟨x, List.mem_of_mem_take hx, hu⟩
  · obtain ⟨a, ha, hc⟩ := h5 (by omega)
    refine ⟨a, by simp [ha, add_0], fun j u hj => hc j u ?_⟩
    have e1 : xs = xs.take b.toNat ++ xs.drop b.toNat := (List.take_append_drop _ xs).symm
    rw [e1, List.flatMap_append, List.getElem?_append_left]
    · exact hj
    · rcases Nat.lt_or_ge j ((xs.take b.toNat).flatMap e.f).length with q | q
      · exact q
      · rw [List.getElem?_eq_none q] at hj; cases hj
theorem Rd.sll (h : Rd w e v xs) (hs : e.sz = n) (hp : 0 < n) (hb : 0 ≤ a ∧ a ≤ (xs.length : Int)) : Rd w e (slVV n (some (.int k a)) none v) (xs.drop a.toNat) := by
  subst hs
  obtain ⟨p, cap, rfl, h2, h3, h4, h5⟩ := h
  have hl : (xs.drop a.toNat).length = xs.length - a.toNat := by simp
  refine ⟨if cap = a.toNat then p else p.map (·.add (a.toNat * e.sz)), cap - a.toNat, ?_, by omega, by omega, fun u hu => h4 u ?_, fun h0 => ?_⟩
  · simp only [slVV, loN, hiN, hl, Int.toNat_natCast]
    by_cases hq : cap = a.toNat <;> simp [hq]
  · obtain ⟨x, hx, hu⟩ := List.mem_flatMap.1 hu
    exact List.mem_flatMap.2 ⟨x, List.mem_of_mem_drop hx, hu⟩
  · obtain ⟨q, ha, hc⟩ := h5 (by omega)
    have hsp : q.spot = none := by
      have h0 : (xs.flatMap e.f)[0]? = some ((xs.flatMap e.f)[0]'(by rw [flat_len]; exact Nat.mul_pos (by omega) (by omega))) := List.getElem?_eq_getElem _
      have := hc _ _ h0
      simpa [Addr.add] using cell_spot this
    have hne : ¬ cap = a.toNat := by omega
    refine ⟨q.add (a.toNat * e.sz), by simp [ha, hne], fun j u hj => ?_⟩
    rw [add_add _ _ _ hsp]
    refine hc _ u ?_
    have e1 : xs = xs.take a.toNat ++ xs.drop a.toNat := (List.take_append_drop _ xs).symm
    have e2 : ((xs.take a.toNat).flatMap e.f).length = a.toNat * e.sz := by rw [flat_len, List.length_take, Nat.min_eq_left (by omega)]
    rw [e1, List.flatMap_append, ← e2, List.getElem?_append_right (by omega), Nat.add_sub_cancel_left]
    exact hj
theorem okSlV_h (h : Rd w e v xs) (hb : 0 ≤ b ∧ b ≤ (xs.length : Int)) : okSlV none (some (.int k b)) v = True := by
  obtain ⟨p, cap, rfl, h2, _⟩ := h
  simp only [okSlV, okI, loN, hiN, eq_iff_iff, iff_true, true_and]
  omega
theorem okSlV_l (h : Rd w e v xs) (hb : 0 ≤ a ∧ a ≤ (xs.length : Int)) : okSlV (some (.int k a)) none v = True := by
  obtain ⟨p, cap, rfl, h2, _⟩ := h
  simp only [okSlV, okI, loN, hiN, eq_iff_iff, iff_true, true_and]
  omega
end
theorem okNck_p {a : Addr} : okNck (.pointer (some a)) = True := rfl
theorem mget_s {β : Type} {enc : β → Value} {z : Value} {b : β} : mget enc z (some b) = enc b := rfl
theorem mget_n {β : Type} {enc : β → Value} {z : Value} : mget enc z none = z := rfl
attribute [push_cast] beq_self_eq_true bne_self_eq_false eq_self okNck_p mget_s mget_n Option.isSome_some Option.isSome_none O_nil O_gt O_call O_mv O_pick O_bin O_eqb O_eqA O_un O_cvi O_cvs O_b2s O_len O_lenS O_idxS O_adr O_ld O_fad O_fld O_ext O_slS O_slV O_nck O_bld Q_nil Q_gt Q_call Q_mv Q_pick Q_bin Q_eqb Q_eqA Q_un Q_cvi Q_cvs Q_b2s Q_len Q_lenS Q_idxS Q_adr Q_ld Q_fad Q_fld Q_ext Q_slS Q_slV Q_nck Q_bld upd_at decide_true decide_false Bool.and_true Bool.true_and Bool.and_false Bool.false_and Bool.or_false Bool.or_true Bool.true_or Bool.false_or Bool.and_self Bool.or_self Bool.false_eq_true frL ev updO okB_add okB_sub okB_mul okB_eql okB_neq okB_lss okB_leq okB_gtr okB_geq valB_add valB_sub valB_mul valB_quo valB_rem valB_eql valB_neq valB_lss valB_leq valB_gtr valB_geq okB_quo okB_rem okU_neg okU_not valU_neg valU_not eqbV_t eqbV_f cviV_i okE20 exV20 okE21 exV21 okE30 exV30 okE31 exV31 okE32 exV32 okE40 exV40 okE41 exV41 okE42 exV42 okE43 exV43 tdiv_pos tmod_pos isB_b isI_i Int.toNat_natCast Int.toNat_zero Int.toNat_one okB2s_1 okB2s_2 okB2s_3 okB2s_4 b2sV_1 b2sV_2 b2sV_3 b2sV_4 layL_n okLay_n evP_n evP_c List.set_cons_zero List.set_cons_succ okEqA_a okEqL_n okEqL_i okEqL_s okEqL_b eqAV_t eqAV_f eqL_n eqL_i eqL_s eqL_b isS_S lenV_S okIdxS_S idxSV_S okB_addS okB_eqlS okB_neqS okB_lssS okB_leqS okB_gtrS okB_geqS valB_addS valB_eqlS valB_neqS valB_lssS valB_leqS valB_gtrS valB_geqS okSlS_lh okSlS_l okSlS_h okSlS_n slSV_lh slSV_l slSV_h slSV_n pick_t pick_f pick_if Bool.true_eq_false wantF_b wantF_bf wantF_u Bool.not_true Bool.not_false brO_t brO_f brQ_t brQ_f not_true or_false false_and not_true_eq_false Option.map_some Option.map_none and_true true_and and_self List.map_cons List.map_nil List.size_toArray List.length_cons List.length_nil O_app O_cpy O_dlt O_max O_min O_clr O_len' O_cap O_mks O_mkm O_lkp O_box O_mkf O_men O_slc O_cnv O_idx O_ixa O_mkif O_tas O_mup O_est O_bop O_cv O_stK O_alcK O_bslK okFad_p fadV_p lenV_rd isL_rd okAdr_rd okLd1_rd ldV1_rd okLdN_rd ldVN_rd okFad_rd okLdF_rd ldVF_rd okLd_b ldV_b okLdN_b ldVN_b okFld_1 fldV_1 okFld_n fldV_n cells_agg setL_n setL_c layL_a okLay_a layL_o okLay_o eS_f eI_f eU_f eB_f eV_f List.getD_cons_zero List.getD_cons_succ List.drop_zero List.drop_succ_cons List.take_succ_cons List.take_zero List.take_nil List.drop_nil i64_add i64_sub i64_id u8_id maxK minK mkfK isNil_p isNil_pn isNil_sn okSlV_h okSlV_l
end Go.Proofs.Ytdhieolfdlkeaaa
