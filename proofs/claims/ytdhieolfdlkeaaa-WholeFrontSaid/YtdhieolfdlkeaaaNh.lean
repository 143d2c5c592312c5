/- The engine, part h: regions that draw their order, each order walked. -/
import Derived.Test.YtdhieolfdlkeaaaNg
import Derived.Orders
import Derived.StillTail
import Derived.Deep.Quiet
namespace Go.Proofs.Ytdhieolfdlkeaaa
set_option linter.unusedSimpArgs false
set_option linter.unusedVariables false
open Go.RowKit

def OT (P : Program) (K : Fr → World → Prop) : DT → Fr → World → Prop
  | .leaf ops, ρ, w => O P K ops ρ w
  | .br ops a b, ρ, w => O P (fun ρ' w' => OT P K a ρ' w' ∧ OT P K b ρ' w') ops ρ w
  | .tail l p, ρ, w => Q P (fun ρ' => ∀ w', Ext w w' → O P K p ρ' w') w l ρ
/-! A region whose head is quiet in a class of worlds, and whose tail is a chain. -/
section
variable {P : Program} {ops : Array Oper} {md : Region.Mode} {C : World → Prop}
def anyHead (P : Program) (md : Region.Mode) (ops : Array Oper) (C : World → Prop) (n : Nat) (L : Array Bool → Act → Prop) : Nat → Array Bool → Act → Prop
  | 0, listed, a => L listed a
  | f + 1, listed, a => Region.ready md ops listed ≠ [] ∧ ∀ i ∈ Region.ready md ops listed, i < n ∧ qOp P ops C i (anyHead P md ops C n L f (listed.setIfInBounds i true)) a
theorem any_of_head {n g : Nat} {L : Array Bool → Act → Prop} {R : Exit → Act → World → Prop} (hL : ∀ listed a w, C w → L listed a → wpAny P md ops R g listed a w) :
    ∀ (f : Nat) (listed : Array Bool) (a : Act) (w : World), C w → anyHead P md ops C n L f listed a → wpAny P md ops R (f + g) listed a w
  | 0, listed, a, w, hw, h => by rw [Nat.zero_add]; exact hL _ _ _ hw h
  | f + 1, listed, a, w, hw, h => by
    rw [show f + 1 + g = (f + g) + 1 by omega]
    exact ⟨fun h0 => absurd h0 h.1, fun i hi => wpOp_of_qOp hw (fun a' w' hw' h' => any_of_head hL f _ a' w' hw' h') (h.2 i hi).2⟩
theorem head_first {n i : Nat} {oi : Oper} {v : Value} {L : Array Bool → Act → Prop} (hi : ops[i]? = some oi) (hsel : ∀ (j : Nat) (o : Oper) cs b, ops[j]? = some o → o.op ≠ .select cs b)
    (hs : Region.sinkB md ops n = true) (hc : Region.chainB md ops n = true) (hn : n < ops.size) (hin : i < n) (hdone : ∀ listed a, L listed a → ∀ j ∈ Region.ready md ops listed, n ≤ j) :
    ∀ (f : Nat) (listed : Array Bool) (a : Act), HeadInv md ops n listed →
      (∀ j oj, ops[j]? = some oj → j ≠ i → listed.getD j true = false → (∀ e ∈ oj.after, Region.binds md e = true → e.on ≠ i) → oi.apart ops oj = true) →
      i ∈ Region.ready md ops listed → YieldsIn P ops C oi v a → anyHead P md ops C n L f (listed.setIfInBounds i true) (a.put oi.dst v) → anyHead P md ops C n L (f + 1) listed a := by
  intro f
  induction f with
  | zero =>
    intro listed a inv _ hr hy H
    have hun := (mem_ready.1 hr).1
    refine ⟨fun h => (by rw [h] at hr; cases hr), fun j hj => ?_⟩
    have hjn : j < n := (Nat.lt_or_ge j n).resolve_right fun h => tail_waits hs hc hn inv _ i rfl hin hun j h hj
    refine ⟨hjn, ?_⟩
    by_cases hji : j = i
    · subst hji; exact hy.qOp hi H
    · have := hdone _ _ H j (ready_mono hj hji)
      omega
  | succ f ih =>
    intro listed a inv hfree hr hy H
    have hun := (mem_ready.1 hr).1
    refine ⟨fun h => (by rw [h] at hr; cases hr), fun j hj => ?_⟩
    have hjn : j < n := (Nat.lt_or_ge j n).resolve_right fun h => tail_waits hs hc hn inv _ i rfl hin hun j h hj
    refine ⟨hjn, ?_⟩
    by_cases hji : j = i
    · subst hji; exact hy.qOp hi H
    · have h1 := (H.2 j (ready_mono hj hji)).2
      obtain ⟨hjun, oj, hoj, hall⟩ := mem_ready.1 hj
      have hnot : ∀ e ∈ oj.after, Region.binds md e = true → e.on ≠ i := fun e he hb heq => by
        have h1 := hall e he hb
        rw [heq, getD_both hun] at h1
        cases h1
      have h2 := qOp_put hoj (hfree j oj hoj hji hjun hnot) (fun cs b => hsel i oi cs b hi) (fun cs b => hsel j oj cs b hoj) hy h1
      refine qOp_mono (fun a' h3 => ih (listed.setIfInBounds j true) a' (inv.set hj hjn) (fun k ok hk hki hun hno => ?_) (ready_mono hr (Ne.symm hji)) h3.1 ?_) h2
      · refine hfree k ok hk hki ?_ hno
        by_cases hjk : j = k
        · subst hjk; exact hjun
        · rw [getD_set_ne true hjk] at hun; exact hun
      · rw [Array.setIfInBounds_comm _ _ hji]
        exact h3.2
theorem head_lex {n g : Nat} {Lq : Act → Prop} (hsel : Region.noSelect ops = true) (hs : Region.sinkB md ops n = true) (hc : Region.chainB md ops n = true) (hn : n < ops.size) :
    ∀ (l : List Oper) (k : Nat) (listed : Array Bool) (a : Act), (∀ j, j < l.length → l[j]? = ops[k + j]?) → k + l.length = n → HeadInv md ops n listed →
    Region.lexHead md ops g l.length k listed = true → wpQuiet P ops C Lq l a → anyHead P md ops C n (fun listed' a' => Region.seqB md ops g n listed' = true ∧ Lq a') l.length listed a
  | [], k, listed, a, _, hk, _, hB, h => by
    have : k = n := by simpa using hk
    subst this
    exact ⟨by simpa [Region.lexHead] using hB, h⟩
  | o :: l, k, listed, a, hl, hk, inv, hB, h => by
    have h0 : ops[k]? = some o := by simpa using (hl 0 (by simp)).symm
    simp only [List.length_cons, Region.lexHead, Bool.and_eq_true] at hB
    obtain ⟨⟨hr, hf⟩, hB'⟩ := hB
    have hkn : k < n := by simp only [List.length_cons] at hk; omega
    have hr' : k ∈ Region.ready md ops listed := by simpa using hr
    have hst : qOp P ops C k (wpQuiet P ops C Lq l) a := by unfold qOp; simp only [h0]; exact h
    obtain ⟨v, hy, hK⟩ := yieldsIn_of_qOp h0 hst
    exact head_first h0 (Region.noSelect_spec hsel) hs hc hn hkn (fun listed' a' hL => seqB_ready hL.1) l.length listed a inv (Region.free_spec h0 hf) hr' hy
      (head_lex hsel hs hc hn l (k + 1) _ _ (fun j hj => by have := hl (j + 1) (by simp; omega); simpa [Nat.add_assoc, Nat.add_comm 1 j] using this) (by simp only [List.length_cons] at hk; omega) (inv.set hr' hkn) hB' hK)
theorem wp_quiet_tail {id : Nat} {R : Exit → Act → World → Prop} {a : Act} {w : World} (n : Nat) (hm : P.follows .mixedOrders = true) (hB : Region.lexTailB .any ops n = true) (hC : C { w with drawn := w.drawn + 1 })
    (h : wpQuiet P ops C (fun a' => ∀ w', C w' → wpList P ops R (ops.toList.drop n) a' w') (ops.toList.take n) a) : (Code.region id ops true).wp P R a w := by
  simp only [Region.lexTailB, Bool.and_eq_true, decide_eq_true_eq] at hB
  obtain ⟨⟨⟨⟨hsel, hn⟩, hs⟩, hc⟩, hlex⟩ := hB
  have hn' : n < ops.toList.length := by simpa using hn
  have htl : (ops.toList.take n).length = n := by rw [List.length_take]; omega
  have hdl : (ops.toList.drop n).length = ops.size - n := by simp
  have inv0 : HeadInv .any ops n (Array.replicate ops.size false) :=
    ⟨by simp, fun j oj _ hl => (by rw [getD_replicate_false] at hl; cases hl), fun t _ ht => getD_in (by simpa using ht) (getD_replicate_false _ _)⟩
  have H := head_lex (md := .any) (g := ops.size - n) hsel hs hc hn (ops.toList.take n) 0 _ a (fun j hj => by
    have hj' : j < n := by rw [htl] at hj; exact hj
    rw [List.getElem?_take, if_pos hj']; simp) (by simpa using htl) inv0 (by rw [htl]; exact hlex) h
  refine wp_region_any hm ?_
  have := any_of_head (R := R) (g := ops.size - n) (fun listed a' w' hw' hL => by
    have := wpAny_of_seq (md := .any) (Q' := R) (ops.toList.drop n) n listed a' w' (fun j => by simp [List.getElem?_drop]) (by rw [hdl]; exact hL.1) (hL.2 w' hw')
    rwa [hdl] at this) _ _ _ _ hC H
  rw [htl, show n + (ops.size - n) = ops.size by omega] at this
  exact this
end
section
variable {P : Program} {K : Fr → World → Prop} {ρ : Fr} {w : World} {n : Nat}
theorem OT_leaf {ops : List ML} (h : O P K ops ρ w) : OT P K (.leaf ops) ρ w := h
theorem OT_br {ops : List ML} {a b : DT} (h : ∀ K2 : Fr → World → Prop, (∀ ρ w, OT P K a ρ w → OT P K b ρ w → K2 ρ w) → O P K2 ops ρ w) : OT P K (.br ops a b) ρ w := h _ fun _ _ h1 h2 => ⟨h1, h2⟩
/-- One operation, and then. -/
def O1 (P : Program) (m : ML) (next : Fr → World → Prop) (ρ : Fr) (w : World) : Prop := if gF ρ m.g = true then OS P m.d m.m ρ w next else next (updO ρ m.d undef) w
theorem OT_cons {m : ML} {t : DT} : OT P K (t.cons m) ρ w ↔ O1 P m (OT P K t) ρ w := by
  cases t with
  | leaf _ => exact Iff.rfl
  | br _ _ _ => exact Iff.rfl
  | tail l p => simp only [DT.cons, OT, and_self]; exact Iff.rfl
theorem OT_tail {l p : List ML} (h : ∀ K2 : Fr → Prop, (∀ ρ', (∀ w', Ext w w' → O P K p ρ' w') → K2 ρ') → Q P K2 w l ρ) : OT P K (.tail l p) ρ w := h _ fun _ h => h
theorem ready_nil {ops : Array Oper} {listed : Array Bool} (h : (Region.ready .any ops listed).isEmpty = true) : Region.ready .any ops listed = [] := by simpa using h
theorem O1_wpOp {ops : Array Oper} {i : Nat} {o : Oper} {a : Act} {next : Fr → World → Prop} {Q : Exit → Act → World → Prop} (hi : ops[i]? = some o) (ho : okOp n ops o = true) (hr : Rel n a ρ) (h : O1 P (cop P ops o) next ρ w) :
    wpOp P ops Q i (fun a' w' => ∃ ρ', Rel n a' ρ' ∧ next ρ' w') a w := by
  have hd : ∀ k, o.dst = some k → k < n := by
    intro k hk
    simp only [okOp, hk, Bool.and_eq_true, decide_eq_true_eq] at ho
    exact ho.1
  have hw := wanted_eq (P := P) hr ops o ho
  unfold wpOp
  simp only [hi]
  rw [hw]
  unfold O1 at h
  by_cases hg : gF ρ (cop P ops o).g = true
  · rw [if_pos hg] at h
    rw [if_pos hg]
    left
    exact OS_sound o next a _ hr hd h
  · rw [if_neg hg] at h
    rw [if_neg hg]
    exact ⟨_, hr.put _ _ hd, h⟩
theorem fork_all {f : Nat → Option DT} : ∀ {rs : List Nat} {t : DT}, DT.fork f rs = some t → OT P K t ρ w → ∀ i ∈ rs, ∃ t', f i = some t' ∧ OT P K t' ρ w
  | [], t, h, _ => by simp [DT.fork] at h
  | [j], t, h, ht => by
    intro i hi
    simp at hi; subst hi
    exact ⟨t, h, ht⟩
  | j :: j2 :: r, t, h, ht => by
    simp only [DT.fork] at h
    split at h
    · rename_i a b ha hb
      split at h
      · simp at h; subst h
        obtain ⟨h1, h2⟩ : OT P K a ρ w ∧ OT P K b ρ w := ht
        intro i hi
        rcases List.mem_cons.1 hi with rfl | hi
        · exact ⟨a, ha, h1⟩
        · exact fork_all hb h2 i hi
      · simp at h
    · simp at h
theorem buildT_sound {ops : Array Oper} (hall : ∀ o ∈ ops.toList, okOp n ops o = true) (hsel : Region.noSelect ops = true) :
    ∀ (fuel : Nat) (listed : Array Bool) (t : DT) (ρ : Fr) (a : Act) (w : World), buildT P ops fuel listed = some t → Rel n a ρ → OT P K t ρ w →
      wpAny P .any ops (fun e a' w' => e = .normal ∧ ∃ ρ', Rel n a' ρ' ∧ K ρ' w') fuel listed a w := by
  have hmem : ∀ {i : Nat} {o : Oper}, ops[i]? = some o → okOp n ops o = true := fun h => hall _ (Array.mem_toList_iff.2 (Array.mem_of_getElem? h))
  intro fuel
  induction fuel with
  | zero =>
    intro listed t ρ a w h hr ht
    simp only [buildT] at h
    split at h
    · rename_i he
      simp at h; subst h
      exact ⟨ready_nil he, rfl, ρ, hr, ht⟩
    · simp at h
  | succ fuel ih =>
    intro listed t ρ a w h hr ht
    simp only [buildT] at h
    split at h
    · rename_i he
      simp at h; subst h
      exact wpAny_done (ready_nil he) ⟨rfl, ρ, hr, ht⟩ _
    · rename_i hne
      split at h
      · rename_i i hf
        have h1 := List.find?_some hf
        have h2 := List.mem_of_find?_eq_some hf
        simp only [Bool.and_eq_true] at h1
        split at h
        · rename_i o hi
          rw [hi] at h1
          simp only [Option.map_eq_some_iff] at h
          obtain ⟨t', ht', rfl⟩ := h
          rw [OT_cons] at ht
          have ho := hmem hi
          have hd : ∀ k, o.dst = some k → k < n := by
            intro k hk
            simp only [okOp, hk, Bool.and_eq_true, decide_eq_true_eq] at ho
            exact ho.1
          have hw := wanted_eq (P := P) hr ops o ho
          unfold O1 at ht
          by_cases hg : gF ρ (cop P ops o).g = true
          · rw [if_pos hg] at ht
            have hpure : pureM (cm P o) = true := h1.2
            have hm : okM ρ w (cm P o) ∧ OT P K t' (updO ρ o.dst (vM ρ w (cm P o))) w := by
              have e : OS P o.dst (cm P o) ρ w (OT P K t') := ht
              have hwM := (okM_pure (ρ := ρ) (w := w) hpure w).2.2
              revert e hwM hpure
              generalize cm P o = m
              intro hpure e hwM
              cases m <;> first | exact e | exact absurd hpure (by simp [pureM])
            refine wpAny_take (v := vM ρ w (cm P o)) hi hsel h1.1 (by simpa using h2) (fun c a w hq => by cases hq.1) (.inl ⟨by rw [hw]; exact hg, fun w' => ?_⟩) (ih _ _ _ _ _ ht' (hr.put _ _ hd) hm.2)
            rw [hr.evalF]
            exact run_pure o hpure hm.1 w'
          · rw [if_neg hg] at ht
            exact wpAny_take (v := undef) hi hsel h1.1 (by simpa using h2) (fun c a w hq => by cases hq.1) (.inr ⟨by rw [hw]; simpa using hg, rfl⟩) (ih _ _ _ _ _ ht' (hr.put _ _ hd) ht)
        · simp at h
      · refine wpAny_all rfl (fun e => hne (by simp [e])) fun i hi => ?_
        obtain ⟨t', h1, h2⟩ := fork_all h ht i hi
        split at h1
        · rename_i o ho
          simp only [Option.map_eq_some_iff] at h1
          obtain ⟨t2, h3, rfl⟩ := h1
          rw [OT_cons] at h2
          refine wpOp_mono ?_ (O1_wpOp ho (hmem ho) hr h2)
          rintro a' w' ⟨ρ', hr', h4⟩
          exact ih _ _ _ _ _ h3 hr' h4
        · simp at h1
theorem G.drt {fn : Func} {r : List MI} {R : Value → World → Prop} {ops : List ML} {t : DT} (hm : P.follows .mixedOrders = true)
    (h : ∀ K : Fr → World → Prop, (∀ ρ w, G P fn n r R ρ w → K ρ w) → ∀ wd, Ext w wd → OT P K t ρ wd) : G P fn n (.c (.drg ops (some t)) :: r) R ρ w := fun k hk => by
  obtain ⟨x, k', rfl, hx, hk'⟩ := corr_c hk
  obtain ⟨id, os, rfl, hall, hlex, rfl, ht⟩ := conv_drg hx
  have hb : (Region.noSelect os = true ∧ buildT P os os.size (Array.replicate os.size false) = some t) ∨ tailOf P os = some t := by
    unfold treeOf at ht
    split at ht
    · simp at ht
    · rename_i h0
      simp only [Bool.or_eq_true, not_or, Bool.not_eq_true, Bool.not_eq_false'] at h0
      split at ht
      · rename_i t' h1
        split at ht
        · simp at ht; subst ht; exact .inl ⟨h0.2, h1⟩
        · exact .inr ht.symm
      · exact .inr ht.symm
  rcases hb with hb | hb
  · refine Run.region_wp fun a hr => wp_region_any hm ?_
    have hdr : Ext w w.drew := (Ext.refl w).drew
    have := buildT_sound (K := fun ρ w => Run P fn n k' R ρ w) (fun o ho => List.all_eq_true.1 hall o ho) hb.1 os.size (Array.replicate os.size false) t ρ a w.drew hb.2 hr (h _ (fun _ _ h => h k' hk') w.drew hdr)
    exact this
  · unfold tailOf at hb
    split at hb
    · rename_i hB
      simp only [Option.some.injEq] at hb
      subst hb
      refine Run.region_wp fun a hr => wp_quiet_tail (C := Ext w) (headN P os) hm hB ((Ext.refl w).drew) ?_
      have hq := h (fun ρ w => Run P fn n k' R ρ w) (fun _ _ h => h k' hk') w (Ext.refl w)
      have ha : ∀ o ∈ os.toList, okOp n os o = true := fun o ho => List.all_eq_true.1 hall o ho
      have := Q_wpQuiet (n := n) (w := w) (ops := os) (os.toList.take (headN P os)) ρ a (fun o ho => ha o (List.mem_of_mem_take ho)) hr hq
      refine wpQuiet_mono' ?_ _ _ this
      rintro a' ⟨ρ', h1, h2⟩ w' hw'
      exact O_wpList (n := n) (ops := os) (K := fun ρ w => Run P fn n k' R ρ w) (os.toList.drop (headN P os)) ρ' w' a' (fun o ho => ha o (List.mem_of_mem_drop ho)) h1 (h2 w' hw')
    · simp at hb
/-- A call that is the same in whatever later world. -/
theorem zcq {P : Program} {next : Fr → Prop} {ρ : Fr} {w : World} {d : Option Nat} (f : Nat) {args : List Value} {X : Value} (h : ∀ w', Ext w w' → Pu P f args.toArray w' X) (k : next (updO ρ d X)) : CallQ P f args w d ρ next :=
  ⟨X, fun w' hw => h w' hw, k⟩
end
end Go.Proofs.Ytdhieolfdlkeaaa
