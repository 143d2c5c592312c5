/- The engine, part h: regions that draw their order, each order walked. -/
import Derived.Test.YtilfcgnepgacpaaNg
import Derived.Orders
namespace Go.Proofs.Ytilfcgnepgacpaa
set_option linter.unusedSimpArgs false
set_option linter.unusedVariables false
open Go.RowKit

def OT (P : Program) (K : Fr → World → Prop) : DT → Fr → World → Prop
  | .leaf ops, ρ, w => O P K ops ρ w
  | .br ops a b, ρ, w => O P (fun ρ' w' => OT P K a ρ' w' ∧ OT P K b ρ' w') ops ρ w
section
variable {P : Program} {K : Fr → World → Prop} {ρ : Fr} {w : World} {n : Nat}
theorem OT_leaf {ops : List ML} (h : O P K ops ρ w) : OT P K (.leaf ops) ρ w := h
theorem OT_br {ops : List ML} {a b : DT} (h : ∀ K2 : Fr → World → Prop, (∀ ρ w, OT P K a ρ w → OT P K b ρ w → K2 ρ w) → O P K2 ops ρ w) : OT P K (.br ops a b) ρ w := h _ fun _ _ h1 h2 => ⟨h1, h2⟩
/-- One operation, and then. -/
def O1 (P : Program) (m : ML) (next : Fr → World → Prop) (ρ : Fr) (w : World) : Prop := if gF ρ m.g = true then OS P m.d m.m ρ w next else next (updO ρ m.d undef) w
theorem OT_cons {m : ML} {t : DT} : OT P K (t.cons m) ρ w ↔ O1 P m (OT P K t) ρ w := by
  cases t <;> exact Iff.rfl
theorem ready_nil {ops : Array Oper} {listed : Array Bool} (h : (Region.ready .any ops listed).isEmpty = true) : Region.ready .any ops listed = [] := by simpa using h
theorem O1_wpOp {ops : Array Oper} {i : Nat} {o : Oper} {a : Act} {next : Fr → World → Prop} {Q : Exit → Act → World → Prop} (hi : ops[i]? = some o) (ho : okOp n ops o = true) (hr : Rel n a ρ) (h : O1 P (cop P ops o) next ρ w) :
    wpOp P ops Q i (fun a' w' => ∃ ρ', Rel n a' ρ' ∧ next ρ' w') a w := by
  have hd : ∀ k, o.dst = some k → k < n := by
    intro k hk
    simp only [okOp, hk, Bool.and_eq_true, decide_eq_true_eq] at ho
    exact ho.1
  have hw := wanted_eq (P := P) hr ops o ho
  unfold wpOp
  simp only [hi]
  rw [hw]
  unfold O1 at h
  by_cases hg : gF ρ (cop P ops o).g = true
  · rw [if_pos hg] at h
    rw [if_pos hg]
    left
    exact OS_sound o next a _ hr hd h
  · rw [if_neg hg] at h
    rw [if_neg hg]
    exact ⟨_, hr.put _ _ hd, h⟩
theorem fork_all {f : Nat → Option DT} : ∀ {rs : List Nat} {t : DT}, DT.fork f rs = some t → OT P K t ρ w → ∀ i ∈ rs, ∃ t', f i = some t' ∧ OT P K t' ρ w
  | [], t, h, _ => by simp [DT.fork] at h
  | [j], t, h, ht => by
    intro i hi
    simp at hi; subst hi
    exact ⟨t, h, ht⟩
  | j :: j2 :: r, t, h, ht => by
    simp only [DT.fork] at h
    split at h
    · rename_i a b ha hb
      simp at h; subst h
      obtain ⟨h1, h2⟩ : OT P K a ρ w ∧ OT P K b ρ w := ht
      intro i hi
      rcases List.mem_cons.1 hi with rfl | hi
      · exact ⟨a, ha, h1⟩
      · exact fork_all hb h2 i hi
    · simp at h
theorem buildT_sound {ops : Array Oper} (hall : ∀ o ∈ ops.toList, okOp n ops o = true) (hsel : Region.noSelect ops = true) :
    ∀ (fuel : Nat) (listed : Array Bool) (t : DT) (ρ : Fr) (a : Act) (w : World), buildT P ops fuel listed = some t → Rel n a ρ → OT P K t ρ w →
      wpAny P .any ops (fun e a' w' => e = .normal ∧ ∃ ρ', Rel n a' ρ' ∧ K ρ' w') fuel listed a w := by
  have hmem : ∀ {i : Nat} {o : Oper}, ops[i]? = some o → okOp n ops o = true := fun h => hall _ (Array.mem_toList_iff.2 (Array.mem_of_getElem? h))
  intro fuel
  induction fuel with
  | zero =>
    intro listed t ρ a w h hr ht
    simp only [buildT] at h
    split at h
    · rename_i he
      simp at h; subst h
      exact ⟨ready_nil he, rfl, ρ, hr, ht⟩
    · simp at h
  | succ fuel ih =>
    intro listed t ρ a w h hr ht
    simp only [buildT] at h
    split at h
    · rename_i he
      simp at h; subst h
      exact wpAny_done (ready_nil he) ⟨rfl, ρ, hr, ht⟩ _
    · rename_i hne
      split at h
      · rename_i i hf
        have h1 := List.find?_some hf
        have h2 := List.mem_of_find?_eq_some hf
        simp only [Bool.and_eq_true] at h1
        split at h
        · rename_i o hi
          rw [hi] at h1
          simp only [Option.map_eq_some_iff] at h
          obtain ⟨t', ht', rfl⟩ := h
          rw [OT_cons] at ht
          have ho := hmem hi
          have hd : ∀ k, o.dst = some k → k < n := by
            intro k hk
            simp only [okOp, hk, Bool.and_eq_true, decide_eq_true_eq] at ho
            exact ho.1
          have hw := wanted_eq (P := P) hr ops o ho
          unfold O1 at ht
          by_cases hg : gF ρ (cop P ops o).g = true
          · rw [if_pos hg] at ht
            have hpure : pureM (cm P o) = true := h1.2
            have hm : okM ρ w (cm P o) ∧ OT P K t' (updO ρ o.dst (vM ρ w (cm P o))) w := by
              have e : OS P o.dst (cm P o) ρ w (OT P K t') := ht
              have hwM := (okM_pure (ρ := ρ) (w := w) hpure w).2.2
              revert e hwM hpure
              generalize cm P o = m
              intro hpure e hwM
              cases m <;> first | exact e | exact absurd hpure (by simp [pureM])
            refine wpAny_take (v := vM ρ w (cm P o)) hi hsel h1.1 (by simpa using h2) (fun c a w hq => by cases hq.1) (.inl ⟨by rw [hw]; exact hg, fun w' => ?_⟩) (ih _ _ _ _ _ ht' (hr.put _ _ hd) hm.2)
            rw [hr.evalF]
            exact run_pure o hpure hm.1 w'
          · rw [if_neg hg] at ht
            exact wpAny_take (v := undef) hi hsel h1.1 (by simpa using h2) (fun c a w hq => by cases hq.1) (.inr ⟨by rw [hw]; simpa using hg, rfl⟩) (ih _ _ _ _ _ ht' (hr.put _ _ hd) ht)
        · simp at h
      · refine wpAny_all rfl (fun e => hne (by simp [e])) fun i hi => ?_
        obtain ⟨t', h1, h2⟩ := fork_all h ht i hi
        split at h1
        · rename_i o ho
          simp only [Option.map_eq_some_iff] at h1
          obtain ⟨t2, h3, rfl⟩ := h1
          rw [OT_cons] at h2
          refine wpOp_mono ?_ (O1_wpOp ho (hmem ho) hr h2)
          rintro a' w' ⟨ρ', hr', h4⟩
          exact ih _ _ _ _ _ h3 hr' h4
        · simp at h1
theorem G.drt {fn : Func} {r : List MI} {R : Value → World → Prop} {ops : List ML} {t : DT} (hm : P.follows .mixedOrders = true)
    (h : ∀ K : Fr → World → Prop, (∀ ρ w, G P fn n r R ρ w → K ρ w) → ∀ wd, Ext w wd → OT P K t ρ wd) : G P fn n (.c (.drg ops (some t)) :: r) R ρ w := fun k hk => by
  obtain ⟨x, k', rfl, hx, hk'⟩ := corr_c hk
  obtain ⟨id, os, rfl, hall, hlex, rfl, ht⟩ := conv_drg hx
  refine Run.region_wp fun a hr => wp_region_any hm ?_
  have hb : Region.noSelect os = true ∧ buildT P os os.size (Array.replicate os.size false) = some t := by
    unfold treeOf at ht
    split at ht
    · simp at ht
    · rename_i h0
      simp only [Bool.or_eq_true, not_or, Bool.not_eq_true, Bool.not_eq_false'] at h0
      split at ht
      · rename_i t' h1
        split at ht
        · simp at ht; subst ht; exact ⟨h0.2, h1⟩
        · simp at ht
      · simp at ht
  have hdr : Ext w w.drew := (Ext.refl w).drew
  have := buildT_sound (K := fun ρ w => Run P fn n k' R ρ w) (fun o ho => List.all_eq_true.1 hall o ho) hb.1 os.size (Array.replicate os.size false) t ρ a w.drew hb.2 hr (h _ (fun _ _ h => h k' hk') w.drew hdr)
  exact this
end
end Go.Proofs.Ytilfcgnepgacpaa
