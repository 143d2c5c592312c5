/- Texts of the proof, joined. -/
import Derived.Orders
import Derived.StillTail
import Derived.Deep.Quiet
import Derived.Test.YtjajihaeoolefaaDooryMb
namespace Go.Proofs.YtjajihaeoolefaaDoor
set_option linter.unusedSimpArgs false
set_option linter.unusedVariables false
open Go.RowKit
variable {D : List Deferred}
section
variable {P : Program} {ops : Array Oper} {w wx : World} {N x : Nat} {LU LF : Array Bool → Act → Prop} {dx : Option Tmp} {vx : Value}
def AU (P : Program) (ops : Array Oper) (w wx : World) (N x : Nat) (dx : Option Tmp) (vx : Value) (LU LF : Array Bool → Act → Prop) : Nat → Array Bool → Act → Prop
  | 0, listed, a => LU listed a ∧ LF (listed.setIfInBounds x true) (a.put dx vx)
  | f + 1, listed, a => Region.ready .any ops listed ≠ [] ∧ ∀ i ∈ Region.ready .any ops listed, (i < N ∧ stOp P ops w i (AU P ops w wx N x dx vx LU LF f (listed.setIfInBounds i true)) a) ∨ (i = x ∧ wpAnyL P .any ops wx N LF (f + 1) (listed.setIfInBounds x true) (a.put dx vx))
theorem AU_any {R : Exit → Act → World → Prop} {g : Nat} (hrun : ∀ (K : Act → World → Prop) (a : Act), K (a.put dx vx) wx → wpOp P ops R x K a w) (hLU : ∀ l a, LU l a → wpAny P .any ops R (g + 1) l a w) (hLF : ∀ l a, LF l a → wpAny P .any ops R g l a wx) :
    ∀ (f : Nat) (l : Array Bool) (a : Act), AU P ops w wx N x dx vx LU LF f l a → wpAny P .any ops R (f + (g + 1)) l a w
  | 0, l, a, h => by rw [Nat.zero_add]; exact hLU _ _ h.1
  | f + 1, l, a, h => by
    rw [show f + 1 + (g + 1) = (f + (g + 1)) + 1 by omega]
    refine ⟨fun h0 => absurd h0 h.1, fun i hi => ?_⟩
    rcases h.2 i hi with ⟨_, hs⟩ | ⟨rfl, hF⟩
    · exact wpOp_of_stOp (fun a' h' => AU_any hrun hLU hLF f _ a' h') hs
    · refine hrun _ _ ?_
      have := wpAny_of_head (w := wx) hLF (f + 1) _ _ hF
      rwa [show f + 1 + g = f + (g + 1) by omega] at this
structure HInvX (ops : Array Oper) (N x : Nat) (listed : Array Bool) : Prop where
  size : listed.size = ops.size
  closed : ∀ j oj, ops[j]? = some oj → listed.getD j false = true → ∀ e ∈ oj.after, Region.binds .any e = true → listed.getD e.on false = true
  tail : ∀ t, N ≤ t → t < ops.size → t ≠ x → listed.getD t true = false
theorem HInvX.set {i : Nat} {listed : Array Bool} (inv : HInvX ops N x listed) (hi : i ∈ Region.ready .any ops listed) (hin : i < N ∨ i = x) : HInvX ops N x (listed.setIfInBounds i true) := by
  obtain ⟨_, oi, hoi, hall⟩ := mem_ready.1 hi
  refine ⟨by simp [inv.size], fun j oj hj hl e he hb => ?_, fun t ht ht' hx => by rw [getD_set_ne true (by omega)]; exact inv.tail t ht ht' hx⟩
  by_cases hij : i = j
  · subst hij
    have : oj = oi := Option.some.inj (hj.symm.trans hoi)
    subst this
    exact getD_set_true (hall e he hb)
  · rw [getD_set_ne false hij] at hl
    exact getD_set_true (inv.closed j oj hj hl e he hb)
theorem waitsX {listed : Array Bool} (hs : Region.sinkB .any ops N = true) (hl : lateB ops N x = true) (hN : N < x) (inv : HInvX ops N x listed) :
    ∀ (d i : Nat), N - i = d → i < N → listed.getD i true = false → ∀ t, N ≤ t → t ≠ x → t ∉ Region.ready .any ops listed := by
  intro d
  induction d using Nat.strongRecOn with
  | _ d ih =>
    intro i hd hi hun t ht htx hr
    obtain ⟨_, ot, hot, hall⟩ := mem_ready.1 hr
    have htlt : t < ops.size := (Array.getElem?_eq_some_iff.1 hot).1
    by_cases htn : t = N
    · subst htn
      have h1 := List.all_eq_true.1 hs i (List.mem_range.2 hi)
      obtain ⟨j, hj, hj2⟩ := List.any_eq_true.1 h1
      simp only [Bool.and_eq_true, decide_eq_true_eq] at hj2
      obtain ⟨oj, hoj, e, he, hb, hon⟩ := Region.waitsFor_spec hj2.2
      have hjle : j ≤ t := by have := List.mem_range.1 hj; omega
      by_cases hjt : j = t
      · subst hjt
        have : oj = ot := Option.some.inj (hoj.symm.trans hot)
        subst this
        have h2 := hall e he hb
        rw [hon, getD_both hun] at h2
        cases h2
      · cases hl' : listed.getD j false with
        | true =>
          have h2 := inv.closed j oj hoj hl' e he hb
          rw [hon, getD_both hun] at h2
          cases h2
        | false =>
          have hjs : j < listed.size := by rw [inv.size]; omega
          exact ih (t - j) (by omega) j rfl (by omega) (getD_in hjs hl') t (Nat.le_refl _) htx hr
    · have h1 := List.all_eq_true.1 hl t (List.mem_range.2 htlt)
      simp only [Bool.or_eq_true, decide_eq_true_eq, beq_iff_eq] at h1
      rcases h1 with (h1 | h1) | h1
      · omega
      · exact htx h1
      · obtain ⟨j, hj, hj2⟩ := List.any_eq_true.1 h1
        simp only [Bool.and_eq_true, decide_eq_true_eq, Bool.not_eq_true', beq_eq_false_iff_ne] at hj2
        have hjt := List.mem_range.1 hj
        obtain ⟨o', ho', e, he, hb, hon⟩ := Region.waitsFor_spec hj2.2
        have : o' = ot := Option.some.inj (ho'.symm.trans hot)
        subst this
        have h2 := hall e he hb
        rw [hon, getD_both (inv.tail j hj2.1.1 (by omega) hj2.1.2)] at h2
        cases h2
def FreeX (ops : Array Oper) (i : Nat) (oi : Oper) (listed : Array Bool) : Prop := ∀ j oj, ops[j]? = some oj → j ≠ i → listed.getD j true = false → (∀ e ∈ oj.after, Region.binds .any e = true → e.on ≠ i) → oi.apart ops oj = true
theorem FreeX.set {i j : Nat} {oi : Oper} {listed : Array Bool} (h : FreeX ops i oi listed) (hj : listed.getD j true = false) : FreeX ops i oi (listed.setIfInBounds j true) := by
  intro k ok hk hki hun hno
  refine h k ok hk hki ?_ hno
  by_cases hjk : j = k
  · subst hjk; exact hj
  · rw [getD_set_ne true hjk] at hun; exact hun
theorem not_on {i : Nat} {oj : Oper} {listed : Array Bool} (hun : listed.getD i true = false) (hall : ∀ e ∈ oj.after, Region.binds .any e = true → listed.getD e.on false = true) : ∀ e ∈ oj.after, Region.binds .any e = true → e.on ≠ i := fun e he hb heq => by
  have h1 := hall e he hb
  rw [heq, getD_both hun] at h1
  cases h1
theorem keepAt {i : Nat} {oi oj : Oper} {v u : Value} {a : Act} {w : World} (hsi : ∀ cs b, oi.op ≠ .select cs b) (hap : oi.apart ops oj = true) (h : YieldsAt P ops w oi v a) : YieldsAt P ops w oi v (a.put oj.dst u) := by
  obtain ⟨_, _, h3⟩ := Oper.apart_spec hap
  exact h.of_same (execOp_put oi hsi a oj.dst u h3) (wanted_put oi a oj.dst u h3)
theorem headF_first {i : Nat} {oi : Oper} {v : Value} (hi : ops[i]? = some oi) (hsel : ∀ (j : Nat) (o : Oper) cs b, ops[j]? = some o → o.op ≠ .select cs b)
    (hs : Region.sinkB .any ops N = true) (hl : lateB ops N x = true) (hN : N < x) (hin : i < N) (hdone : ∀ listed a, LF listed a → ∀ j ∈ Region.ready .any ops listed, N ≤ j) :
    ∀ (f : Nat) (listed : Array Bool) (a : Act), HInvX ops N x listed → listed.getD x true = true → FreeX ops i oi listed → i ∈ Region.ready .any ops listed → YieldsAt P ops wx oi v a →
      wpAnyL P .any ops wx N LF f (listed.setIfInBounds i true) (a.put oi.dst v) → wpAnyL P .any ops wx N LF (f + 1) listed a := by
  intro f
  induction f with
  | zero =>
    intro listed a inv hx hfree hr hy H
    have hun := (mem_ready.1 hr).1
    refine ⟨fun h => (by rw [h] at hr; cases hr), fun j hj => ?_⟩
    have hjx : j ≠ x := fun e => by rw [e] at hj; have := (mem_ready.1 hj).1; rw [hx] at this; cases this
    have hjn : j < N := (Nat.lt_or_ge j N).resolve_right fun h => waitsX hs hl hN inv _ i rfl hin hun j h hjx hj
    refine ⟨hjn, ?_⟩
    by_cases hji : j = i
    · subst hji; exact hy.stOp hi H
    · have := hdone _ _ H j (ready_mono hj hji)
      omega
  | succ f ih =>
    intro listed a inv hx hfree hr hy H
    have hun := (mem_ready.1 hr).1
    refine ⟨fun h => (by rw [h] at hr; cases hr), fun j hj => ?_⟩
    have hjx : j ≠ x := fun e => by rw [e] at hj; have := (mem_ready.1 hj).1; rw [hx] at this; cases this
    have hjn : j < N := (Nat.lt_or_ge j N).resolve_right fun h => waitsX hs hl hN inv _ i rfl hin hun j h hjx hj
    refine ⟨hjn, ?_⟩
    by_cases hji : j = i
    · subst hji; exact hy.stOp hi H
    · have h1 := (H.2 j (ready_mono hj hji)).2
      obtain ⟨hjun, oj, hoj, hall⟩ := mem_ready.1 hj
      have hap := hfree j oj hoj hji hjun (not_on hun hall)
      obtain ⟨p1, p2, p3⟩ := Oper.apart_spec hap
      obtain ⟨u, hyj, hK⟩ := yieldsAt_of_stOp hoj h1
      have hyj' : YieldsAt P ops wx oj u a := hyj.of_same (execOp_put oj (fun cs b => hsel j oj cs b hoj) a oi.dst v p1).symm (wanted_put oj a oi.dst v p1).symm
      refine hyj'.stOp hoj ?_
      refine ih (listed.setIfInBounds j true) (a.put oj.dst u) (inv.set hj (.inl hjn)) (by rw [getD_set_ne true hjx]; exact hx) (hfree.set hjun) (ready_mono hr (Ne.symm hji)) (keepAt (i := i) (fun cs b => hsel i oi cs b hi) hap hy) ?_
      rw [Array.setIfInBounds_comm _ _ hji, ← Act.put_comm a v u p2]
      exact hK
theorem headU_first {i : Nat} {oi ox : Oper} {v : Value} (hi : ops[i]? = some oi) (hox : ops[x]? = some ox) (hdx : ox.dst = dx) (hsel : ∀ (j : Nat) (o : Oper) cs b, ops[j]? = some o → o.op ≠ .select cs b)
    (hs : Region.sinkB .any ops N = true) (hl : lateB ops N x = true) (hN : N < x) (hin : i < N) (hdU : ∀ listed a, LU listed a → ∀ j ∈ Region.ready .any ops listed, N ≤ j) (hdF : ∀ listed a, LF listed a → ∀ j ∈ Region.ready .any ops listed, N ≤ j) :
    ∀ (f : Nat) (listed : Array Bool) (a : Act), HInvX ops N x listed → listed.getD x true = false → FreeX ops i oi listed → i ∈ Region.ready .any ops listed → YieldsAt P ops w oi v a → YieldsAt P ops wx oi v a →
      AU P ops w wx N x dx vx LU LF f (listed.setIfInBounds i true) (a.put oi.dst v) → AU P ops w wx N x dx vx LU LF (f + 1) listed a := by
  have hix : i ≠ x := by omega
  have hxs : x < ops.size := (Array.getElem?_eq_some_iff.1 hox).1
  have fire : ∀ (f : Nat) (listed : Array Bool) (a : Act), HInvX ops N x listed → listed.getD x true = false → FreeX ops i oi listed → i ∈ Region.ready .any ops listed → x ∈ Region.ready .any ops listed → YieldsAt P ops wx oi v a →
      wpAnyL P .any ops wx N LF f ((listed.setIfInBounds i true).setIfInBounds x true) ((a.put oi.dst v).put dx vx) → wpAnyL P .any ops wx N LF (f + 1) (listed.setIfInBounds x true) (a.put dx vx) := by
    intro f listed a inv hx hfree hr hrx hy H
    obtain ⟨_, ox', hox', hall⟩ := mem_ready.1 hrx
    have : ox' = ox := Option.some.inj (hox'.symm.trans hox)
    subst this
    have hun := (mem_ready.1 hr).1
    have hap := hfree x ox' hox (fun e => hix e.symm) hx (not_on hun hall)
    obtain ⟨p1, p2, p3⟩ := Oper.apart_spec hap
    subst hdx
    refine headF_first hi hsel hs hl hN hin hdF f _ _ (inv.set hrx (.inr rfl)) ?_ (hfree.set hx) (ready_mono hr hix) (keepAt (i := i) (fun cs b => hsel i oi cs b hi) hap hy) ?_
    · have hsz : x < listed.size := by rw [inv.size]; exact hxs
      simp [hsz]
    · rw [Array.setIfInBounds_comm _ _ (fun e => hix e.symm), ← Act.put_comm a v vx p2]
      exact H
  intro f
  induction f with
  | zero =>
    intro listed a inv hx hfree hr hy hyx H
    have hun := (mem_ready.1 hr).1
    refine ⟨fun h => (by rw [h] at hr; cases hr), fun j hj => ?_⟩
    by_cases hjx : j = x
    · subst hjx
      exact .inr ⟨rfl, fire 0 listed a inv hx hfree hr hj hyx H.2⟩
    · have hjn : j < N := (Nat.lt_or_ge j N).resolve_right fun h => waitsX hs hl hN inv _ i rfl hin hun j h hjx hj
      refine .inl ⟨hjn, ?_⟩
      by_cases hji : j = i
      · subst hji; exact hy.stOp hi H
      · have := hdU _ _ H.1 j (ready_mono hj hji)
        omega
  | succ f ih =>
    intro listed a inv hx hfree hr hy hyx H
    have hun := (mem_ready.1 hr).1
    refine ⟨fun h => (by rw [h] at hr; cases hr), fun j hj => ?_⟩
    by_cases hjx : j = x
    · subst hjx
      rcases H.2 j (ready_mono hj (fun e => hix e.symm)) with ⟨h1, _⟩ | ⟨_, h1⟩
      · omega
      · exact .inr ⟨rfl, fire (f + 1) listed a inv hx hfree hr hj hyx h1⟩
    · have hjn : j < N := (Nat.lt_or_ge j N).resolve_right fun h => waitsX hs hl hN inv _ i rfl hin hun j h hjx hj
      refine .inl ⟨hjn, ?_⟩
      by_cases hji : j = i
      · subst hji; exact hy.stOp hi H
      · rcases H.2 j (ready_mono hj hji) with ⟨_, h1⟩ | ⟨h1, _⟩
        · obtain ⟨hjun, oj, hoj, hall⟩ := mem_ready.1 hj
          have hap := hfree j oj hoj hji hjun (not_on hun hall)
          obtain ⟨p1, p2, p3⟩ := Oper.apart_spec hap
          obtain ⟨u, hyj, hK⟩ := yieldsAt_of_stOp hoj h1
          have hyj' : YieldsAt P ops w oj u a := hyj.of_same (execOp_put oj (fun cs b => hsel j oj cs b hoj) a oi.dst v p1).symm (wanted_put oj a oi.dst v p1).symm
          refine hyj'.stOp hoj ?_
          refine ih (listed.setIfInBounds j true) (a.put oj.dst u) (inv.set hj (.inl hjn)) (by rw [getD_set_ne true hjx]; exact hx) (hfree.set hjun) (ready_mono hr (Ne.symm hji)) (keepAt (i := i) (fun cs b => hsel i oi cs b hi) hap hy) (keepAt (i := i) (fun cs b => hsel i oi cs b hi) hap hyx) ?_
          rw [Array.setIfInBounds_comm _ _ hji, ← Act.put_comm a v u p2]
          exact hK
        · omega
theorem listN_spec (m : Nat) : ∀ (f k : Nat) (l : Array Bool), (listN m f k l).size = l.size ∧ ∀ j b, (listN m f k l).getD j b = if k ≤ j ∧ j < k + f ∧ j < l.size then true else l.getD j b
  | 0, k, l => ⟨rfl, fun j b => by rw [if_neg (by omega)]; rfl⟩
  | f + 1, k, l => by
    obtain ⟨h1, h2⟩ := listN_spec m f (k + 1) (l.setIfInBounds k true)
    refine ⟨by rw [listN, h1]; simp, fun j b => ?_⟩
    rw [listN, h2]
    simp only [Array.size_setIfInBounds]
    by_cases hjk : k = j
    · subst hjk
      rw [if_neg (by omega)]
      by_cases hs : k < l.size
      · rw [if_pos ⟨Nat.le_refl _, by omega, hs⟩]; simp [hs]
      · rw [if_neg (by omega)]; simp only [Array.getD_eq_getD_getElem?, Array.getElem?_setIfInBounds]; simp [Array.getElem?_eq_none (Nat.not_lt.1 hs), hs]
    · rw [getD_set_ne b hjk]
      by_cases hc : k + 1 ≤ j ∧ j < k + 1 + f ∧ j < l.size
      · rw [if_pos hc, if_pos (by omega)]
      · rw [if_neg hc, if_neg (by omega)]
theorem headU_lex {n : Nat} {ox : Oper} {A B : Fr → Prop} {LN : Array Bool} (hw : Ext w wx) (hox : ops[x]? = some ox) (hdx : ox.dst = dx) (hdn : ∀ k, dx = some k → k < n) (hsel : Region.noSelect ops = true)
    (hs : Region.sinkB .any ops N = true) (hl : lateB ops N x = true) (hN : N < x) (hU : ∀ j ∈ Region.ready .any ops LN, N ≤ j) (hF : ∀ j ∈ Region.ready .any ops (LN.setIfInBounds x true), N ≤ j) :
    ∀ (l : List Oper) (k : Nat) (listed : Array Bool) (a : Act) (ρ : Fr), (∀ j, j < l.length → l[j]? = ops[k + j]?) → k + l.length = N → HInvX ops N x listed → listed.getD x true = false → headBX ops l.length k listed = true → listN ops.size l.length k listed = LN →
    (∀ o ∈ l, plainM (cm P o) = true) → (∀ o ∈ l, okOp n ops o = true) → Rel D n a ρ → O P (fun ρ' w' => w' = w → A ρ' ∧ B (updO ρ' dx vx)) (l.map (cop P ops)) ρ w →
    AU P ops w wx N x dx vx (fun l a => l = LN ∧ ∃ ρ, Rel D n a ρ ∧ A ρ) (fun l a => l = LN.setIfInBounds x true ∧ ∃ ρ, Rel D n a ρ ∧ B ρ) l.length listed a
  | [], k, listed, a, ρ, _, hk, inv, hx, _, hLN, _, _, hr, h => by
    have hL : listed = LN := hLN
    obtain ⟨h1, h2⟩ := h rfl
    exact ⟨⟨hL, ρ, hr, h1⟩, by rw [hL], _, hr.put _ _ hdn, h2⟩
  | o :: l, k, listed, a, ρ, hlk, hk, inv, hx, hB, hLN, hpl, hok, hr, h => by
    have h0 : ops[k]? = some o := by simpa using (hlk 0 (by simp)).symm
    simp only [List.length_cons, headBX, Bool.and_eq_true] at hB
    obtain ⟨⟨hrd, hf⟩, hB'⟩ := hB
    have hkn : k < N := by simp only [List.length_cons] at hk; omega
    have hkx : k ≠ x := by omega
    have hr' : k ∈ Region.ready .any ops listed := by simpa using hrd
    have ho := hok o (by simp)
    have hp := hpl o (by simp)
    have hd : ∀ j, o.dst = some j → j < n := by
      intro j hj
      simp only [okOp, hj, Bool.and_eq_true, decide_eq_true_eq] at ho
      exact ho.1
    have hwt := wanted_eq (P := P) hr ops o ho
    have hso := Region.noSelect_spec hsel
    have step : ∀ v, YieldsAt P ops w o v a → YieldsAt P ops wx o v a → O P (fun ρ' w' => w' = w → A ρ' ∧ B (updO ρ' dx vx)) (l.map (cop P ops)) (updO ρ o.dst v) w →
        AU P ops w wx N x dx vx (fun l a => l = LN ∧ ∃ ρ, Rel D n a ρ ∧ A ρ) (fun l a => l = LN.setIfInBounds x true ∧ ∃ ρ, Rel D n a ρ ∧ B ρ) (l.length + 1) listed a := fun v y1 y2 hO =>
      headU_first h0 hox hdx hso hs hl hN hkn (fun l a hL => by rw [hL.1]; exact hU) (fun l a hL => by rw [hL.1]; exact hF) l.length listed a inv hx (Region.free_spec h0 hf) hr' y1 y2
        (headU_lex hw hox hdx hdn hsel hs hl hN hU hF l (k + 1) _ _ _ (fun j hj => by have := hlk (j + 1) (by simp; omega); simpa [Nat.add_assoc, Nat.add_comm 1 j] using this) (by simp only [List.length_cons] at hk; omega) (inv.set hr' (.inl hkn)) (by rw [getD_set_ne true hkx]; exact hx) hB' hLN
          (fun o ho => hpl o (by simp [ho])) (fun o ho => hok o (by simp [ho])) (hr.put _ v hd) hO)
    have h' : if gF ρ (cop P ops o).g = true then OS P o.dst (cm P o) ρ w (O P (fun ρ' w' => w' = w → A ρ' ∧ B (updO ρ' dx vx)) (l.map (cop P ops))) else O P (fun ρ' w' => w' = w → A ρ' ∧ B (updO ρ' dx vx)) (l.map (cop P ops)) (updO ρ o.dst undef) w := h
    by_cases hg : gF ρ (cop P ops o).g = true
    · rw [if_pos hg] at h'
      have hm : okM ρ w (cm P o) ∧ O P (fun ρ' w' => w' = w → A ρ' ∧ B (updO ρ' dx vx)) (l.map (cop P ops)) (updO ρ o.dst (vM ρ w (cm P o))) (wM ρ w (cm P o)) := by
        revert h' hp
        generalize cm P o = m
        intro hp h'
        cases m <;> first | exact h' | exact absurd hp (by simp [plainM])
      obtain ⟨e1, e2, e3, e4⟩ := okM_ext hw hp hm.1
      have hrun : ∀ {u : World}, okM ρ u (cm P o) → wM ρ u (cm P o) = u → vM ρ u (cm P o) = vM ρ w (cm P o) → YieldsAt P ops u o (vM ρ w (cm P o)) a := by
        intro u g1 g2 g3
        refine .inl ⟨by rw [hwt]; exact hg, ?_⟩
        rw [hr.evalF]
        rcases run_cm (P := P) (w := u) o g1 with h4 | ⟨h4, h5⟩
        · left; rw [h4, g2, g3]
        · right; left; exact ⟨by rw [h4, g2], by rw [← g3, h5]⟩
      refine step _ (hrun hm.1 e4 rfl) (hrun e1 e3 e2) ?_
      rw [e4] at hm
      exact hm.2
    · rw [if_neg hg] at h'
      have hy : ∀ u, YieldsAt P ops u o undef a := fun u => .inr ⟨by rw [hwt]; simpa using hg, rfl⟩
      exact step _ (hy _) (hy _) h'
end
end Go.Proofs.YtjajihaeoolefaaDoor
