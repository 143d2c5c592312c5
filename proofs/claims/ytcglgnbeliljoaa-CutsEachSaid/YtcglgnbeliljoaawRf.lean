/- Texts of the proof, joined. -/
import Derived.RangeFuncRecord
import Derived.OrdersIn
import Derived.RangeFuncLeaves
import Derived.TacticsIn
import Derived.Test.YtcglgnbeliljoaawMc
namespace Go.Proofs.Ytcglgnbeliljoaa
set_option linter.unusedSimpArgs false
set_option linter.unusedVariables false
open Go.RowKit
variable {D : List Deferred} {P : Program} {n : Nat} {ro : Option Nat}
def Fo (ro : Option Nat) : Fence := { Fence.wide with round := ro }
theorem callsIn_fo {k : Nat} {f : FuncId} {args : Array Value} {w : World} {R : Ending → World → Prop} : CallsIn (Fo ro) k P f args w R ↔ Calls P f args w R := callsIn_wide (n := k)
theorem dep_fo {k : Nat} : (Fo ro).depth.isSome = true → 1 ≤ k := fun h => by cases h
theorem wpIn_of_wp {o : Oper} {a : Act} {w : World} {k : Nat} {K : Act → World → Prop} {Q : Exit → Act → World → Prop} (hnd : ro = none ∨ ∀ c, o.op ≠ .defer c) (h : o.wp P a w K Q) : o.wpIn (Fo ro) k P a w K Q := by
  refine ⟨fun _ _ => trivial, ?_⟩
  have hs : o.semAt (Fo ro).round a.eval = execOp a.eval o := by
    rcases hnd with rfl | hnd
    · rfl
    · exact Oper.semAt_eq _ _ _ hnd
  rw [hs]
  unfold Oper.wp at h
  generalize (execOp a.eval o).run P w = r at *
  cases r with
  | ok x w' =>
    cases x with
    | value v => exact h
    | skip => exact h
    | defer d => exact h
    | enter f args => exact ⟨dep_fo, callsIn_fo.2 h⟩
    | row row args => exact ⟨dep_fo, fun c cs _ => let ⟨v, w'', r, s⟩ := h c cs; ⟨v, w'', r, stepsIn_wide.2 s⟩⟩
    | _ => exact h.elim
  | halt e w' =>
    cases e <;> first | exact h | exact h.elim
theorem O_listIn {ops : Array Oper} {K : Fr → World → Prop} {Q : Exit → Act → World → Prop} {l2 : List Oper} : ∀ (l : List Oper) (ρ : Fr) (w : World) (a : Act), (∀ o ∈ l, okOp n ops o = true) → (ro = none ∨ ∀ o ∈ l, ∀ c, o.op ≠ .defer c) → Rel D n a ρ →
    O P K (l.map (cop P ops)) ρ w → (∀ ρ w a, Rel D n a ρ → K ρ w → wpListIn (Fo ro) 0 P ops Q l2 a w) → wpListIn (Fo ro) 0 P ops Q (l ++ l2) a w := by
  intro l
  induction l with
  | nil => intro ρ w a _ _ hr h hk; exact hk ρ w a hr h
  | cons o l ih =>
    intro ρ w a hl hn hr h hk
    have ho := hl o (by simp)
    have hd : ∀ k, o.dst = some k → k < n := by
      intro k hk
      simp only [okOp, hk, Bool.and_eq_true, decide_eq_true_eq] at ho
      exact ho.1
    have hw := wanted_eq (P := P) hr ops o ho
    have hn' : ro = none ∨ ∀ o ∈ l, ∀ c, o.op ≠ .defer c := hn.imp id fun h o ho => h o (by simp [ho])
    simp only [List.map_cons, O] at h
    rw [List.cons_append]
    unfold wpListIn
    rw [hw]
    obtain ⟨t, ht⟩ : ∃ t, t = gF ρ (cop P ops o).g := ⟨_, rfl⟩
    rw [← ht]
    replace h : if t = true then OS P (cop P ops o).d (cop P ops o).m ρ w (O P K (l.map (cop P ops))) else O P K (l.map (cop P ops)) (updO ρ (cop P ops o).d undef) w := by
      rw [ht]; exact h
    clear ht
    cases t
    · simp only [Bool.false_eq_true, if_false] at h ⊢
      exact ⟨fun _ _ => trivial, ih _ w _ (fun o ho => hl o (by simp [ho])) hn' (hr.put _ _ hd) h hk⟩
    · simp only [if_true] at h ⊢
      refine wpIn_of_wp (hn.imp id fun h => h o (by simp)) (Oper.wp_mono ?_ (OS_sound o (O P K (l.map (cop P ops))) a _ hr hd h))
      rintro a' w' ⟨ρ', hr', h'⟩
      exact ih ρ' w' a' (fun o ho => hl o (by simp [ho])) hn' hr' h' hk
def YC (P : Program) (m : ML) (next : Fr → World → Prop) (ρ : Fr) (w : World) : Prop := O1 P m next ρ w ∨ (gF ρ m.g = true ∧ ∃ t xs ts ty l r, m.m = .raw (.call ⟨.value (.tmp t), xs, ts⟩) ty ∧ ρ t = .func (.yield l) #[] #[] ∧
  w.heap[l]? = some (.loop r) ∧ xs.size = r.params.size ∧ RoundIn Fence.wide 0 P l r.fn ((r.params.zip (xs.map (ev ρ))).foldl (fun tmps (t, a) => tmps.setIfInBounds t a) r.tmps) r.assign r.body w fun e w' => ∃ v, e = .returned v ∧ next (updO ρ m.d v) w')
theorem yc_run {ρ : Fr} {w : World} {o : Oper} {t : Nat} {xs : Array Operand} {ts : Array TypeId} {l : Nat} {r : Loop} (ho : o.op = .call ⟨.value (.tmp t), xs, ts⟩) (hv : ρ t = .func (.yield l) #[] #[]) (hl : w.heap[l]? = some (.loop r)) (hs : xs.size = r.params.size) :
    (execOp (ev ρ) o).run P w = .ok (.round l r.fn ((r.params.zip (xs.map (ev ρ))).foldl (fun tmps (t, a) => tmps.setIfInBounds t a) r.tmps) r.assign r.body) w := by
  have h := run_yield (P := P) (args := xs.map (ev ρ)) hl (by simpa using hs)
  unfold execOp
  rw [ho]
  simp only [resolve, ev, hv]
  simp [Deferred.ofValue, invoke, callFunc, h]
theorem roundIn_fo {k l : Nat} {f : FuncId} {tmps : Array Value} {asg bod : Code} {w : World} {R : Ending → World → Prop} (h : RoundIn Fence.wide 0 P l f tmps asg bod w R) : RoundIn (Fo ro) k P l f tmps asg bod w R :=
  ⟨trivial, fun c cs _ => h.2 c cs (room_wide _)⟩
theorem yc_list {ops : Array Oper} {Q : Exit → Act → World → Prop} {o : Oper} {l2 : List Oper} {next : Fr → World → Prop} {ρ : Fr} {w : World} {a : Act} (ho : okOp n ops o = true) (hn : ro = none ∨ ∀ c, o.op ≠ .defer c) (hr : Rel D n a ρ)
    (h : YC P (cop P ops o) next ρ w) (hk : ∀ ρ w a, Rel D n a ρ → next ρ w → wpListIn (Fo ro) 0 P ops Q l2 a w) : wpListIn (Fo ro) 0 P ops Q (o :: l2) a w := by
  have hd : ∀ k, o.dst = some k → k < n := by
    intro k hk
    simp only [okOp, hk, Bool.and_eq_true, decide_eq_true_eq] at ho
    exact ho.1
  have hw := wanted_eq (P := P) hr ops o ho
  unfold wpListIn
  rw [hw]
  rcases h with h | ⟨hg, t, xs, ts, ty, l, r, hm, hv, hl, hs, hR⟩
  · unfold O1 at h
    by_cases hg : gF ρ (cop P ops o).g = true
    · rw [if_pos hg] at h ⊢
      refine wpIn_of_wp hn (Oper.wp_mono ?_ (OS_sound o next a _ hr hd h))
      rintro a' w' ⟨ρ', hr', h'⟩
      exact hk ρ' w' a' hr' h'
    · rw [if_neg hg] at h ⊢
      exact ⟨fun _ _ => trivial, hk _ _ _ (hr.put _ _ hd) h⟩
  · rw [if_pos hg]
    have hop := (cm_raw (P := P) o _ _ hm).1
    have hs2 : o.semAt (Fo ro).round a.eval = execOp a.eval o := by
      rcases hn with rfl | hn
      · rfl
      · exact Oper.semAt_eq _ _ _ hn
    refine ⟨fun _ _ => trivial, ?_⟩
    rw [hs2, hr.evalF, yc_run hop.symm hv hl hs, Oper.uponIn_round]
    refine ⟨dep_fo, RoundIn.mono (roundIn_fo hR) ?_⟩
    rintro e w' ⟨v, rfl, hn'⟩
    exact hk _ _ _ (hr.put _ _ hd) hn'
theorem split_cop {ops : Array Oper} {A B : List ML} {m : ML} (h : A ++ m :: B = ops.toList.map (cop P ops)) : ∃ l1 o l2, ops.toList = l1 ++ o :: l2 ∧ l1.map (cop P ops) = A ∧ cop P ops o = m ∧ l2.map (cop P ops) = B := by
  obtain ⟨l1, l3, h1, h2, h3⟩ := List.map_eq_append_iff.1 h.symm
  obtain ⟨o, l2, h4, h5, h6⟩ := List.map_eq_cons_iff.1 h3
  exact ⟨l1, o, l2, by rw [h1, h4], h2, h5, h6⟩
theorem reg_y {ops : Array Oper} {A B : List ML} {m : ML} {K : Fr → World → Prop} {ρ : Fr} {w : World} {a : Act} (hall : ∀ o ∈ ops.toList, okOp n ops o = true) (hn : ro = none ∨ ∀ o ∈ ops.toList, ∀ c, o.op ≠ .defer c) (hs : A ++ m :: B = ops.toList.map (cop P ops)) (hr : Rel D n a ρ)
    (h : O P (YC P m (O P K B)) A ρ w) : wpListIn (Fo ro) 0 P ops (fun e a' w' => e = .normal ∧ ∃ ρ', Rel D n a' ρ' ∧ K ρ' w') ops.toList a w := by
  obtain ⟨l1, o, l2, h1, rfl, rfl, rfl⟩ := split_cop hs
  have a1 : ∀ x ∈ l1, x ∈ ops.toList := fun x hx => by rw [h1]; simp [hx]
  have a2 : o ∈ ops.toList := by rw [h1]; simp
  have a3 : ∀ x ∈ l2, x ∈ ops.toList := fun x hx => by rw [h1]; simp [hx]
  have e := O_listIn (ro := ro) (D := D) (n := n) (ops := ops) (Q := fun e a' w' => e = .normal ∧ ∃ ρ', Rel D n a' ρ' ∧ K ρ' w') (l2 := o :: l2) l1 ρ w a (fun x hx => hall x (a1 x hx)) (hn.imp id fun h x hx => h x (a1 x hx)) hr h ?_
  · rw [← h1] at e; exact e
  intro ρ1 w1 a1' hr1 hy
  refine yc_list (hall o a2) (hn.imp id fun h => h o a2) hr1 hy ?_
  intro ρ2 w2 a2' hr2 hO
  have e2 := O_listIn (ro := ro) (D := D) (n := n) (ops := ops) (Q := fun e a' w' => e = .normal ∧ ∃ ρ', Rel D n a' ρ' ∧ K ρ' w') (l2 := []) l2 ρ2 w2 a2' (fun x hx => hall x (a3 x hx)) (hn.imp id fun h x hx => h x (a3 x hx)) hr2 hO ?_
  · rwa [List.append_nil] at e2
  · intro ρ3 w3 a3' hr3 hk
    exact ⟨rfl, ρ3, hr3, hk⟩
theorem G.regy {fn : Func} {r : List MI} {R : Value → World → Prop} {ρ : Fr} {w : World} {A B : List ML} {m : ML}
    (h : ∀ K1 K : Fr → World → Prop, (∀ ρ w, G P fn n r R ρ w → K ρ w) → (∀ ρ w, YC P m (O P K B) ρ w → K1 ρ w) → O P K1 A ρ w) : G P fn n (.c (.reg (A ++ m :: B)) :: r) R ρ w := fun k hk => by
  obtain ⟨x, k', rfl, hx, hk'⟩ := corr_c hk
  obtain ⟨id, os, rfl, hall, hs⟩ := conv_reg hx
  refine Run.region_wp fun a hr => (wpIn_wide (n := 0)).1 (wpIn_region_list ?_)
  exact reg_y (ro := none) (D := []) (n := n) (K := fun ρ w => Run P fn n k' R ρ w) (fun o ho => List.all_eq_true.1 hall o ho) (.inl rfl) hs hr (h _ _ (fun _ _ h => h k' hk') fun _ _ h => h)
def objC (g : Nat) (o : Obj) : Chk where
  ok w F := F g ∧ w.heap[g]? = some o
  loc := fun hb ⟨h1, h2⟩ => ⟨h1, (hb g h1).2.trans h2⟩
theorem Sep.newO {w0 w : World} {L : List Chk} (h : Sep w0 w L) (o : Obj) : Sep w0 (w.alloc o) (objC w.heap.size o :: L) :=
  h.push ((Ext.refl w).alloc o) (F := fun b => b = w.heap.size) ⟨rfl, World.alloc_heap_new w o⟩ fun b hb => by subst hb; simp [World.size_alloc]
theorem Sep.obj {w0 w : World} {L R : List Chk} {g : Nat} {o : Obj} (h : Sep w0 w L) (he : Ex (objC g o) L R) : w.heap[g]? = some o := by
  obtain ⟨F, h1, _⟩ := h.get he
  exact h1.2
theorem Sep.putO {w0 w : World} {L L' : List Chk} {g : Nat} {o : Obj} (o' : Obj) (h : Sep w0 w L) (hu : Up (objC g o) (objC g o') L L') : Sep w0 (w.putObj g o') L' :=
  h.change hu (by simp) rfl rfl rfl fun F ⟨h1, h2⟩ hF => ⟨F, ⟨h1, World.putObj_heap_same (hF g h1)⟩, fun b hb => ⟨by simpa using hF b hb, .inl hb⟩, fun b _ hb => World.putObj_heap_other fun e => hb (e ▸ h1)⟩
abbrev XP := Exit → List Deferred → Fr → World → Prop
def XQ (n : Nat) (Q : XP) : Exit → Act → World → Prop := fun e a w => ∃ D ρ, Rel D n a ρ ∧ Q e D ρ w
def X (P : Program) (n : Nat) (ro : Option Nat) (m : MC) (Q : XP) (D : List Deferred) (ρ : Fr) (w : World) : Prop := ∀ x, conv P n x = m → ∀ a, Rel D n a ρ → x.wpIn (Fo ro) 0 P (XQ n Q) a w
def ThenX (K : List Deferred → Fr → World → Prop) (Q : XP) : XP
  | .normal => K
  | e => Q e
def InX (id : Nat) (Q : XP) : XP
  | .exit i => if i = id then Q .normal else Q (.exit i)
  | e => Q e
section
variable {Z : XP} {ρ : Fr} {w : World}
theorem X.skip (h : Z .normal D ρ w) : X P n ro .skip Z D ρ w := fun x hx a hr => by
  cases x <;> simp only [conv] at hx <;> try (simp at hx; done)
  · exact wpIn_skip ⟨D, ρ, hr, h⟩
  · split at hx <;> try (simp at hx; done)
    split at hx <;> simp at hx
theorem X.lab (h : Z .normal D ρ w) : X P n ro .lab Z D ρ w := fun x hx a hr => by
  cases x <;> simp only [conv] at hx <;> try (simp at hx; done)
  · split at hx <;> try (simp at hx; done)
    split at hx <;> simp at hx
  · exact wpIn_label ⟨D, ρ, hr, h⟩
theorem X.ret (h : Z .ret D ρ w) : X P n ro .ret Z D ρ w := fun x hx a hr => by
  cases x <;> simp only [conv] at hx <;> try (simp at hx; done)
  · split at hx <;> try (simp at hx; done)
    split at hx <;> simp at hx
  · exact wpIn_ret ⟨D, ρ, hr, h⟩
theorem X.exit {id : Nat} (h : Z (.exit id) D ρ w) : X P n ro (.exit id) Z D ρ w := fun x hx a hr => by
  cases x <;> simp only [conv] at hx <;> try (simp at hx; done)
  · split at hx <;> try (simp at hx; done)
    split at hx <;> simp at hx
  · injection hx with h1; subst h1; exact wpIn_exit ⟨D, ρ, hr, h⟩
theorem X.seq {a b : MC} (h : X P n ro a (ThenX (X P n ro b Z) Z) D ρ w) : X P n ro (.seq a b) Z D ρ w := fun x hx ac hr => by
  cases x <;> simp only [conv] at hx <;> try (simp at hx; done)
  · split at hx <;> try (simp at hx; done)
    split at hx <;> simp at hx
  · injection hx with h1 h2
    refine wpIn_seq (wpIn_mono (h _ h1 ac hr) ?_)
    rintro e a' w' ⟨D', ρ', hr', hq⟩
    cases e with
    | normal => exact hq _ h2 a' hr'
    | _ => exact ⟨D', ρ', hr', hq⟩
theorem X.cond {c : Operand} {a b : MC} {t : Bool} (hc : ev ρ c = .bool t) (ht : t = true → X P n ro a Z D ρ w) (hf : t = false → X P n ro b Z D ρ w) : X P n ro (.cond c a b) Z D ρ w := fun x hx ac hr => by
  cases x <;> simp only [conv] at hx <;> try (simp at hx; done)
  · split at hx <;> try (simp at hx; done)
    split at hx <;> simp at hx
  · injection hx with h1 h2 h3
    subst h1
    exact wpIn_cond_split (by rw [hr.eval, hc]) (fun e => ht e _ h2 ac hr) (fun e => hf e _ h3 ac hr)
theorem X.blk {id : Nat} {c : MC} (h : X P n ro c (InX id Z) D ρ w) : X P n ro (.blk id c) Z D ρ w := fun x hx ac hr => by
  cases x <;> simp only [conv] at hx <;> try (simp at hx; done)
  · split at hx <;> try (simp at hx; done)
    split at hx <;> simp at hx
  · rename_i idc cc
    injection hx with h1 h2
    rw [← h1] at h
    clear h1
    refine wpIn_block (wpIn_mono (h _ h2 ac hr) ?_)
    rintro e a' w' ⟨D', ρ', hr', hq⟩
    cases e with
    | exit i =>
      simp only [Exit.inBlock]
      change (if i = idc then Z .normal else Z (.exit i)) D' ρ' w' at hq
      by_cases hi : i = idc
      · rw [if_pos hi] at hq ⊢; exact ⟨D', ρ', hr', hq⟩
      · rw [if_neg hi] at hq ⊢; exact ⟨D', ρ', hr', hq⟩
    | _ => exact ⟨D', ρ', hr', hq⟩
theorem X.loop {c : MC} (I : Fr → World → Prop) (μ : Fr → World → Nat) (h0 : I ρ w)
    (hr : ∀ u w', I u w' → X P n ro c (ThenX (fun D' ρ' w'' => D' = D ∧ I ρ' w'' ∧ μ ρ' w'' < μ u w') Z) D u w') : X P n ro (.loop c) Z D ρ w := fun x hx ac hrel => by
  cases x <;> simp only [conv] at hx <;> try (simp at hx; done)
  · split at hx <;> try (simp at hx; done)
    split at hx <;> simp at hx
  · rename_i y
    have hy : conv P n y = c := by injection hx
    refine wpIn_loop (fun a w => ∃ ρ, Rel D n a ρ ∧ I ρ w) (fun a w => μ (fun t => a.tmps.getD t undef) w) ⟨ρ, hrel, h0⟩ ?_
    rintro a w' ⟨u, hu, hI⟩
    have eu : ∀ {a : Act} {u : Fr} {D : List Deferred}, Rel D n a u → (fun t => a.tmps.getD t undef) = u := fun h => funext h.2.2
    refine wpIn_mono (hr u w' hI _ hy a hu) ?_
    rintro e a' w'' ⟨D', ρ', hr', hq⟩
    cases e with
    | normal =>
      obtain ⟨rfl, h1, h2⟩ := hq
      exact ⟨⟨ρ', hr', h1⟩, by show μ _ _ < μ _ _; rw [eu hr', eu hu]; exact h2⟩
    | _ => exact ⟨D', ρ', hr', hq⟩
def notDf (m : ML) : Bool := match m.m with | .raw (.defer _) _ => false | _ => true
theorem notDf_ops {ops : Array Oper} (h : (ops.toList.map (cop P ops)).all notDf = true) : ∀ o ∈ ops.toList, ∀ c, o.op ≠ .defer c := fun o ho c hc => by
  have h1 := List.all_eq_true.1 h _ (List.mem_map.2 ⟨o, ho, rfl⟩)
  have h2 : (cop P ops o).m = .raw (.defer c) o.type := by
    show cm P o = _
    unfold cm
    rw [hc]
    simp only [cmA, hc]
  unfold notDf at h1
  rw [h2] at h1
  cases h1
theorem X.reg {ops : List ML} (h : ∀ K : Fr → World → Prop, (∀ ρ w, Z .normal D ρ w → K ρ w) → O P K ops ρ w) (hd : ro = none ∨ ops.all notDf = true := by first | exact .inl rfl | exact .inr rfl) : X P n ro (.reg ops) Z D ρ w := fun x hx a hr => by
  obtain ⟨id, os, rfl, hall, rfl⟩ := conv_reg hx
  refine wpIn_region_list ?_
  have e := O_listIn (ro := ro) (D := D) (n := n) (ops := os) (Q := XQ n Z) (l2 := []) os.toList ρ w a (fun o ho => List.all_eq_true.1 hall o ho) (hd.imp (fun h => h) notDf_ops) hr (h _ fun _ _ h => h) (fun ρ w a hr hk => ⟨D, ρ, hr, hk⟩)
  rwa [List.append_nil] at e
theorem wpAnyIn_of {ops : Array Oper} (hn : ro = none ∨ ∀ o ∈ ops.toList, ∀ c, o.op ≠ .defer c) {Z : Exit → Act → World → Prop} (hQ : ¬ LetsOut Z) : ∀ (fuel : Nat) (listed : Array Bool) (a : Act) (w : World), wpAny P .any ops Z fuel listed a w → wpAnyIn (Fo ro) 0 P .any ops Z fuel listed a w
  | 0, _, _, _, h => h
  | fuel + 1, listed, a, w, h => ⟨h.1, fun i hi => by
    have h2 := h.2 i hi
    unfold wpOp at h2
    unfold wpOpIn
    split
    · rename_i hn1
      rw [hn1] at h2
      exact wpAnyIn_of hn hQ fuel _ _ _ h2
    · rename_i o ho
      rw [ho] at h2
      have hm : o ∈ ops.toList := Array.mem_toList_iff.2 (Array.mem_of_getElem? ho)
      by_cases hw : Region.wanted o (yielded ops a.tmps) = true
      · rw [if_pos hw]
        simp only [hw, if_true] at h2
        rcases h2 with h2 | h2
        · exact Oper.wpIn_mono (fun a w h => wpAnyIn_of hn hQ fuel _ a w h) (wpIn_of_wp (hn.imp (fun h => h) fun h => h o hm) h2)
        · exact absurd h2.2 hQ
      · rw [if_neg hw]
        simp only [hw] at h2
        exact ⟨fun _ _ => trivial, wpAnyIn_of hn hQ fuel _ _ _ h2⟩⟩
theorem out_not {K : Fr → World → Prop} : ¬ LetsOut (fun e a' w' => e = .normal ∧ ∃ ρ', Rel D n a' ρ' ∧ K ρ' w') := fun ⟨_, _, h, _⟩ => by cases h
theorem X.drg {ops : List ML} {t : Option DT} (hm : P.follows .mixedOrders = true) (h : ∀ K : Fr → Prop, (∀ ρ, (∀ w', Ext w w' → Z .normal D ρ w') → K ρ) → Q P K w ops ρ) (hd : ro = none ∨ ops.all notDf = true := by first | exact .inl rfl | exact .inr rfl) : X P n ro (.drg ops t) Z D ρ w := fun x hx a hr => by
  obtain ⟨id, os, rfl, hall, hlex, rfl, _⟩ := conv_drg hx
  have hq := Q_wpQuiet (D := D) (n := n) (w := w) (ops := os) (K := fun ρ => ∀ w', Ext w w' → Z .normal D ρ w') os.toList ρ a (fun o ho => List.all_eq_true.1 hall o ho) hr (h _ fun _ h => h)
  simp only [Region.lexB, Bool.and_eq_true] at hlex
  have hl := wpAnyQ_lex (C := Ext w) (md := .any) hlex.1 os.toList 0 (Array.replicate os.size false) a (by simp) (by simpa using hlex.2) hq
  have hany := wpAny_of_quiet (P := P) (C := Ext w) (Q' := fun e a' w' => e = .normal ∧ ∃ ρ', Rel D n a' ρ' ∧ (Z .normal D ρ' w')) (fun a' w' hw' ⟨ρ', h1, h2⟩ => ⟨rfl, ρ', h1, h2 w' hw'⟩) _ _ _ w.drew ((Ext.refl w).drew) hl
  refine wpIn_mono (wpIn_region_any hm (wpAnyIn_of (ro := ro) (hd.imp (fun h => h) notDf_ops) (out_not (D := D) (n := n) (K := fun ρ w => Z .normal D ρ w)) _ _ _ _ (by simpa using hany))) ?_
  rintro e a' w' ⟨rfl, ρ', hr', hq⟩
  exact ⟨D, ρ', hr', hq⟩
def noTl : DT → Bool
  | .tail _ _ => false
  | _ => true
theorem X.drt {ops : List ML} {t : DT} (hm : P.follows .mixedOrders = true) (h : ∀ K : Fr → World → Prop, (∀ ρ w, Z .normal D ρ w → K ρ w) → ∀ wd, Ext w wd → OT P K t ρ wd) (hd : ro = none ∨ (noTl t = true ∧ ops.all notDf = true) := by first | exact .inl rfl | exact .inr ⟨rfl, rfl⟩) : X P n ro (.drg ops (some t)) Z D ρ w := fun x hx a hr => by
  obtain ⟨id, os, rfl, hall, hlex, rfl, ht⟩ := conv_drg hx
  have hall' : ∀ o ∈ os.toList, okOp n os o = true := fun o ho => List.all_eq_true.1 hall o ho
  have hb : (Region.noSelect os = true ∧ buildT P os os.size (Array.replicate os.size false) = some t) ∨ tailOf P os = some t ∨ treeX P os = some t ∨ t = .inv (os.toList.map (cop P os)) (os.toList.map depsOf) := by
    unfold treeOf at ht
    split at ht
    · simp at ht
    · rename_i h0
      simp only [Bool.or_eq_true, not_or, Bool.not_eq_true, Bool.not_eq_false'] at h0
      replace h0 := h0.1
      split at ht
      · rename_i t' h1
        split at ht
        · simp at ht; subst ht; exact .inl ⟨h0.2, h1⟩
        · split at ht
          · rename_i x hx; simp at ht; subst ht; exact .inr (.inl hx)
          · split at ht
            · simp at ht; subst ht; exact .inl ⟨h0.2, h1⟩
            · simp at ht
      · split at ht
        · rename_i x hx; simp at ht; subst ht; exact .inr (.inl hx)
        · split at ht
          · rename_i x hx; simp at ht; subst ht; exact .inr (.inr (.inl hx))
          · split at ht
            · simp at ht
            · simp at ht; exact .inr (.inr (.inr ht))
  have hdr : Ext w w.drew := (Ext.refl w).drew
  have hn : ro = none ∨ ∀ o ∈ os.toList, ∀ c, o.op ≠ .defer c := hd.imp (fun h => h) fun h => notDf_ops h.2
  have fin : wpAny P .any os (fun e a' w' => e = .normal ∧ ∃ ρ', Rel D n a' ρ' ∧ (Z .normal D ρ' w')) os.size (Array.replicate os.size false) a w.drew → (Code.region id os true).wpIn (Fo ro) 0 P (XQ n Z) a w := fun hany => by
    refine wpIn_mono (wpIn_region_any hm (wpAnyIn_of (ro := ro) hn (out_not (D := D) (n := n) (K := fun ρ w => Z .normal D ρ w)) _ _ _ _ hany)) ?_
    rintro e a' w' ⟨rfl, ρ', hr', hq⟩
    exact ⟨D, ρ', hr', hq⟩
  rcases hb with hb | hb | hb | hb
  · exact fin (buildT_sound (D := D) (K := fun ρ w => Z .normal D ρ w) hall' hb.1 os.size (Array.replicate os.size false) t ρ a w.drew hb.2 hr (h _ (fun _ _ h => h) w.drew hdr))
  · rcases hd with rfl | hd
    · unfold tailOf at hb
      split at hb
      · rename_i hB
        simp only [Option.some.injEq] at hb
        subst hb
        have hq := h (fun ρ w => Z .normal D ρ w) (fun _ _ h => h) w (Ext.refl w)
        have hq2 := Q_wpQuiet (D := D) (n := n) (w := w) (ops := os) (os.toList.take (headN P os)) ρ a (fun o ho => hall' o (List.mem_of_mem_take ho)) hr hq
        refine wpIn_wide.2 (wp_mono (wp_quiet_tail (C := Ext w) (R := fun e a' w' => e = .normal ∧ ∃ ρ', Rel D n a' ρ' ∧ (Z .normal D ρ' w')) (headN P os) hm hB hdr (wpQuiet_mono' ?_ _ _ hq2)) ?_)
        · rintro a' ⟨ρ', h1, h2⟩ w' hw'
          exact O_wpList (D := D) (n := n) (ops := os) (K := fun ρ w => Z .normal D ρ w) (os.toList.drop (headN P os)) ρ' w' a' (fun o ho => hall' o (List.mem_of_mem_drop ho)) h1 (h2 w' hw')
        · rintro e a' w' ⟨rfl, ρ', hr', hq⟩
          exact ⟨D, ρ', hr', hq⟩
      · simp at hb
    · unfold tailOf at hb
      split at hb
      · simp only [Option.some.injEq] at hb
        subst hb
        exact absurd hd.1 (by simp [noTl])
      · simp at hb
  · exact fin (treeX_sound (D := D) (K := fun ρ w => Z .normal D ρ w) hall' hb hr (h _ (fun _ _ h => h) w.drew hdr))
  · have hi := h (fun ρ w => Z .normal D ρ w) (fun _ _ h => h) w.drew hdr
    rw [hb] at hi
    obtain ⟨J, j0, js, jf⟩ := hi
    refine fin (inv_sound (D := D) hall' js jf _ _ ρ a w.drew (by simp) (Nat.le_trans List.countP_le_length (by simp)) hr ?_)
    have e : (fun j => (Array.replicate os.size false).getD j false) = fun _ => false := by
      funext j
      rw [Array.getD_eq_getD_getElem?, Array.getElem?_replicate]
      split <;> rfl
    rw [e]
    exact j0
def recL (st : LoopState) (pe : Option Code) (fn : FuncId) (tm : Array Value) (ps : Array Tmp) (asg bod : Code) (b : Nat) : Loop := { state := st, pending := pe, fn := fn, tmps := tm, params := ps, assign := asg, body := bod, defers := b }
def JumpX (Z : XP) (D : List Deferred) (ρ : Fr) (w : World) : Option Code → Prop
  | none => Z .normal D ρ w
  | some .ret => Z .ret D ρ w
  | some (.exit id) => Z (.exit id) D ρ w
  | _ => False
theorem X.rng {g : Operand} {ps : List Nat} {A B : MC} {gf : Nat} {cap : Array Value} (hg : ev ρ g = .func (.func gf) #[] cap) (hown : ownFn P gf = true)
    (h : ∀ (fn : FuncId) (tm : Array Value) (asg bod : Code), conv P n asg = A → conv P n bod = B → (tm.size = n ∧ ∀ t, tm.getD t undef = ρ t) →
      Ret P gf (#[.func (.yield (w.heap.size + 1)) #[] #[]] ++ cap) ((w.alloc (.deferred (some []))).alloc (.loop (recL .ready none fn tm ps.toArray asg bod w.heap.size)))
        fun _ w3 => ∃ st pe, st ≠ .busy ∧ w3.heap[w.heap.size + 1]? = some (.loop (recL st pe fn tm ps.toArray asg bod w.heap.size)) ∧
          JumpX Z ({ target := .collected w.heap.size, args := #[] } :: D) ρ (w3.putObj (w.heap.size + 1) (.loop (recL .exhausted pe fn tm ps.toArray asg bod w.heap.size))) pe) :
    X P n none (.rng g ps A B) Z D ρ w := fun x hx a hr => by
  cases x <;> simp only [conv] at hx <;> try (simp at hx; done)
  · split at hx <;> try (simp at hx; done)
    split at hx <;> simp at hx
  · rename_i g' ps' asg bod
    injection hx with h1 h2 h3 h4
    subst h1
    have hps : ps' = ps.toArray := by rw [← h2]
    subst hps
    refine wpIn_rangeFunc ?_
    intro fn _
    have hge : a.eval g' = .func (.func gf) #[] cap := by rw [hr.eval, hg]
    have hent := run_enterLoop_outer (P := P) (w := w) fn a.tmps ps.toArray asg bod
    have hcal := h fn a.tmps asg bod h3 h4 ⟨hr.2.1, hr.2.2⟩
    change Ret P gf _ ((w.alloc (.deferred (some []))).alloc (.loop { state := .ready, pending := none, fn := fn, tmps := a.tmps, params := ps.toArray, assign := asg, body := bod, defers := w.heap.size })) _ at hcal
    generalize (w.alloc (.deferred (some []))).alloc (.loop { state := .ready, pending := none, fn := fn, tmps := a.tmps, params := ps.toArray, assign := asg, body := bod, defers := w.heap.size }) = W1 at *
    refine ⟨w.heap.size + 1, [{ target := .collected w.heap.size, args := #[] }], W1, { target := .fn (.func gf) cap, args := #[.func (.yield (w.heap.size + 1)) #[] #[]] }, W1, gf,
      #[.func (.yield (w.heap.size + 1)) #[] #[]] ++ cap, W1, hent, ?_, fun _ _ => trivial, ?_, dep_fo, ?_⟩
    · simp only [resolve, hge]
      simp [go_sem]
    · unfold ownFn at hown
      split at hown <;> try (simp at hown; done)
      rename_i fnn hf
      simp only [Bool.and_eq_true, Bool.not_eq_true', beq_eq_false_iff_ne, ne_eq] at hown
      obtain ⟨hb, hn1⟩ := hown
      obtain ⟨b, hb⟩ := Option.isSome_iff_exists.1 hb
      simp [invoke, callFunc, hf, hn1, hb]
    · refine callsIn_fo.2 (Calls.mono hcal ?_)
      rintro e w3 ⟨v, rfl, st, pe, h5, h6, h7⟩
      have h8 := run_endLoop (P := P) h6 (by simpa [recL] using h5)
      refine ⟨pe, _, h8, ?_⟩
      have hr2 : Rel ({ target := .collected w.heap.size, args := #[] } :: D) n { a with defers := [{ target := .collected w.heap.size, args := #[] }] ++ a.defers } ρ := ⟨by simp [hr.1], hr.2⟩
      cases pe with
      | none => exact ⟨_, ρ, hr2, h7⟩
      | some c =>
        cases c <;> first | exact h7.elim | exact wpIn_ret ⟨_, ρ, hr2, h7⟩ | exact wpIn_exit ⟨_, ρ, hr2, h7⟩
def RPost (P : Program) (l : Nat) (R : Ending → World → Prop) : XP := fun e _ _ w => match e with
  | .normal => ∃ v w', (Instr.endRound l none).run P w = .ok v w' ∧ R (.returned v) w'
  | .ret => ∃ v w', (Instr.endRound l (some .ret)).run P w = .ok v w' ∧ R (.returned v) w'
  | .exit id => ∃ v w', (Instr.endRound l (some (.exit id))).run P w = .ok v w' ∧ R (.returned v) w'
  | _ => False
theorem round_X {l : Nat} {fn : FuncId} {tm : Array Value} {asg bod : Code} {A B : MC} {R : Ending → World → Prop} (hA : conv P n asg = A) (hB : conv P n bod = B) (hrel : tm.size = n ∧ ∀ t, tm.getD t undef = ρ t)
    (h : X P n (some l) A (ThenX (fun D' ρ' w' => D' = [] ∧ ∃ w2, (Instr.beginRound l).run P w' = .ok () w2 ∧ X P n (some l) B (RPost P l R) [] ρ' w2) (fun _ _ _ _ => False)) [] ρ w) : RoundIn Fence.wide 0 P l fn tm asg bod w R := by
  refine roundIn_of_wpIn (F := Fence.wide) trivial ?_
  refine wpIn_mono (h asg hA { tmps := tm, defers := [] } ⟨rfl, hrel⟩) ?_
  rintro e a' w' ⟨D', ρ', hr', hq⟩
  cases e with
  | normal =>
    obtain ⟨rfl, w2, hb, hX⟩ := hq
    refine ⟨w2, hb, wpIn_mono (hX bod hB a' hr') ?_⟩
    rintro e a2 w3 ⟨_, _, _, hq⟩
    cases e <;> first | exact hq | exact False.elim hq
  | _ => exact hq
def FinX (P : Program) (fn : Func) (n : Nat) (V : Value → World → Prop) : XP := fun e D ρ w => (e = .normal ∨ e = .ret) ∧
  match D with
  | [] => ∃ v, (∀ a, Rel [] n a ρ → (results fn a.tmps).run P w = .ok v w) ∧ V v w
  | [d] => ∃ b v, d.target = .collected b ∧ w.heap[b]? = some (.deferred (some [])) ∧ (∀ a, Rel [] n a ρ → (results fn a.tmps).run P (w.putObj b (.deferred none)) = .ok v (w.putObj b (.deferred none))) ∧ V v (w.putObj b (.deferred none))
  | _ => False
theorem ret_X {f : FuncId} {fn : Func} {c : Code} {m : MC} {args : List Value} {V : Value → World → Prop} (hf : P.funcs[f]? = some fn) (hb : fn.body = some c) (hn : fn.ntmps = n) (hle : args.length ≤ n) (hm : conv P n c = m)
    (h : X P n none m (FinX P fn n V) [] (frL 0 args) w) : Ret P f args.toArray w V := by
  refine callsIn_fo.1 (callsIn_of_wp_marks (F := Fo none) (n := 0) hf hb trivial ?_ rfl)
  have hrel : Rel [] n { tmps := args.toArray ++ Array.replicate (fn.ntmps - args.toArray.size) undef, defers := [] } (frL 0 args) := by
    rw [← argFr_eq]
    refine ⟨rfl, by simp [hn]; omega, fun t => ?_⟩
    simp only [argFr, Array.getD_eq_getD_getElem?, Array.getElem?_append, List.size_toArray, List.getElem?_toArray, List.getD_eq_getElem?_getD]
    split
    · rfl
    · rename_i hlt
      rw [List.getElem?_eq_none (by omega), Array.getElem?_replicate]
      split <;> rfl
  refine wpIn_mono (h c hm _ hrel) ?_
  rintro e a' w' ⟨D', ρ', hr', he, hq⟩
  have key : LeavesInM (Fo none) 0 P fn a'.tmps (fun e w' => ∃ v, e = .returned v ∧ V v w') a'.defers .returning w' := by
    rw [hr'.1]
    match D', hq with
    | [], ⟨v, h1, h2⟩ => exact ⟨v, h1 { a' with defers := [] } ⟨rfl, hr'.2⟩, v, rfl, h2⟩
    | [d], ⟨b, v, h1, h2, h3, h4⟩ =>
      exact ⟨by simp, .inl ⟨b, _, h1, run_takeDeferred h2, v, h3 { a' with defers := [] } ⟨rfl, hr'.2⟩, v, rfl, h4⟩⟩
  rcases he with rfl | rfl <;> exact key
end
def CallY (P : Program) (f : Value) (args : List Value) (w : World) (d : Option Nat) (ρ : Fr) (next : Fr → World → Prop) : Prop := CallV P f args w d ρ next ∨ ∃ l r, f = .func (.yield l) #[] #[] ∧ w.heap[l]? = some (.loop r) ∧ args.length = r.params.size ∧
  RoundIn Fence.wide 0 P l r.fn ((r.params.zip args.toArray).foldl (fun tmps (t, a) => tmps.setIfInBounds t a) r.tmps) r.assign r.body w fun e w' => ∃ v, e = .returned v ∧ next (updO ρ d v) w'
theorem yc_yes {g : Option (Nat × Bool)} {d : Option Nat} {t : Nat} {xs : Array Operand} {ts : Array TypeId} {ty : TypeId} {next : Fr → World → Prop} {ρ : Fr} {w : World} (h : CallY P (ρ t) (xs.toList.map (ev ρ)) w d ρ next) (hg : gF ρ g = true) :
    YC P ⟨g, d, .raw (.call ⟨.value (.tmp t), xs, ts⟩) ty⟩ next ρ w := by
  rcases h with h | ⟨l, r, h1, h2, h3, h4⟩
  · refine .inl ?_
    unfold O1
    rw [if_pos hg]
    have e := O_cv (P := P) (K := next) (rest := []) (ρ := ρ) (w := w) (d := d) (ty := ty) t xs ts
    have e2 : O P next [⟨none, d, .raw (.call ⟨.value (.tmp t), xs, ts⟩) ty⟩] ρ w := by rw [e]; exact h
    exact e2
  · refine .inr ⟨hg, t, xs, ts, ty, l, r, rfl, h1, h2, by simpa using h3, ?_⟩
    have e : xs.map (ev ρ) = (xs.toList.map (ev ρ)).toArray := by rw [← List.map_toArray]
    rw [e]; exact h4
theorem yc_no {g : Option (Nat × Bool)} {d : Option Nat} {m : MO} {next : Fr → World → Prop} {ρ : Fr} {w : World} (h : next (updO ρ d undef) w) (hg : gF ρ g = false) : YC P ⟨g, d, m⟩ next ρ w := by
  refine .inl ?_
  unfold O1
  rw [if_neg (by rw [hg]; decide)]
  exact h
theorem G.regyk {fn : Func} {r : List MI} {R : Value → World → Prop} {ρ : Fr} {w : World} {ops : List ML} (k : Nat) (m : ML) (hm : ops[k]? = some m)
    (h : ∀ K1 K : Fr → World → Prop, (∀ ρ w, G P fn n r R ρ w → K ρ w) → (∀ ρ w, YC P m (O P K (ops.drop (k + 1))) ρ w → K1 ρ w) → O P K1 (ops.take k) ρ w) : G P fn n (.c (.reg ops) :: r) R ρ w := by
  have e : ops = ops.take k ++ m :: ops.drop (k + 1) := by
    obtain ⟨hk, rfl⟩ := List.getElem?_eq_some_iff.1 hm
    rw [← List.drop_eq_getElem_cons hk, List.take_append_drop]
  have := G.regy (A := ops.take k) (B := ops.drop (k + 1)) (m := m) h
  rw [← e] at this
  exact this
end Go.Proofs.Ytcglgnbeliljoaa
namespace Go.Proofs.Ytcglgnbeliljoaa
set_option linter.unusedSimpArgs false
set_option linter.unusedVariables false
open Go.RowKit
inductive YI | c (m : MC) | b (id : Nat) | k (K : List Deferred → Fr → World → Prop)
def YZ (P : Program) (n : Nat) (ro : Option Nat) (Z : XP) : List YI → XP
  | [] => Z
  | .c m :: r => ThenX (X P n ro m (YZ P n ro Z r)) (YZ P n ro Z r)
  | .b id :: r => InX id (YZ P n ro Z r)
  | .k K :: r => ThenX K (YZ P n ro Z r)
def Y (P : Program) (n : Nat) (ro : Option Nat) (Z : XP) (r : List YI) (D : List Deferred) (ρ : Fr) (w : World) : Prop := YZ P n ro Z r .normal D ρ w
def exitY (id : Nat) : List YI → Option (List YI)
  | .b i :: r => if i == id then some r else exitY id r
  | _ :: r => exitY id r
  | [] => none
section
variable {P : Program} {n : Nat} {ro : Option Nat} {Z : XP} {r : List YI} {D : List Deferred} {ρ : Fr} {w : World}
theorem inX_eq {id : Nat} {Q : XP} : InX id Q (.exit id) = Q .normal := by show (if id = id then Q .normal else Q (.exit id)) = _; rw [if_pos rfl]
theorem inX_ne {i id : Nat} {Q : XP} (h : ¬ id = i) : InX i Q (.exit id) = Q (.exit id) := by show (if id = i then Q .normal else Q (.exit id)) = _; rw [if_neg h]
theorem exitY_eq {id : Nat} : ∀ (r r' : List YI), exitY id r = some r' → YZ P n ro Z r (.exit id) = YZ P n ro Z r' .normal
  | [], _, h => by simp [exitY] at h
  | .c m :: r, r', h => exitY_eq r r' h
  | .k K :: r, r', h => exitY_eq r r' h
  | .b i :: r, r', h => by
    simp only [exitY] at h
    by_cases e : i = id
    · subst e; simp at h; subst h; exact inX_eq
    · rw [if_neg (by simpa using e)] at h
      exact (inX_ne (fun h => e h.symm)).trans (exitY_eq r r' h)
theorem YZ_ret : ∀ (r : List YI), YZ P n ro Z r .ret = Z .ret
  | [] => rfl
  | .c _ :: r => YZ_ret r
  | .k _ :: r => YZ_ret r
  | .b _ :: r => YZ_ret r
def admY : List YI → Option (List YI)
  | .c (.seq a b) :: r => some (.c a :: .c b :: r)
  | .c (.blk i c) :: r => some (.c c :: .b i :: r)
  | .b _ :: r => some r
  | .c .skip :: r => some r
  | .c .lab :: r => some r
  | .c (.exit i) :: r => exitY i r
  | _ => none
theorem Y.a {r' : List YI} (e : admY r = some r') (h : Y P n ro Z r' D ρ w) : Y P n ro Z r D ρ w := by
  unfold admY at e
  split at e
  · injection e with e; subst e; exact X.seq h
  · injection e with e; subst e; exact X.blk h
  · injection e with e; subst e; exact h
  · injection e with e; subst e; exact X.skip h
  · injection e with e; subst e; exact X.lab h
  · refine X.exit ?_
    rw [exitY_eq _ _ e]; exact h
  · simp at e
theorem Y.ret (h : Z .ret D ρ w) : Y P n ro Z (.c .ret :: r) D ρ w := by
  refine X.ret ?_
  rw [YZ_ret]; exact h
theorem Y.end (h : Z .normal D ρ w) : Y P n ro Z [] D ρ w := h
theorem Y.cn {c : Operand} {a b : MC} {t : Bool} {c1 c2 : Prop} (ht : c1 → Y P n ro Z (.c a :: r) D ρ w) (hf : c2 → Y P n ro Z (.c b :: r) D ρ w)
    (hc : ev ρ c = .bool t := by (simp only [push_cast, ↓reduceIte, Nat.reduceAdd, Nat.reduceLeDiff, Nat.reduceEqDiff, Nat.reduceLT, Int.reduceToNat, fct]; rfl)) (h1 : (t = true) = c1 := by first | (conv => lhs; simp only [hcs, reduceCtorEq]) | rfl) (h2 : (t = false) = c2 := by first | (conv => lhs; simp only [hcs, reduceCtorEq]) | rfl) : Y P n ro Z (.c (.cond c a b) :: r) D ρ w :=
  X.cond hc (fun h => ht (h1.mp h)) (fun h => hf (h2.mp h))
theorem Y.gen (I : Fr → World → Prop) (h0 : I ρ w) (h : ∀ u w', I u w' → Y P n ro Z r D u w') : Y P n ro Z r D ρ w := h _ _ h0
theorem Y.loop {c : MC} (I : Fr → World → Prop) (μ : Fr → World → Nat) (h0 : I ρ w)
    (hr : ∀ K u w', I u w' → (∀ ρ' w'', I ρ' w'' → μ ρ' w'' < μ u w' → K D ρ' w'') → Y P n ro Z (.c c :: .k K :: r) D u w') : Y P n ro Z (.c (.loop c) :: r) D ρ w :=
  X.loop I μ h0 fun u w' hI => hr (fun D' ρ' w'' => D' = D ∧ I ρ' w'' ∧ μ ρ' w'' < μ u w') u w' hI fun _ _ h1 h2 => ⟨rfl, h1, h2⟩
theorem Y.reg {ops : List ML} (h : ∀ K : Fr → World → Prop, (∀ ρ w, Y P n ro Z r D ρ w → K ρ w) → O P K ops ρ w) (hd : ro = none ∨ ops.all notDf = true := by first | exact .inl rfl | exact .inr rfl) : Y P n ro Z (.c (.reg ops) :: r) D ρ w := X.reg h hd
theorem Y.drg {ops : List ML} {t : Option DT} (hm : P.follows .mixedOrders = true) (h : ∀ K : Fr → Prop, (∀ ρ, (∀ w', Ext w w' → Y P n ro Z r D ρ w') → K ρ) → Q P K w ops ρ) (hd : ro = none ∨ ops.all notDf = true := by first | exact .inl rfl | exact .inr rfl) : Y P n ro Z (.c (.drg ops t) :: r) D ρ w := X.drg hm h hd
theorem Y.drt {ops : List ML} {t : DT} (hm : P.follows .mixedOrders = true) (h : ∀ K : Fr → World → Prop, (∀ ρ w, Y P n ro Z r D ρ w → K ρ w) → ∀ wd, Ext w wd → OT P K t ρ wd) (hd : ro = none ∨ (noTl t = true ∧ ops.all notDf = true) := by first | exact .inl rfl | exact .inr ⟨rfl, rfl⟩) : Y P n ro Z (.c (.drg ops (some t)) :: r) D ρ w := X.drt hm h hd
def JumpY (P : Program) (n : Nat) (ro : Option Nat) (Z : XP) (r : List YI) (D : List Deferred) (ρ : Fr) (w : World) (pe : Option Code) : Prop := JumpX (YZ P n ro Z r) D ρ w pe
theorem JumpY.none (h : Y P n ro Z r D ρ w) : JumpY P n ro Z r D ρ w none := h
theorem JumpY.ret (h : Z .ret D ρ w) : JumpY P n ro Z r D ρ w (some .ret) := by
  show YZ P n ro Z r .ret D ρ w
  rw [YZ_ret]; exact h
theorem JumpY.exit {id : Nat} {r' : List YI} (h : Y P n ro Z r' D ρ w) (e : exitY id r = some r' := by rfl) : JumpY P n ro Z r D ρ w (some (.exit id)) := by
  show YZ P n ro Z r (.exit id) D ρ w
  rw [exitY_eq _ _ e]; exact h
theorem Y.rng {g : Operand} {ps : List Nat} {A B : MC} {gf : Nat} {cap : Array Value} (hg : ev ρ g = .func (.func gf) #[] cap) (hown : ownFn P gf = true)
    (h : ∀ (fn : FuncId) (tm : Array Value) (asg bod : Code), conv P n asg = A → conv P n bod = B → (tm.size = n ∧ ∀ t, tm.getD t undef = ρ t) →
      Ret P gf (#[.func (.yield (w.heap.size + 1)) #[] #[]] ++ cap) ((w.alloc (.deferred (some []))).alloc (.loop (recL .ready none fn tm ps.toArray asg bod w.heap.size)))
        fun _ w3 => ∃ st pe, st ≠ .busy ∧ w3.heap[w.heap.size + 1]? = some (.loop (recL st pe fn tm ps.toArray asg bod w.heap.size)) ∧
          JumpY P n none Z r ({ target := .collected w.heap.size, args := #[] } :: D) ρ (w3.putObj (w.heap.size + 1) (.loop (recL .exhausted pe fn tm ps.toArray asg bod w.heap.size))) pe) :
    Y P n none Z (.c (.rng g ps A B) :: r) D ρ w := X.rng hg hown h
theorem round_Y {l : Nat} {fn : FuncId} {tm : Array Value} {asg bod : Code} {A B : MC} {R : Ending → World → Prop} (hA : conv P n asg = A) (hB : conv P n bod = B) (hrel : tm.size = n ∧ ∀ t, tm.getD t undef = ρ t)
    (h : ∀ K : List Deferred → Fr → World → Prop, (∀ ρ' w', (∃ w2, (Instr.beginRound l).run P w' = .ok () w2 ∧ Y P n (some l) (RPost P l R) [.c B] [] ρ' w2) → K [] ρ' w') → Y P n (some l) (fun _ _ _ _ => False) [.c A, .k K] [] ρ w) : RoundIn Fence.wide 0 P l fn tm asg bod w R :=
  round_X (ρ := ρ) hA hB hrel (h _ fun ρ' w' h => ⟨rfl, h⟩)
theorem Y.enter {f : FuncId} {fn : Func} {c : Code} {m : MC} {args : List Value} {V : Value → World → Prop} (hf : P.funcs[f]? = some fn) (hb : fn.body = some c) (hn : fn.ntmps = n) (hle : args.length ≤ n) (hm : conv P n c = m)
    (h : Y P n none (FinX P fn n V) [.c m] [] (frL 0 args) w) : Ret P f args.toArray w V := ret_X hf hb hn hle hm h
section
variable {fn : Func} {V : Value → World → Prop} {r1 : ResultVar} {v1 : Value}
theorem FinY.one (h : V v1 w) (hf : fn.results = #[r1]) (h1 : RV P ρ w r1 v1) : FinX P fn n V .ret [] ρ w := ⟨.inr rfl, v1, fun a hr => by
  have e1 := rv_run hr h1
  rw [results_eq, hf]
  simp [e1], h⟩
theorem FinY.mark {b : Nat} {w' : World} (h : V v1 w') (hw : w.putObj b (.deferred none) = w') (hb : w.heap[b]? = some (.deferred (some []))) (hf : fn.results = #[r1]) (h1 : RV P ρ w' r1 v1) : FinX P fn n V .ret [{ target := .collected b, args := #[] }] ρ w := by
  subst hw
  exact ⟨.inr rfl, b, v1, rfl, hb, fun a hr => by
    have e1 := rv_run hr h1
    rw [results_eq, hf]
    simp [e1], h⟩
theorem FinY.mark0 {b : Nat} {w' : World} {e : Exit} (he : e = .normal ∨ e = .ret) (h : V (.tuple #[]) w') (hw : w.putObj b (.deferred none) = w') (hb : w.heap[b]? = some (.deferred (some []))) (hf : fn.results = #[]) : FinX P fn n V e [{ target := .collected b, args := #[] }] ρ w := by
  subst hw
  exact ⟨he, b, .tuple #[], rfl, hb, fun a hr => results_none hf _ _ _, h⟩
end
theorem rel_set1 {tm : Array Value} {k : Nat} {v : Value} (h : tm.size = n ∧ ∀ t, tm.getD t undef = ρ t) (hk : k < n) :
    ((#[k].zip #[v]).foldl (fun tmps (t, a) => tmps.setIfInBounds t a) tm).size = n ∧ ∀ t, ((#[k].zip #[v]).foldl (fun tmps (t, a) => tmps.setIfInBounds t a) tm).getD t undef = upd ρ k v t := by
  have e : (#[k].zip #[v]).foldl (fun tmps (t, a) => tmps.setIfInBounds t a) tm = tm.setIfInBounds k v := by simp
  rw [e]
  refine ⟨by simp [h.1], fun t => ?_⟩
  have h2 := h.2 t
  by_cases e : t = k
  · subst e
    simp [upd_same, h.1, hk]
  · have e' : ¬ k = t := fun x => e x.symm
    have e2 : upd ρ k v t = ρ t := by simp [upd, e]
    rw [e2, ← h2]
    simp only [Array.getD_eq_getD_getElem?]
    rw [Array.getElem?_setIfInBounds_ne e']
def fnT (P : Program) (t : TypeId) : Bool := match P.underlying t with
  | some (.func ..) => true
  | _ => false
theorem zfn {x y : Operand} {t : TypeId} {d : Option Nat} {next : Fr → World → Prop} {f : Fn} {bs cs : Array Value} (h : next (updO ρ d (.bool false)) w) (hu : fnT P t = true := by kernel_rfl) :
    SemK P (do eqGuard .eql t x y (.func f bs cs) .nilFunc; binOp .eql t (.func f bs cs) .nilFunc) w d ρ next := by
  have e : (Op.equal t (.func f bs cs) .nilFunc).run P w = .ok false w := by
    unfold fnT at hu
    split at hu
    · rename_i h1
      have e0 : ∀ dd, (Op.equalIn (dd + 1) t (.func f bs cs) .nilFunc).run P w = .ok false w := fun dd => by
        simp [Op.equalIn, run_underlying h1]
      simpa [Op.equal, Op.maxDepth] using e0 9999
    · simp at hu
  exact ⟨_, w, by simp [eqGuard, binOp, e], h⟩
end
end Go.Proofs.Ytcglgnbeliljoaa
namespace Go.Proofs.Ytcglgnbeliljoaa
set_option linter.unusedSimpArgs false
set_option linter.unusedVariables false
open Go.RowKit
section
variable {D : List Deferred} {P : Program} {n : Nat} {ro : Option Nat} {ρ : Fr} {w : World} {K : Fr → World → Prop}
def OY (P : Program) (K : Fr → World → Prop) : List ML → Fr → World → Prop
  | [], ρ, w => K ρ w
  | m :: l, ρ, w => YC P m (OY P K l) ρ w
def OTy (P : Program) (K : Fr → World → Prop) : DT → Fr → World → Prop
  | .leaf ops, ρ, w => OY P K ops ρ w
  | .br ops a b, ρ, w => OY P (fun ρ' w' => OTy P K a ρ' w' ∧ OTy P K b ρ' w') ops ρ w
  | _, _, _ => False
theorem OS_mono {d : Option Nat} {m : MO} {f g : Fr → World → Prop} (h : ∀ ρ w, f ρ w → g ρ w) (hh : OS P d m ρ w f) : OS P d m ρ w g := by
  cases m <;> first
    | exact ⟨hh.1, h _ _ hh.2⟩
    | exact Ret.mono hh fun _ _ h2 => h _ _ h2
    | (rcases hh with ⟨v, w', h1, h2⟩ | ⟨w', h1, h2⟩ | ⟨f, args, w', h1, h2⟩
       · exact .inl ⟨v, w', h1, h _ _ h2⟩
       · exact .inr (.inl ⟨w', h1, h _ _ h2⟩)
       · exact .inr (.inr ⟨f, args, w', h1, Ret.mono h2 fun _ _ h3 => h _ _ h3⟩))
theorem O1_mono {m : ML} {f g : Fr → World → Prop} (h : ∀ ρ w, f ρ w → g ρ w) (hh : O1 P m f ρ w) : O1 P m g ρ w := by
  unfold O1 at *
  split
  · rename_i hg; rw [if_pos hg] at hh; exact OS_mono h hh
  · rename_i hg; rw [if_neg hg] at hh; exact h _ _ hh
theorem YC_mono {m : ML} {f g : Fr → World → Prop} (h : ∀ ρ w, f ρ w → g ρ w) (hh : YC P m f ρ w) : YC P m g ρ w := by
  rcases hh with hh | ⟨hg, t, xs, ts, ty, l, r, h1, h2, h3, h4, h5⟩
  · exact .inl (O1_mono h hh)
  · exact .inr ⟨hg, t, xs, ts, ty, l, r, h1, h2, h3, h4, h5.mono fun e w' ⟨v, e1, e2⟩ => ⟨v, e1, h _ _ e2⟩⟩
theorem O_OY {B : List ML} : ∀ (A : List ML) (ρ : Fr) (w : World), O P (OY P K B) A ρ w → OY P K (A ++ B) ρ w
  | [], _, _, h => h
  | _ :: A, _, _, h => .inl (O1_mono (O_OY A) h)
theorem O_OYn (A : List ML) (ρ : Fr) (w : World) (h : O P K A ρ w) : OY P K A ρ w := by
  have := O_OY (K := K) (B := []) A ρ w h
  rwa [List.append_nil] at this
theorem OTy_leafk {ops : List ML} (k : Nat) (m : ML) (hm : ops[k]? = some m) (h : ∀ K1 : Fr → World → Prop, (∀ ρ w, YC P m (O P K (ops.drop (k + 1))) ρ w → K1 ρ w) → O P K1 (ops.take k) ρ w) : OTy P K (.leaf ops) ρ w := by
  have e : ops = ops.take k ++ m :: ops.drop (k + 1) := by
    obtain ⟨hk, rfl⟩ := List.getElem?_eq_some_iff.1 hm
    rw [← List.drop_eq_getElem_cons hk, List.take_append_drop]
  show OY P K ops ρ w
  rw [e]
  exact O_OY _ _ _ (h _ fun ρ w hy => YC_mono (fun ρ w => O_OYn _ ρ w) hy)
theorem OTy_br {l : List ML} {a b : DT} (h : ∀ K2 : Fr → World → Prop, (∀ ρ' w', OTy P K a ρ' w' → OTy P K b ρ' w' → K2 ρ' w') → O P K2 l ρ w) : OTy P K (.br l a b) ρ w :=
  O_OYn _ _ _ (h _ fun _ _ h1 h2 => ⟨h1, h2⟩)
theorem OTy_cons {m : ML} {t : DT} (h : OTy P K (t.cons m) ρ w) : YC P m (OTy P K t) ρ w := by
  cases t with
  | leaf _ => exact h
  | br _ _ _ => exact h
  | tail l p => exact YC_mono (fun _ _ h => h.1) h
  | inv l p => exact YC_mono (fun _ _ h => h.1) h
theorem fork_allY {f : Nat → Option DT} : ∀ {rs : List Nat} {t : DT}, DT.fork f rs = some t → OTy P K t ρ w → ∀ i ∈ rs, ∃ t', f i = some t' ∧ OTy P K t' ρ w
  | [], t, h, _ => by simp [DT.fork] at h
  | [j], t, h, ht => by
    intro i hi
    simp at hi; subst hi
    exact ⟨t, h, ht⟩
  | j :: j2 :: r, t, h, ht => by
    simp only [DT.fork] at h
    split at h
    · rename_i a b ha hb
      split at h
      · simp at h; subst h
        obtain ⟨h1, h2⟩ : OTy P K a ρ w ∧ OTy P K b ρ w := ht
        intro i hi
        rcases List.mem_cons.1 hi with rfl | hi
        · exact ⟨a, ha, h1⟩
        · exact fork_allY hb h2 i hi
      · simp at h
    · simp at h
theorem about_pure (o : Oper) (hp : pureM (cm P o) = true) (e : Operand → Value) (w : World) : o.about P w e = none := by
  unfold Oper.about
  split
  · rename_i c hc
    have h : cm P o = cmCall P c o := by
      show cmA P o o.op = _
      rw [hc]; rfl
    rw [h] at hp
    unfold cmCall at hp
    split at hp
    · rename_i h1
      have e2 : (resolve e c o.type).run P w = .ok { target := .builtin .len c.argTypes o.type (c.args.map fun | .const _ => true | _ => false), args := c.args.map e } w := by
        unfold resolve
        rw [h1]
        rfl
      rw [e2]
      rfl
    · split at hp <;> simp [pureM] at hp
    · simp [pureM] at hp
  · rfl
theorem YC_wpOp {ops : Array Oper} {i : Nat} {o : Oper} {a : Act} {next : Fr → World → Prop} {Q : Exit → Act → World → Prop} (hi : ops[i]? = some o) (ho : okOp n ops o = true) (hr : Rel D n a ρ) (h : YC P (cop P ops o) next ρ w) :
    wpOpIn (Fo none) 0 P ops Q i (fun a' w' => ∃ ρ', Rel D n a' ρ' ∧ next ρ' w') a w := by
  have hd : ∀ k, o.dst = some k → k < n := by
    intro k hk
    simp only [okOp, hk, Bool.and_eq_true, decide_eq_true_eq] at ho
    exact ho.1
  have hw := wanted_eq (P := P) hr ops o ho
  unfold wpOpIn
  simp only [hi]
  rw [hw]
  rcases h with h | ⟨hg, t, xs, ts, ty, l, r, hm, hv, hl, hs, hR⟩
  · unfold O1 at h
    by_cases hg : gF ρ (cop P ops o).g = true
    · rw [if_pos hg] at h ⊢
      exact wpIn_of_wp (.inl rfl) (OS_sound o next a _ hr hd h)
    · rw [if_neg hg] at h ⊢
      exact ⟨fun _ _ => trivial, _, hr.put _ _ hd, h⟩
  · rw [if_pos hg]
    have hop := (cm_raw (P := P) o _ _ hm).1
    refine ⟨fun _ _ => trivial, ?_⟩
    show Oper.uponIn (Fo none) 0 P o a _ Q ((execOp a.eval o).run P w)
    rw [hr.evalF, yc_run hop.symm hv hl hs, Oper.uponIn_round]
    refine ⟨dep_fo, RoundIn.mono (roundIn_fo hR) ?_⟩
    rintro e w' ⟨v, rfl, hn'⟩
    exact ⟨_, hr.put _ _ hd, hn'⟩
theorem buildT_soundY {ops : Array Oper} (hall : ∀ o ∈ ops.toList, okOp n ops o = true) (hsel : Region.noSelect ops = true) :
    ∀ (fuel : Nat) (listed : Array Bool) (t : DT) (ρ : Fr) (a : Act) (w : World), buildT P ops fuel listed = some t → Rel D n a ρ → OTy P K t ρ w →
      wpAnyIn (Fo none) 0 P .any ops (fun e a' w' => e = .normal ∧ ∃ ρ', Rel D n a' ρ' ∧ K ρ' w') fuel listed a w := by
  have hmem : ∀ {i : Nat} {o : Oper}, ops[i]? = some o → okOp n ops o = true := fun h => hall _ (Array.mem_toList_iff.2 (Array.mem_of_getElem? h))
  intro fuel
  induction fuel with
  | zero =>
    intro listed t ρ a w h hr ht
    simp only [buildT] at h
    split at h
    · rename_i he
      simp at h; subst h
      exact ⟨ready_nil he, rfl, ρ, hr, ht⟩
    · simp at h
  | succ fuel ih =>
    intro listed t ρ a w h hr ht
    simp only [buildT] at h
    split at h
    · rename_i he
      simp at h; subst h
      exact wpAnyIn_done (ready_nil he) ⟨rfl, ρ, hr, ht⟩ _
    · rename_i hne
      split at h
      · rename_i i hf
        have h1 := List.find?_some hf
        have h2 := List.mem_of_find?_eq_some hf
        simp only [Bool.and_eq_true] at h1
        split at h
        · rename_i o hi
          rw [hi] at h1
          simp only [Option.map_eq_some_iff] at h
          obtain ⟨t', ht', rfl⟩ := h
          have hpure : pureM (cm P o) = true := h1.2
          have ht : O1 P (cop P ops o) (OTy P K t') ρ w := by
            rcases OTy_cons ht with ht | ⟨_, _, _, _, _, _, _, hm, _⟩
            · exact ht
            · have e : cm P o = _ := hm
              rw [e] at hpure
              simp [pureM] at hpure
          have ho := hmem hi
          have hd : ∀ k, o.dst = some k → k < n := by
            intro k hk
            simp only [okOp, hk, Bool.and_eq_true, decide_eq_true_eq] at ho
            exact ho.1
          have hw := wanted_eq (P := P) hr ops o ho
          unfold O1 at ht
          by_cases hg : gF ρ (cop P ops o).g = true
          · rw [if_pos hg] at ht
            have hm : okM ρ w (cm P o) ∧ OTy P K t' (updO ρ o.dst (vM ρ w (cm P o))) w := by
              have e : OS P o.dst (cm P o) ρ w (OTy P K t') := ht
              have hwM := (okM_pure (ρ := ρ) (w := w) hpure w).2.2
              revert e hwM hpure
              generalize cm P o = m
              intro hpure e hwM
              cases m <;> first | exact e | exact absurd hpure (by simp [pureM])
            refine wpAnyIn_take (v := vM ρ w (cm P o)) rfl hi hsel h1.1 (by simpa using h2) (fun c a w hq => by cases hq.1) ⟨.inl ⟨by rw [hw]; exact hg, fun w' => ?_⟩, fun w' => about_pure o hpure _ w'⟩ (ih _ _ _ _ _ ht' (hr.put _ _ hd) hm.2)
            rw [hr.evalF]
            exact run_pure o hpure hm.1 w'
          · rw [if_neg hg] at ht
            exact wpAnyIn_take (v := undef) rfl hi hsel h1.1 (by simpa using h2) (fun c a w hq => by cases hq.1) ⟨.inr ⟨by rw [hw]; simpa using hg, rfl⟩, fun w' => about_pure o hpure _ w'⟩ (ih _ _ _ _ _ ht' (hr.put _ _ hd) ht)
        · simp at h
      · refine wpAnyIn_all rfl (fun e => hne (by simp [e])) fun i hi => ?_
        obtain ⟨t', h1, h2⟩ := fork_allY h ht i hi
        split at h1
        · rename_i o ho
          simp only [Option.map_eq_some_iff] at h1
          obtain ⟨t2, h3, rfl⟩ := h1
          refine wpOpIn_mono ?_ (YC_wpOp ho (hmem ho) hr (OTy_cons h2))
          rintro a' w' ⟨ρ', hr', h4⟩
          exact ih _ _ _ _ _ h3 hr' h4
        · simp at h1
theorem roundIn_ff {k l : Nat} {f : FuncId} {tmps : Array Value} {asg bod : Code} {w : World} {R : Ending → World → Prop} (h : RoundIn (Fo none) k P l f tmps asg bod w R) : RoundIn (Fo ro) 0 P l f tmps asg bod w R :=
  roundIn_fo (k := 0) ⟨trivial, fun c cs _ => h.2 c cs (fun _ h => by simp [Fo, Fence.wide] at h)⟩
theorem wpIn_any {o : Oper} {a : Act} {w : World} {K : Act → World → Prop} {Q : Exit → Act → World → Prop} (hnd : ro = none ∨ ∀ c, o.op ≠ .defer c) (h : o.wpIn (Fo none) 0 P a w K Q) : o.wpIn (Fo ro) 0 P a w K Q := by
  refine ⟨fun _ _ => trivial, ?_⟩
  have hs : o.semAt (Fo ro).round a.eval = o.semAt (Fo none).round a.eval := by
    rcases hnd with rfl | hnd
    · rfl
    · exact Oper.semAt_eq _ _ _ hnd
  have h := h.2
  rw [hs]
  generalize (o.semAt (Fo none).round a.eval).run P w = r at *
  cases r with
  | ok x w' =>
    cases x with
    | enter f args => exact ⟨dep_fo, callsIn_fo.2 (callsIn_fo.1 h.2)⟩
    | row row args => exact ⟨dep_fo, fun c cs _ => let ⟨v, w'', r, s⟩ := h.2 c cs (fun _ h => by simp [Fo, Fence.wide] at h); ⟨v, w'', r, stepsIn_wide.2 (stepsIn_wide.1 s)⟩⟩
    | round l f tmps asg bod => exact ⟨dep_fo, roundIn_ff h.2⟩
    | _ => exact h
  | halt e w' => exact h
theorem wpAnyIn_any {ops : Array Oper} (hn : ro = none ∨ ∀ o ∈ ops.toList, ∀ c, o.op ≠ .defer c) {Z : Exit → Act → World → Prop} : ∀ (fuel : Nat) (listed : Array Bool) (a : Act) (w : World), wpAnyIn (Fo none) 0 P .any ops Z fuel listed a w → wpAnyIn (Fo ro) 0 P .any ops Z fuel listed a w
  | 0, _, _, _, h => h
  | fuel + 1, listed, a, w, h => ⟨h.1, fun i hi => by
    have h2 := h.2 i hi
    unfold wpOpIn at h2 ⊢
    split
    · rename_i hn1
      rw [hn1] at h2
      exact wpAnyIn_any hn fuel _ _ _ h2
    · rename_i o ho
      rw [ho] at h2
      have hm : o ∈ ops.toList := Array.mem_toList_iff.2 (Array.mem_of_getElem? ho)
      by_cases hw : Region.wanted o (yielded ops a.tmps) = true
      · rw [if_pos hw]
        simp only [hw, if_true] at h2
        exact Oper.wpIn_mono (fun a w h => wpAnyIn_any hn fuel _ a w h) (wpIn_any (hn.imp (fun h => h) fun h => h o hm) h2)
      · rw [if_neg hw]
        simp only [hw] at h2
        exact ⟨fun _ _ => trivial, wpAnyIn_any hn fuel _ _ _ h2.2⟩⟩
def notAlc (m : ML) : Bool := match m.m with | .alc _ _ => false | _ => true
def brT : DT → Bool
  | .leaf _ | .br _ _ _ => true
  | _ => false
theorem treeX_no {ops : Array Oper} (h : (ops.toList.map (cop P ops)).all notAlc = true) : treeX P ops = none := by
  have e : alcX P ops = none := by
    unfold alcX
    rw [List.find?_eq_none]
    intro i hi
    split
    · rename_i o ho
      unfold isAlc
      split
      · rename_i h1 h2 h3
        have hm : o ∈ ops.toList := Array.mem_toList_iff.2 (Array.mem_of_getElem? ho)
        have h4 := List.all_eq_true.1 h _ (List.mem_map.2 ⟨o, hm, rfl⟩)
        have h5 : (cop P ops o).m = cm P o := rfl
        unfold notAlc at h4
        rw [h5, h3] at h4
        cases h4
      · simp
    · simp
  unfold treeX
  rw [e]
theorem X.dry {Z : XP} {ops : List ML} {t : DT} (hm : P.follows .mixedOrders = true) (h : ∀ K : Fr → World → Prop, (∀ ρ w, Z .normal D ρ w → K ρ w) → ∀ wd, Ext w wd → OTy P K t ρ wd) (ha : ops.all notAlc = true) (hb : brT t = true) (hd : ro = none ∨ ops.all notDf = true) : X P n ro (.drg ops (some t)) Z D ρ w := fun x hx a hr => by
  obtain ⟨id, os, rfl, hall, hlex, rfl, ht⟩ := conv_drg hx
  have hall' : ∀ o ∈ os.toList, okOp n os o = true := fun o ho => List.all_eq_true.1 hall o ho
  have htail : ∀ {x}, tailOf P os = some x → brT x = false := by
    intro x hx
    unfold tailOf at hx
    split at hx
    · simp at hx; subst hx; rfl
    · simp at hx
  have hk : Region.noSelect os = true ∧ buildT P os os.size (Array.replicate os.size false) = some t := by
    unfold treeOf at ht
    split at ht
    · simp at ht
    · rename_i h0
      simp only [Bool.or_eq_true, not_or, Bool.not_eq_true, Bool.not_eq_false'] at h0
      replace h0 := h0.1
      split at ht
      · rename_i t' h1
        split at ht
        · simp at ht; subst ht; exact ⟨h0.2, h1⟩
        · split at ht
          · rename_i x hx; simp at ht; subst ht; exact absurd hb (by rw [htail hx]; decide)
          · split at ht
            · simp at ht; subst ht; exact ⟨h0.2, h1⟩
            · simp at ht
      · split at ht
        · rename_i x hx; simp at ht; subst ht; exact absurd hb (by rw [htail hx]; decide)
        · rw [treeX_no ha] at ht
          simp only at ht
          split at ht
          · simp at ht
          · simp at ht; subst ht; exact absurd hb (by simp [brT])
  have hn : ro = none ∨ ∀ o ∈ os.toList, ∀ c, o.op ≠ .defer c := hd.imp (fun h => h) notDf_ops
  have hs := buildT_soundY (D := D) (K := fun ρ w => Z .normal D ρ w) hall' hk.1 os.size (Array.replicate os.size false) t ρ a w.drew hk.2 hr (h _ (fun _ _ h => h) w.drew ((Ext.refl w).drew))
  refine wpIn_mono (wpIn_region_any hm (wpAnyIn_any (ro := ro) hn _ _ _ _ hs)) ?_
  rintro e a' w' ⟨rfl, ρ', hr', hq⟩
  exact ⟨D, ρ', hr', hq⟩
theorem Y.dry {Z : XP} {r : List YI} {ops : List ML} {t : DT} (hm : P.follows .mixedOrders = true) (h : ∀ K : Fr → World → Prop, (∀ ρ w, Y P n ro Z r D ρ w → K ρ w) → ∀ wd, Ext w wd → OTy P K t ρ wd) (ha : ops.all notAlc = true := by rfl) (hb : brT t = true := by rfl) (hd : ro = none ∨ ops.all notDf = true := by first | exact .inl rfl | exact .inr rfl) : Y P n ro Z (.c (.drg ops (some t)) :: r) D ρ w := X.dry hm h ha hb hd
end
end Go.Proofs.Ytcglgnbeliljoaa
