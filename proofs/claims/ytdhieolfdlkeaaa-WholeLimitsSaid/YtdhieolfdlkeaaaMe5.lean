/- The engine, part 5: regions that draw their order; whole functions in short, and the rules by which they are walked. -/
import Derived.StillTail
import Derived.Test.YtdhieolfdlkeaaaMe4
import Derived.Deep.Quiet
namespace Go.Proofs.Ytdhieolfdlkeaaa
set_option linter.unusedSimpArgs false
set_option linter.unusedVariables false
open Go.RowKit

/-- Whatever was there is as it was. -/
def Ext (w w' : World) : Prop := Below w.heap.size w w'
theorem Ext.refl (w : World) : Ext w w := Below.refl _ _
theorem Ext.trans {a b c : World} (h : Ext a b) (k : Ext b c) : Ext a c := Below.trans h (Below.mono k h.size)
theorem Ext.alloc {a w : World} (h : Ext a w) (o : Obj) : Ext a (w.alloc o) := Below.alloc h h.size o
theorem Ext.drew {a w : World} (h : Ext a w) : Ext a w.drew := Below.drew h
theorem Ext.cell {w w' : World} (h : Ext w w') {p : Addr} {v : Value} (hc : w.cell? p = some v) : w'.cell? p = some v := (Below.cell h (World.block_lt_of_cell? _ _ hc)).trans hc
theorem Ext.below {w w' : World} (h : Ext w w') : Below w.heap.size w w' := h
theorem Ext.size {w w' : World} (h : Ext w w') : w.heap.size ≤ w'.heap.size := Below.size h

def plainM : MO → Bool
  | .call _ _ | .raw _ _ | .st _ _ _ | .alc _ _ | .bsl _ _ _ _ => false
  | _ => true
def okQ (ρ : Fr) (w : World) : MO → Prop := okM ρ w
theorem okLd_ext {w w' : World} (h : Ext w w') {n : Option Nat} {v : Value} (hl : okLd w n v) : okLd w' n v ∧ ldV w' n v = ldV w n v := by
  unfold okLd at hl
  split at hl
  · rename_i a
    obtain ⟨x, hx⟩ := Option.isSome_iff_exists.1 hl
    have := h.cell hx
    simp [okLd, ldV, hx, this]
  · rename_i n a
    have e : ∀ j, j < n → w'.cell? (a.add j) = w.cell? (a.add j) := fun j hj => by
      obtain ⟨x, hx⟩ := Option.isSome_iff_exists.1 (hl j hj)
      rw [hx]; exact h.cell hx
    refine ⟨fun j hj => by rw [e j hj]; exact hl j hj, ?_⟩
    simp only [ldV]
    congr 2
    refine List.map_congr_left fun j hj => ?_
    simp only [List.mem_range] at hj
    rw [e j hj]
  · exact hl.elim
theorem okB2s_ext {w w' : World} (h : Ext w w') {v : Value} (hl : okB2s w v) : okB2s w' v ∧ b2sV w' v = b2sV w v := by
  unfold okB2s at hl
  split at hl
  · rename_i a n c
    have e : ∀ j, j < n → w'.cell? (a.add j) = w.cell? (a.add j) := fun j hj => by
      obtain ⟨x, hx⟩ := hl j hj
      rw [hx]; exact h.cell hx
    refine ⟨fun j hj => by rw [e j hj]; exact hl j hj, ?_⟩
    simp only [b2sV]
    congr 1
    refine List.map_congr_left fun j hj => ?_
    simp only [List.mem_range] at hj
    rw [e j hj]
  · exact ⟨trivial, rfl⟩
  · exact hl.elim
theorem okM_ext {w w' : World} (h : Ext w w') {ρ : Fr} {m : MO} (hp : plainM m = true) (hl : okM ρ w m) : okM ρ w' m ∧ vM ρ w' m = vM ρ w m ∧ wM ρ w' m = w' ∧ wM ρ w m = w := by
  cases m <;> simp [plainM] at hp <;> simp only [okM, vM, wM] at * <;> refine ⟨?_, ?_, ?_, ?_⟩ <;> first | trivial | exact hl | exact (okLd_ext h hl).1 | exact (okLd_ext h hl).2 | exact (okB2s_ext h hl).1 | exact (okB2s_ext h hl).2

/-- A call of which it is the same in whatever later world it comes up. -/
def CallQ (P : Program) (f : Nat) (args : List Value) (w : World) (d : Option Nat) (ρ : Fr) (next : Fr → Prop) : Prop :=
  ∃ v, (∀ w', Ext w w' → Ret P f args.toArray w' fun v' w'' => v' = v ∧ Ext w' w'') ∧ next (updO ρ d v)
def RawQ (P : Program) (op : Op) (ty : TypeId) (d : Option Nat) (ρ : Fr) (w : World) (next : Fr → Prop) : Prop :=
  ∃ v, (∀ w', Ext w w' → (execOp (ev ρ) (opr op ty)).run P w' = .ok (.value v) w') ∧ next (updO ρ d v)
def QS (P : Program) (d : Option Nat) (m : MO) (ρ : Fr) (w : World) (next : Fr → Prop) : Prop :=
  match m with
  | .call f args => CallQ P f (args.map (ev ρ)) w d ρ next
  | .raw op ty => RawQ P op ty d ρ w next
  | m => (plainM m = true ∧ okQ ρ w m) ∧ next (updO ρ d (vM ρ w m))
def Q (P : Program) (K : Fr → Prop) (w : World) : List ML → Fr → Prop
  | [], ρ => K ρ
  | ⟨g, d, m⟩ :: rest, ρ => if gF ρ g = true then QS P d m ρ w (Q P K w rest) else Q P K w rest (updO ρ d undef)
section
variable {P : Program} {K : Fr → Prop} {rest : List ML} {ρ : Fr} {w : World} {d : Option Nat}
theorem Q_nil : Q P K w [] ρ = K ρ := rfl
theorem Q_g (s : Nat) (b : Bool) (m : MO) : Q P K w (⟨some (s, b), d, m⟩ :: rest) ρ = if wantF (ρ s) b = true then Q P K w (⟨none, d, m⟩ :: rest) ρ else Q P K w rest (updO ρ d undef) := by
  by_cases h : wantF (ρ s) b = true <;> simp [Q, gF, h]
theorem Q_call (f : Nat) (args : List Operand) : Q P K w (⟨none, d, .call f args⟩ :: rest) ρ = CallQ P f (args.map (ev ρ)) w d ρ (Q P K w rest) := by simp [Q, gF, QS]
theorem Q_raw (op : Op) (ty : TypeId) : Q P K w (⟨none, d, .raw op ty⟩ :: rest) ρ = RawQ P op ty d ρ w (Q P K w rest) := by simp [Q, gF, QS]
theorem Q_pure (m : MO) (hm : plainM m = true) : Q P K w (⟨none, d, m⟩ :: rest) ρ = (okQ ρ w m ∧ Q P K w rest (updO ρ d (vM ρ w m))) := by
  cases m <;> simp [plainM] at hm <;> simp [Q, gF, QS, plainM]
theorem Q_mv (x : Operand) : Q P K w (⟨none, d, .mv x⟩ :: rest) ρ = Q P K w rest (updO ρ d (ev ρ x)) := by rw [Q_pure _ rfl]; simp [okQ, okM, vM]
theorem Q_pick (c a b : Operand) : Q P K w (⟨none, d, .pick c a b⟩ :: rest) ρ = (isB (ev ρ c) ∧ Q P K w rest (updO ρ d (pickV (ev ρ c) (ev ρ a) (ev ρ b)))) := by rw [Q_pure _ rfl]; simp [okQ, okM, vM]
theorem Q_bin (op : BinOp) (x y : Operand) : Q P K w (⟨none, d, .bin op x y⟩ :: rest) ρ = (okB op (ev ρ x) (ev ρ y) ∧ Q P K w rest (updO ρ d (valB op (ev ρ x) (ev ρ y)))) := by rw [Q_pure _ rfl]; simp [okQ, okM, vM]
theorem Q_eqb (neg : Bool) (x y : Operand) : Q P K w (⟨none, d, .eqb neg x y⟩ :: rest) ρ = ((isB (ev ρ x) ∧ isB (ev ρ y)) ∧ Q P K w rest (updO ρ d (eqbV neg (ev ρ x) (ev ρ y)))) := by rw [Q_pure _ rfl]; simp [okQ, okM, vM]
theorem Q_eqA (neg : Bool) (ks : List FK) (x y : Operand) : Q P K w (⟨none, d, .eqA neg ks x y⟩ :: rest) ρ = (okEqA ks (ev ρ x) (ev ρ y) ∧ Q P K w rest (updO ρ d (eqAV neg ks (ev ρ x) (ev ρ y)))) := by rw [Q_pure _ rfl]; simp [okQ, okM, vM]
theorem Q_un (op : UnOp) (x : Operand) : Q P K w (⟨none, d, .un op x⟩ :: rest) ρ = (okU op (ev ρ x) ∧ Q P K w rest (updO ρ d (valU op (ev ρ x)))) := by rw [Q_pure _ rfl]; simp [okQ, okM, vM]
theorem Q_cvi (k : IntKind) (x : Operand) : Q P K w (⟨none, d, .cvi k x⟩ :: rest) ρ = (isI (ev ρ x) ∧ Q P K w rest (updO ρ d (cviV k (ev ρ x)))) := by rw [Q_pure _ rfl]; simp [okQ, okM, vM]
theorem Q_cvs (x : Operand) : Q P K w (⟨none, d, .cvs x⟩ :: rest) ρ = (isS (ev ρ x) ∧ Q P K w rest (updO ρ d (ev ρ x))) := by rw [Q_pure _ rfl]; simp [okQ, okM, vM]
theorem Q_b2s (x : Operand) : Q P K w (⟨none, d, .b2s x⟩ :: rest) ρ = (okB2s w (ev ρ x) ∧ Q P K w rest (updO ρ d (b2sV w (ev ρ x)))) := by
  rw [Q_pure _ rfl]
  simp only [okQ, okM, vM]
theorem Q_len (x : Operand) : Q P K w (⟨none, d, .len x⟩ :: rest) ρ = (isL (ev ρ x) ∧ Q P K w rest (updO ρ d (lenV (ev ρ x)))) := by rw [Q_pure _ rfl]; simp [okQ, okM, vM]
theorem Q_lenS (x : Operand) : Q P K w (⟨none, d, .lenS x⟩ :: rest) ρ = (isS (ev ρ x) ∧ Q P K w rest (updO ρ d (lenV (ev ρ x)))) := by rw [Q_pure _ rfl]; simp [okQ, okM, vM]
theorem Q_idxS (x i : Operand) : Q P K w (⟨none, d, .idxS x i⟩ :: rest) ρ = (okIdxS (ev ρ x) (ev ρ i) ∧ Q P K w rest (updO ρ d (idxSV (ev ρ x) (ev ρ i)))) := by rw [Q_pure _ rfl]; simp [okQ, okM, vM]
theorem Q_adr (sz : Nat) (x i : Operand) : Q P K w (⟨none, d, .adr sz x i⟩ :: rest) ρ = (okAdr (ev ρ x) (ev ρ i) ∧ Q P K w rest (updO ρ d (adrV sz (ev ρ x) (ev ρ i)))) := by rw [Q_pure _ rfl]; simp [okQ, okM, vM]
theorem Q_ld (n : Option Nat) (x : Operand) : Q P K w (⟨none, d, .ld n x⟩ :: rest) ρ = (okLd w n (ev ρ x) ∧ Q P K w rest (updO ρ d (ldV w n (ev ρ x)))) := by
  rw [Q_pure _ rfl]
  simp only [okQ, okM, vM]
theorem Q_fad (off : Nat) (x : Operand) : Q P K w (⟨none, d, .fad off x⟩ :: rest) ρ = (okFad (ev ρ x) ∧ Q P K w rest (updO ρ d (fadV off (ev ρ x)))) := by rw [Q_pure _ rfl]; simp [okQ, okM, vM]
theorem Q_fld (off : Nat) (n : Option Nat) (x : Operand) : Q P K w (⟨none, d, .fld off n x⟩ :: rest) ρ = (okFld off n (ev ρ x) ∧ Q P K w rest (updO ρ d (fldV off n (ev ρ x)))) := by rw [Q_pure _ rfl]; simp [okQ, okM, vM]
theorem Q_ext (i : Nat) (x : Operand) : Q P K w (⟨none, d, .ext i x⟩ :: rest) ρ = (okExt i (ev ρ x) ∧ Q P K w rest (updO ρ d (extV i (ev ρ x)))) := by rw [Q_pure _ rfl]; simp [okQ, okM, vM]
theorem Q_slS (x : Operand) (lo hi : Option Operand) : Q P K w (⟨none, d, .slS x lo hi⟩ :: rest) ρ = (okSlS (lo.map (ev ρ)) (hi.map (ev ρ)) (ev ρ x) ∧ Q P K w rest (updO ρ d (slSV (lo.map (ev ρ)) (hi.map (ev ρ)) (ev ρ x)))) := by rw [Q_pure _ rfl]; simp [okQ, okM, vM]
theorem Q_slV (sz : Nat) (x : Operand) (lo hi : Option Operand) : Q P K w (⟨none, d, .slV sz x lo hi⟩ :: rest) ρ = (okSlV (lo.map (ev ρ)) (hi.map (ev ρ)) (ev ρ x) ∧ Q P K w rest (updO ρ d (slVV sz (lo.map (ev ρ)) (hi.map (ev ρ)) (ev ρ x)))) := by rw [Q_pure _ rfl]; simp [okQ, okM, vM]
theorem Q_nck (x : Operand) : Q P K w (⟨none, d, .nck x⟩ :: rest) ρ = (okNck (ev ρ x) ∧ Q P K w rest (updO ρ d (ev ρ x))) := by rw [Q_pure _ rfl]; simp [okQ, okM, vM]
theorem Q_bld (zs : List Value) (ps : List (Nat × Nat × Operand)) : Q P K w (⟨none, d, .bld zs ps⟩ :: rest) ρ = (okLay zs (evP ρ ps) ∧ Q P K w rest (updO ρ d (.agg (layL zs (evP ρ ps)).toArray))) := by rw [Q_pure _ rfl]; simp [okQ, okM, vM]
end

section
variable {P : Program} {ρ : Fr} {w : World} {n : Nat}
theorem QS_sound (o : Oper) (next : Fr → Prop) (a : Act) (hr : Rel n a ρ) (hd : ∀ k, o.dst = some k → k < n) (h : QS P o.dst (cm P o) ρ w next) : o.quiet P a (Ext w) (fun a' => ∃ ρ', Rel n a' ρ' ∧ next ρ') := by
  unfold Oper.quiet Oper.quietAt
  rw [hr.evalF]
  by_cases hc : ∃ f args, cm P o = .call f args
  · obtain ⟨f, args, hc⟩ := hc
    rw [hc] at h
    simp only [QS, CallQ] at h
    obtain ⟨v, h1, h2⟩ := h
    refine ⟨v, fun w' hw' => ?_, _, hr.put _ v hd, h2⟩
    rw [cm_call o f args hc]
    refine ⟨rfl, Calls.mono (h1 w' hw') fun e w'' ⟨v', he, hv, hx⟩ => ⟨by rw [he, hv], hw'.trans hx⟩⟩
  · by_cases hw : ∃ op ty, cm P o = .raw op ty
    · obtain ⟨op, ty, hw⟩ := hw
      obtain ⟨rfl, rfl⟩ := cm_raw o op ty hw
      rw [hw] at h
      simp only [QS, RawQ] at h
      obtain ⟨v, h1, h2⟩ := h
      refine ⟨v, fun w' hw' => ?_, _, hr.put _ v hd, h2⟩
      have he : execOp (ev ρ) (opr o.op o.type) = execOp (ev ρ) o := rfl
      rw [← he, h1 w' hw']
      exact ⟨rfl, rfl⟩
    · have hok : (plainM (cm P o) = true ∧ okQ ρ w (cm P o)) ∧ next (updO ρ o.dst (vM ρ w (cm P o))) := by
        generalize cm P o = m at *
        cases m <;> first | exact h | (exfalso; exact hc ⟨_, _, rfl⟩) | (exfalso; exact hw ⟨_, _, rfl⟩)
      refine ⟨vM ρ w (cm P o), fun w' hw' => ?_, _, hr.put _ _ hd, hok.2⟩
      obtain ⟨h1, h2, h3, _⟩ := okM_ext hw' hok.1.1 hok.1.2
      rcases run_cm (P := P) (w := w') o h1 with h4 | ⟨h4, h5⟩
      · rw [h4, h2, h3]; exact ⟨rfl, rfl⟩
      · rw [h4, h3]; exact ⟨rfl, by rw [← h2, h5]⟩

theorem Q_wpQuiet {ops : Array Oper} {K : Fr → Prop} : ∀ (l : List Oper) (ρ : Fr) (a : Act), (∀ o ∈ l, okOp n ops o = true) → Rel n a ρ → Q P K w (l.map (cop P ops)) ρ →
    wpQuiet P ops (Ext w) (fun a' => ∃ ρ', Rel n a' ρ' ∧ K ρ') l a := by
  intro l
  induction l with
  | nil => intro ρ a _ hr h; exact ⟨ρ, hr, h⟩
  | cons o l ih =>
    intro ρ a hl hr h
    have ho := hl o (by simp)
    have hd : ∀ k, o.dst = some k → k < n := by
      intro k hk
      simp only [okOp, hk, Bool.and_eq_true, decide_eq_true_eq] at ho
      exact ho.1
    have hw := wanted_eq (P := P) hr ops o ho
    simp only [List.map_cons, Q] at h
    unfold wpQuiet
    rw [hw]
    obtain ⟨t, ht⟩ : ∃ t, t = gF ρ (cop P ops o).g := ⟨_, rfl⟩
    rw [← ht]
    replace h : if t = true then QS P (cop P ops o).d (cop P ops o).m ρ w (Q P K w (l.map (cop P ops))) else Q P K w (l.map (cop P ops)) (updO ρ (cop P ops o).d undef) := by
      rw [ht]; exact h
    clear ht
    cases t
    · simp only [Bool.false_eq_true, if_false] at h ⊢
      exact ih _ _ (fun o ho => hl o (by simp [ho])) (hr.put _ _ hd) h
    · simp only [if_true] at h ⊢
      refine Oper.quiet_mono ?_ (QS_sound o (Q P K w (l.map (cop P ops))) a hr hd h)
      rintro a' ⟨ρ', hr', h'⟩
      exact ih ρ' a' (fun o ho => hl o (by simp [ho])) hr' h'
end

theorem wpQuiet_mono' {P : Program} {ops : Array Oper} {C : World → Prop} {K K' : Act → Prop} (h : ∀ a, K a → K' a) : ∀ (l : List Oper) (a : Act), wpQuiet P ops C K l a → wpQuiet P ops C K' l a
  | [], _, hh => h _ hh
  | o :: l, a, hh => by
    unfold wpQuiet at *
    split
    · rename_i hw; rw [if_pos hw] at hh; exact Oper.quiet_mono (wpQuiet_mono' h l) hh
    · rename_i hw; rw [if_neg hw] at hh; exact wpQuiet_mono' h l _ hh

/-! ### Whole functions -/
def DT.cons (m : ML) : DT → DT
  | .leaf l => .leaf (m :: l)
  | .br l a b => .br (m :: l) a b
  | .tail l p => .br [m] (.tail l p) (.tail l p)
def DT.leaves : DT → Nat
  | .leaf _ => 1
  | .br _ a b => a.leaves + b.leaves
  | .tail _ _ => 1
/-- One branch for each operation that may come next. -/
def DT.fork (f : Nat → Option DT) : List Nat → Option DT
  | [] => none
  | [i] => f i
  | i :: r => match f i, DT.fork f r with | some a, some b => if a.leaves + b.leaves ≤ 8 then some (.br [] a b) else none | _, _ => none
def buildT (P : Program) (ops : Array Oper) : Nat → Array Bool → Option DT
  | 0, listed => if (Region.ready .any ops listed).isEmpty then some (.leaf []) else none
  | fuel + 1, listed =>
    if (Region.ready .any ops listed).isEmpty then some (.leaf []) else
    match (Region.ready .any ops listed).find? (fun i => Region.free .any ops listed i && (match ops[i]? with | some o => pureM (cm P o) | none => false)) with
    | some i => (match ops[i]? with | some o => (buildT P ops fuel (listed.setIfInBounds i true)).map (DT.cons (cop P ops o)) | none => none)
    | none => DT.fork (fun i => match ops[i]? with | some o => (buildT P ops fuel (listed.setIfInBounds i true)).map (DT.cons (cop P ops o)) | none => none) (Region.ready .any ops listed)
def quietM : MO → Bool
  | .call _ _ => true
  | m => plainM m
/-- How many operations of a region come ahead of the first one that makes something. -/
def headN (P : Program) (ops : Array Oper) : Nat := (ops.toList.takeWhile fun o => quietM (cm P o)).length
def tailOf (P : Program) (ops : Array Oper) : Option DT :=
  if Region.lexTailB .any ops (headN P ops) then some (.tail ((ops.toList.take (headN P ops)).map (cop P ops)) ((ops.toList.drop (headN P ops)).map (cop P ops))) else none
def treeOf (P : Program) (ops : Array Oper) : Option DT :=
  if ops.toList.all (fun o => plainM (cm P o)) || !Region.noSelect ops then none else
  match buildT P ops ops.size (Array.replicate ops.size false) with
  | some t => if t.leaves ≤ 8 then some t else tailOf P ops
  | none => tailOf P ops
def conv (P : Program) (n : Nat) : Code → MC
  | .skip => .skip
  | .region _ ops d => if ops.toList.all (okOp n ops) && (!d || Region.lexB .any ops) then (if d then .drg (ops.toList.map (cop P ops)) (treeOf P ops) else .reg (ops.toList.map (cop P ops))) else .bad
  | .seq a b => .seq (conv P n a) (conv P n b)
  | .cond c a b => .cond c (conv P n a) (conv P n b)
  | .block id c => .blk id (conv P n c)
  | .loop c => .loop (conv P n c)
  | .exit id => .exit id
  | .scope c => .scp (conv P n c)
  | .label _ => .lab
  | .ret => .ret
  | _ => .bad
inductive MI | c (m : MC) | b (id : Nat) | l (m : MC) | s
def Corr (P : Program) (n : Nat) : List MI → List Item → Prop
  | [], [] => True
  | .c m :: r, .code x :: k => conv P n x = m ∧ Corr P n r k
  | .b i :: r, .inBlock j :: k => i = j ∧ Corr P n r k
  | .l m :: r, .inLoop x :: k => conv P n x = m ∧ Corr P n r k
  | .s :: r, .inScope _ :: k => Corr P n r k
  | _, _ => False
def exitM (id : Nat) : List MI → Option (List MI)
  | .b i :: r => if i == id then some r else exitM id r
  | _ :: r => exitM id r
  | [] => none
theorem exitM_corr {P : Program} {n id : Nat} : ∀ (r : List MI) (k : List Item) (r' : List MI), Corr P n r k → exitM id r = some r' → ∃ k', exitTo id k = some k' ∧ Corr P n r' k' := by
  intro r
  induction r with
  | nil => intro k r' _ h; simp [exitM] at h
  | cons x r ih =>
    intro k r' hc h
    cases k with
    | nil => cases x <;> simp [Corr] at hc
    | cons y k =>
    cases x <;> cases y <;> simp only [Corr] at hc <;> simp only [exitM] at h
    · obtain ⟨k', h1, h2⟩ := ih _ _ hc.2 h; exact ⟨k', by simp [exitTo, h1], h2⟩
    · obtain ⟨rfl, hc⟩ := hc
      rename_i i
      by_cases e : i == id
      · rw [if_pos e] at h; injection h with h; subst h; exact ⟨k, by simp [exitTo, e], hc⟩
      · rw [if_neg e] at h; obtain ⟨k', h1, h2⟩ := ih _ _ hc h; exact ⟨k', by simp [exitTo, e, h1], h2⟩
    · obtain ⟨k', h1, h2⟩ := ih _ _ hc.2 h; exact ⟨k', by simp [exitTo, h1], h2⟩
    · obtain ⟨k', h1, h2⟩ := ih _ _ hc h; exact ⟨k', by simp [exitTo, h1], h2⟩

/-- The run of a function in short, from a stack of items on. -/
def G (P : Program) (fn : Func) (n : Nat) (r : List MI) (R : Value → World → Prop) (ρ : Fr) (w : World) : Prop := ∀ k, Corr P n r k → Run P fn n k R ρ w

section
variable {P : Program} {fn : Func} {n : Nat} {r : List MI} {R : Value → World → Prop} {ρ : Fr} {w : World}
theorem G.mono {R' : Value → World → Prop} (h : G P fn n r R ρ w) (hr : ∀ v w, R v w → R' v w) : G P fn n r R' ρ w := fun k hk => (h k hk).mono hr
theorem corr_c {m : MC} {r : List MI} {k : List Item} (h : Corr P n (.c m :: r) k) : ∃ x k', k = .code x :: k' ∧ conv P n x = m ∧ Corr P n r k' := by
  cases k with
  | nil => simp [Corr] at h
  | cons y k => cases y <;> simp only [Corr] at h; exact ⟨_, _, rfl, h.1, h.2⟩
theorem conv_reg {x : Code} {ops : List ML} (h : conv P n x = .reg ops) : ∃ id os, x = .region id os false ∧ os.toList.all (okOp n os) = true ∧ ops = os.toList.map (cop P os) := by
  cases x <;> simp only [conv] at h <;> try (simp at h; done)
  rename_i id os d
  split at h
  · rename_i hb
    cases d
    · simp at h hb; exact ⟨id, os, rfl, by simpa using hb, h.symm⟩
    · simp at h
  · simp at h
theorem conv_drg {x : Code} {ops : List ML} {t : Option DT} (h : conv P n x = .drg ops t) : ∃ id os, x = .region id os true ∧ os.toList.all (okOp n os) = true ∧ Region.lexB .any os = true ∧ ops = os.toList.map (cop P os) ∧ t = treeOf P os := by
  cases x <;> simp only [conv] at h <;> try (simp at h; done)
  rename_i id os d
  split at h
  · rename_i hb
    cases d
    · simp at h
    · simp only [if_true, MC.drg.injEq, Bool.not_true, Bool.false_or, Bool.and_eq_true] at h hb; exact ⟨id, os, rfl, hb.1, hb.2, h.1.symm, h.2.symm⟩
  · simp at h

theorem G.skip (h : G P fn n r R ρ w) : G P fn n (.c .skip :: r) R ρ w := fun k hk => by
  obtain ⟨x, k', rfl, hx, hk'⟩ := corr_c hk
  cases x <;> simp only [conv] at hx <;> try (simp at hx; done)
  · exact Run.skip (h k' hk')
  · split at hx <;> try (simp at hx; done)
    split at hx <;> simp at hx
theorem G.seq {a b : MC} (h : G P fn n (.c a :: .c b :: r) R ρ w) : G P fn n (.c (.seq a b) :: r) R ρ w := fun k hk => by
  obtain ⟨x, k', rfl, hx, hk'⟩ := corr_c hk
  cases x <;> simp only [conv] at hx <;> try (simp at hx; done)
  · split at hx <;> try (simp at hx; done)
    split at hx <;> simp at hx
  · injection hx with h1 h2; exact Run.seq (h _ ⟨h1, h2, hk'⟩)
theorem G.blk {id : Nat} {c : MC} (h : G P fn n (.c c :: .b id :: r) R ρ w) : G P fn n (.c (.blk id c) :: r) R ρ w := fun k hk => by
  obtain ⟨x, k', rfl, hx, hk'⟩ := corr_c hk
  cases x <;> simp only [conv] at hx <;> try (simp at hx; done)
  · split at hx <;> try (simp at hx; done)
    split at hx <;> simp at hx
  · injection hx with h1 h2; subst h1; exact Run.block (h _ ⟨h2, rfl, hk'⟩)
theorem G.endb {id : Nat} (h : G P fn n r R ρ w) : G P fn n (.b id :: r) R ρ w := fun k hk => by
  cases k with
  | nil => simp [Corr] at hk
  | cons y k => cases y <;> simp only [Corr] at hk; exact Run.inBlock (h _ hk.2)
theorem G.lab (h : G P fn n r R ρ w) : G P fn n (.c .lab :: r) R ρ w := fun k hk => by
  obtain ⟨x, k', rfl, hx, hk'⟩ := corr_c hk
  cases x <;> simp only [conv] at hx <;> try (simp at hx; done)
  · split at hx <;> try (simp at hx; done)
    split at hx <;> simp at hx
  · exact Run.label (h k' hk')
theorem G.scp {c : MC} (h : G P fn n (.c c :: .s :: r) R ρ w) : G P fn n (.c (.scp c) :: r) R ρ w := fun k hk => by
  obtain ⟨x, k', rfl, hx, hk'⟩ := corr_c hk
  cases x <;> simp only [conv] at hx <;> try (simp at hx; done)
  · split at hx <;> try (simp at hx; done)
    split at hx <;> simp at hx
  · injection hx with h1; exact Run.scope (h _ ⟨h1, hk'⟩)
theorem G.ends (h : G P fn n r R ρ w) : G P fn n (.s :: r) R ρ w := fun k hk => by
  cases k with
  | nil => simp [Corr] at hk
  | cons y k => cases y <;> simp only [Corr] at hk; exact Run.inScope (h _ hk)
theorem G.exit {id : Nat} {r' : List MI} (he : exitM id r = some r') (h : G P fn n r' R ρ w) : G P fn n (.c (.exit id) :: r) R ρ w := fun k hk => by
  obtain ⟨x, k', rfl, hx, hk'⟩ := corr_c hk
  cases x <;> simp only [conv] at hx <;> try (simp at hx; done)
  · split at hx <;> try (simp at hx; done)
    split at hx <;> simp at hx
  · injection hx with h1
    subst h1
    obtain ⟨k'', h1, h2⟩ := exitM_corr _ _ _ hk' he
    exact Run.exit h1 (h _ h2)
theorem G.cond {c : Operand} {a b : MC} {t : Bool} (hc : ev ρ c = .bool t) (ht : t = true → G P fn n (.c a :: r) R ρ w) (hf : t = false → G P fn n (.c b :: r) R ρ w) : G P fn n (.c (.cond c a b) :: r) R ρ w := fun k hk => by
  obtain ⟨x, k', rfl, hx, hk'⟩ := corr_c hk
  cases x <;> simp only [conv] at hx <;> try (simp at hx; done)
  · split at hx <;> try (simp at hx; done)
    split at hx <;> simp at hx
  · injection hx with h1 h2 h3
    subst h1
    exact Run.cond hc (fun e => ht e _ ⟨h2, hk'⟩) (fun e => hf e _ ⟨h3, hk'⟩)
theorem G.loop1 {c : MC} (h : G P fn n (.c c :: .l c :: r) R ρ w) : G P fn n (.l c :: r) R ρ w := fun k hk => by
  cases k with
  | nil => simp [Corr] at hk
  | cons y k =>
    cases y <;> simp only [Corr] at hk
    rename_i y
    exact Run.step (k' := .code y :: .inLoop y :: k) (fun _ _ _ _ => step_inLoop) (h _ ⟨hk.1, hk⟩)
theorem G.loop0 {c : MC} (h : G P fn n (.c c :: .l c :: r) R ρ w) : G P fn n (.c (.loop c) :: r) R ρ w := fun k hk => by
  obtain ⟨x, k', rfl, hx, hk'⟩ := corr_c hk
  cases x <;> simp only [conv] at hx <;> try (simp at hx; done)
  · split at hx <;> try (simp at hx; done)
    split at hx <;> simp at hx
  · rename_i y
    have hy : conv P n y = c := by injection hx
    exact Run.step (k' := .code y :: .inLoop y :: k') (fun _ _ _ _ => step_loop) (h _ ⟨hy, hy, hk'⟩)
/-- A loop: what holds at each round's head, and a measure. -/
theorem G.loop {c : MC} (I : Fr → World → Prop) (μ : Fr → World → Nat) (h0 : I ρ w)
    (hr : ∀ u w', I u w' → (∀ ρ' w'', I ρ' w'' → μ ρ' w'' < μ u w' → G P fn n (.l c :: r) R ρ' w'') → G P fn n (.c c :: .l c :: r) R u w') :
    G P fn n (.c (.loop c) :: r) R ρ w := by
  have key : ∀ m ρ' w', I ρ' w' → μ ρ' w' < m → G P fn n (.l c :: r) R ρ' w' := by
    intro m
    induction m with
    | zero => intro _ _ _ h; omega
    | succ m ih =>
      intro ρ' w' hI hm
      exact G.loop1 (hr ρ' w' hI (fun ρ'' w'' hI' hlt => ih ρ'' w'' hI' (by omega)))
  exact G.loop0 (hr ρ w h0 (fun ρ' w'' hI hlt => key _ ρ' w'' hI hlt))
theorem G.reg {ops : List ML} (h : ∀ K : Fr → World → Prop, (∀ ρ w, G P fn n r R ρ w → K ρ w) → O P K ops ρ w) : G P fn n (.c (.reg ops) :: r) R ρ w := fun k hk => by
  obtain ⟨x, k', rfl, hx, hk'⟩ := corr_c hk
  obtain ⟨id, os, rfl, hall, rfl⟩ := conv_reg hx
  refine Run.region_wp fun a hr => wp_region_list ?_
  exact O_wpList (n := n) (ops := os) (K := fun ρ w => Run P fn n k' R ρ w) os.toList ρ w a (fun o ho => List.all_eq_true.1 hall o ho) hr (h _ fun _ _ h => h k' hk')
theorem G.drg {ops : List ML} {t : Option DT} (hm : P.follows .mixedOrders = true) (h : ∀ K : Fr → Prop, (∀ ρ, (∀ w', Ext w w' → G P fn n r R ρ w') → K ρ) → Q P K w ops ρ) : G P fn n (.c (.drg ops t) :: r) R ρ w := fun k hk => by
  obtain ⟨x, k', rfl, hx, hk'⟩ := corr_c hk
  obtain ⟨id, os, rfl, hall, hlex, rfl, _⟩ := conv_drg hx
  refine Run.region_wp fun a hr => wp_region_quiet (C := Ext w) hm hlex ((Ext.refl w).drew) ?_
  have := Q_wpQuiet (n := n) (w := w) (ops := os) (K := fun ρ => ∀ w', Ext w w' → Run P fn n k' R ρ w') os.toList ρ a (fun o ho => List.all_eq_true.1 hall o ho) hr (h _ fun _ h w' hw' => h w' hw' k' hk')
  refine wpQuiet_mono' ?_ _ _ this
  rintro a' ⟨ρ', h1, h2⟩ w' hw'
  exact ⟨rfl, ρ', h1, h2 w' hw'⟩
theorem ret_of {v : Value} (hv : ∀ a, Rel n a ρ → (results fn a.tmps).run P w = .ok v w) (h : R v w) : G P fn n (.c .ret :: r) R ρ w := fun k hk => by
  obtain ⟨x, k', rfl, hx, hk'⟩ := corr_c hk
  cases x <;> simp only [conv] at hx <;> try (simp at hx; done)
  · split at hx <;> try (simp at hx; done)
    split at hx <;> simp at hx
  · exact Run.ret hv h
theorem done_of {v : Value} (hv : ∀ a, Rel n a ρ → (results fn a.tmps).run P w = .ok v w) (h : R v w) : G P fn n [] R ρ w := fun k hk => by
  cases k with
  | nil => exact Run.done hv h
  | cons y k => simp [Corr] at hk
theorem res3 {t u v : Tmp} (h : fn.results = #[.tmp t, .tmp u, .tmp v]) (tmps : Array Value) : (results fn tmps).run P w = .ok (.tuple #[tmps.getD t undef, tmps.getD u undef, tmps.getD v undef]) w := by simp [results, h]
theorem res4 {t u v x : Tmp} (h : fn.results = #[.tmp t, .tmp u, .tmp v, .tmp x]) (tmps : Array Value) : (results fn tmps).run P w = .ok (.tuple #[tmps.getD t undef, tmps.getD u undef, tmps.getD v undef, tmps.getD x undef]) w := by simp [results, h]
theorem G.ret0 (hf : fn.results = #[]) (h : R (.tuple #[]) w) : G P fn n (.c .ret :: r) R ρ w := ret_of (fun _ _ => results_none hf _ _ _) h
theorem G.done0 (hf : fn.results = #[]) (h : R (.tuple #[]) w) : G P fn n [] R ρ w := done_of (fun _ _ => results_none hf _ _ _) h
theorem G.ret1 {t : Nat} (hf : fn.results = #[.tmp t]) (h : R (ρ t) w) : G P fn n (.c .ret :: r) R ρ w := ret_of (fun a hr => by rw [results_tmp hf, hr.2.2]) h
theorem G.ret2 {t u : Nat} (hf : fn.results = #[.tmp t, .tmp u]) (h : R (.tuple #[ρ t, ρ u]) w) : G P fn n (.c .ret :: r) R ρ w := ret_of (fun a hr => by rw [results_tmp2 hf, hr.2.2, hr.2.2]) h
theorem G.ret3 {t u v : Nat} (hf : fn.results = #[.tmp t, .tmp u, .tmp v]) (h : R (.tuple #[ρ t, ρ u, ρ v]) w) : G P fn n (.c .ret :: r) R ρ w := ret_of (fun a hr => by rw [res3 hf, hr.2.2, hr.2.2, hr.2.2]) h
theorem G.ret4 {t u v x : Nat} (hf : fn.results = #[.tmp t, .tmp u, .tmp v, .tmp x]) (h : R (.tuple #[ρ t, ρ u, ρ v, ρ x]) w) : G P fn n (.c .ret :: r) R ρ w := ret_of (fun a hr => by rw [res4 hf, hr.2.2, hr.2.2, hr.2.2, hr.2.2]) h

def eqOn : List Nat → Fr → Fr → Prop
  | [], _, _ => True
  | t :: L, ρ', ρ => ρ' t = ρ t ∧ eqOn L ρ' ρ
theorem eqOn_refl (L : List Nat) (ρ : Fr) : eqOn L ρ ρ := by
  induction L with
  | nil => trivial
  | cons t L ih => exact ⟨rfl, ih⟩
/-- Of the frame no more is kept than what some slots hold. -/
theorem G.gen (L : List Nat) (h : ∀ ρ', eqOn L ρ' ρ → G P fn n r R ρ' w) : G P fn n r R ρ w := h ρ (eqOn_refl L ρ)
/-- Into a function. -/
theorem G.enter {f : FuncId} {m : MC} {c : Code} {args : List Value} (hf : P.funcs[f]? = some fn) (hb : fn.body = some c) (hn : fn.ntmps = n) (hle : args.length ≤ n) (hm : conv P n c = m) (h : G P fn n [.c m] R (frL 0 args) w) : Ret P f args.toArray w R :=
  Ret.of_run n hf hb hn hle (by rw [argFr_eq]; exact h _ ⟨hm, trivial⟩)
end
end Go.Proofs.Ytdhieolfdlkeaaa
