/- The engine, part 1: frames as functions; the rules of control. -/
import Derived.WalkKit
import Derived.Scope
import Derived.WalkSpells
import Derived.WalkLawsBesides
namespace Go.Proofs.Ytdhieolfdlkeaaa
set_option linter.unusedSimpArgs false
set_option linter.unusedVariables false
open Go.RowKit

abbrev Fr := Nat → Value
def upd (ρ : Fr) (d : Nat) (v : Value) : Fr := fun t => if t = d then v else ρ t
def updO (ρ : Fr) : Option Nat → Value → Fr
  | some d, v => upd ρ d v
  | none, _ => ρ
def ev (ρ : Fr) : Operand → Value
  | .tmp t => ρ t
  | .const v => v
  | .global g => .pointer (some ⟨g, 0, none⟩)
  | .func f => .func (.func f) #[] #[]

theorem upd_same (ρ : Fr) (d : Nat) (v : Value) : upd ρ d v d = v := by simp [upd]
theorem upd_ne (ρ : Fr) (d : Nat) (v : Value) (t : Nat) (h : t ≠ d) : upd ρ d v t = ρ t := by simp [upd, h]
theorem upd_at (ρ : Fr) (d : Nat) (v : Value) (t : Nat) : upd ρ d v t = if t = d then v else ρ t := rfl
/-- The frame of a function: no deferred calls, n slots, and they hold what the function says. -/
def Rel (n : Nat) (a : Act) (ρ : Fr) : Prop := a.defers = [] ∧ a.tmps.size = n ∧ ∀ t, a.tmps.getD t undef = ρ t
theorem Rel.eval {n : Nat} {a : Act} {ρ : Fr} (h : Rel n a ρ) (x : Operand) : a.eval x = ev ρ x := by
  cases x <;> simp [Act.eval, ev, h.2.2]
theorem Rel.evalF {n : Nat} {a : Act} {ρ : Fr} (h : Rel n a ρ) : a.eval = ev ρ := funext h.eval
theorem Rel.put {n : Nat} {a : Act} {ρ : Fr} (h : Rel n a ρ) (d : Option Nat) (v : Value) (hd : ∀ k, d = some k → k < n) : Rel n (a.put d v) (updO ρ d v) := by
  cases d with
  | none => exact h
  | some k =>
    refine ⟨h.1, by simp [Act.put, h.2.1], fun t => ?_⟩
    have hk := hd k rfl
    have := h.2.2 t
    by_cases e : t = k
    · subst e
      simp [Act.put, updO, upd_same, h.2.1, hk]
    · have e' : ¬ k = t := fun x => e x.symm
      simp only [Act.put, updO, upd_ne _ _ _ _ e]
      rw [← this]
      simp [Array.getElem?_setIfInBounds, e']
theorem Rel.uniq {n : Nat} {a : Act} {ρ ρ' : Fr} (h : Rel n a ρ) (h' : Rel n a ρ') : ρ = ρ' := funext fun t => by rw [← h.2.2 t, h'.2.2 t]

/-- What is asked of a run from a stack of items on: it comes to an end of which R holds. -/
def Run (P : Program) (fn : Func) (n : Nat) (k : List Item) (R : Value → World → Prop) (ρ : Fr) (w : World) : Prop :=
  ∀ (b : Frame) (a : Act) (cs : List Frame), Rel n a ρ → b.kind = .normal → P.funcs[b.fn]? = some fn →
    ∃ v w' fr, R v w' ∧ Steps P (lone (b.at a k) cs w) (lone fr cs w') ∧ fr.fn = b.fn ∧ fr.leaving P w' (.returned v)

section
variable {P : Program} {fn : Func} {n : Nat} {k : List Item} {R : Value → World → Prop} {ρ : Fr} {w : World}

theorem Run.step {k' : List Item} (hs : ∀ (b : Frame) (a : Act) (cs : List Frame), Rel n a ρ → step P (lone (b.at a k) cs w) = .next (lone (b.at a k') cs w)) (h : Run P fn n k' R ρ w) : Run P fn n k R ρ w :=
  fun b a cs hr hk hf => let ⟨v, w', fr, h1, h2, h3, h4⟩ := h b a cs hr hk hf; ⟨v, w', fr, h1, .head (hs b a cs hr) h2, h3, h4⟩

theorem Run.mono {R' : Value → World → Prop} (h : Run P fn n k R ρ w) (hr : ∀ v w, R v w → R' v w) : Run P fn n k R' ρ w :=
  fun b a cs h0 hk hf => let ⟨v, w', fr, h1, h2⟩ := h b a cs h0 hk hf; ⟨v, w', fr, hr _ _ h1, h2⟩

theorem Run.skip (h : Run P fn n k R ρ w) : Run P fn n (.code .skip :: k) R ρ w := Run.step (fun _ _ _ _ => step_skip) h
theorem Run.seq {x y : Code} (h : Run P fn n (.code x :: .code y :: k) R ρ w) : Run P fn n (.code (.seq x y) :: k) R ρ w := Run.step (fun _ _ _ _ => step_seq) h
theorem Run.block {id : Nat} {c : Code} (h : Run P fn n (.code c :: .inBlock id :: k) R ρ w) : Run P fn n (.code (.block id c) :: k) R ρ w := Run.step (fun _ _ _ _ => step_block) h
theorem Run.inBlock {id : Nat} (h : Run P fn n k R ρ w) : Run P fn n (.inBlock id :: k) R ρ w := Run.step (fun _ _ _ _ => step_inBlock) h
theorem Run.label {l : Nat} (h : Run P fn n k R ρ w) : Run P fn n (.code (.label l) :: k) R ρ w := Run.step (fun _ _ _ _ => step_label) h
theorem Run.scope {c : Code} (h : Run P fn n (.code c :: .inScope c :: k) R ρ w) : Run P fn n (.code (.scope c) :: k) R ρ w := Run.step (fun _ _ _ _ => step_scope) h
theorem Run.inScope {c : Code} (h : Run P fn n k R ρ w) : Run P fn n (.inScope c :: k) R ρ w := Run.step (fun _ _ _ _ => step_inScope) h
theorem Run.exit {id : Nat} {k' : List Item} (hk : exitTo id k = some k') (h : Run P fn n k' R ρ w) : Run P fn n (.code (.exit id) :: k) R ρ w := Run.step (fun _ _ _ _ => step_exit hk) h
theorem Run.cond {c : Operand} {x y : Code} {t : Bool} (hc : ev ρ c = .bool t) (ht : t = true → Run P fn n (.code x :: k) R ρ w) (hf : t = false → Run P fn n (.code y :: k) R ρ w) : Run P fn n (.code (.cond c x y) :: k) R ρ w := by
  cases t with
  | true => exact Run.step (fun _ _ _ hr => step_cond (t := true) (by rw [hr.eval, hc])) (ht rfl)
  | false => exact Run.step (fun _ _ _ hr => step_cond (t := false) (by rw [hr.eval, hc])) (hf rfl)

theorem Run.ret {v : Value} (hv : ∀ a, Rel n a ρ → (results fn a.tmps).run P w = .ok v w) (h : R v w) : Run P fn n (.code .ret :: k) R ρ w :=
  fun b a cs hr hk hf => ⟨v, w, _, h, .one step_ret, rfl, rfl, hr.1, hk, fn, hf, hv a hr⟩
theorem Run.done {v : Value} (hv : ∀ a, Rel n a ρ → (results fn a.tmps).run P w = .ok v w) (h : R v w) : Run P fn n [] R ρ w :=
  fun b a cs hr hk hf => ⟨v, w, _, h, .one step_end, rfl, rfl, hr.1, hk, fn, hf, hv a hr⟩

/-- A region, by the kit's own predicate on its operations. -/
theorem Run.region_wp {id : Nat} {ops : Array Oper} {d : Bool}
    (h : ∀ a, Rel n a ρ → (Code.region id ops d).wp P (fun e a' w' => e = .normal ∧ ∃ ρ', Rel n a' ρ' ∧ Run P fn n k R ρ' w') a w) : Run P fn n (.code (.region id ops d) :: k) R ρ w := by
  intro b a cs hr hk hf
  obtain ⟨e, a', w', ⟨he, ρ', hr', hrun⟩, harr⟩ := h a hr b k cs
  subst he
  obtain ⟨v, w'', fr, h1, h2, h3, h4⟩ := hrun b a' cs hr' hk hf
  exact ⟨v, w'', fr, h1, Steps.trans harr h2, h3, h4⟩
end

/-- A call hands back a value of which V holds. -/
def Ret (P : Program) (f : FuncId) (args : Array Value) (w : World) (V : Value → World → Prop) : Prop := Calls P f args w fun e w' => ∃ v, e = .returned v ∧ V v w'
theorem Ret.mono {P : Program} {f : FuncId} {args : Array Value} {w : World} {V V' : Value → World → Prop} (h : Ret P f args w V) (hv : ∀ v w', V v w' → V' v w') : Ret P f args w V' :=
  Calls.mono h fun _ _ ⟨v, he, hV⟩ => ⟨v, he, hv v _ hV⟩

def frL : Nat → List Value → Fr
  | _, [] => fun _ => undef
  | k, v :: r => upd (frL (k + 1) r) k v
theorem frL_at : ∀ (args : List Value) (k t : Nat), frL k args t = if k ≤ t then args.getD (t - k) undef else undef := by
  intro args
  induction args with
  | nil => intro k t; simp [frL]
  | cons v r ih =>
    intro k t
    simp only [frL, upd_at, ih]
    by_cases h : t = k
    · subst h; simp
    · rw [if_neg h]
      by_cases h1 : k + 1 ≤ t
      · rw [if_pos h1, if_pos (by omega), show t - k = (t - (k + 1)) + 1 from by omega]; simp
      · rw [if_neg h1, if_neg (by omega)]
def argFr (args : List Value) : Fr := fun t => args.getD t undef
theorem argFr_eq (args : List Value) : argFr args = frL 0 args := by funext t; simp [argFr, frL_at]

theorem Ret.of_run {P : Program} {f : FuncId} {fn : Func} {c : Code} {args : List Value} {w : World} {V : Value → World → Prop} (n : Nat) (hf : P.funcs[f]? = some fn) (hb : fn.body = some c) (hn : fn.ntmps = n) (hle : args.length ≤ n)
    (h : Run P fn n [.code c] V (argFr args) w) : Ret P f args.toArray w V := by
  intro cs
  let b : Frame := { (default : Frame) with fn := f, kind := .normal }
  have henter : Frame.enter P f args.toArray .normal = b.at { tmps := args.toArray ++ Array.replicate (fn.ntmps - args.toArray.size) undef, defers := [] } [.code c] := by
    simp [Frame.enter, Frame.at, hf, hb, b]
  have hrel : Rel n { tmps := args.toArray ++ Array.replicate (fn.ntmps - args.toArray.size) undef, defers := [] } (argFr args) := by
    refine ⟨rfl, by simp [hn]; omega, fun t => ?_⟩
    simp only [argFr, Array.getD_eq_getD_getElem?, Array.getElem?_append, List.size_toArray, List.getElem?_toArray, List.getD_eq_getElem?_getD]
    split
    · rfl
    · rename_i hlt
      rw [List.getElem?_eq_none (by omega), Array.getElem?_replicate]
      split <;> rfl
  obtain ⟨v, w', fr, h1, h2, h3, h4⟩ := h b _ cs hrel rfl hf
  exact ⟨.returned v, w', fr, ⟨v, rfl, h1⟩, by rw [henter]; exact h2, h3, h4⟩
end Go.Proofs.Ytdhieolfdlkeaaa
