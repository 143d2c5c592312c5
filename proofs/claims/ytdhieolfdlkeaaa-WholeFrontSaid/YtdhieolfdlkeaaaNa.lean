/- The engine, part a: operations that the short form does not name: what they run, with their operands evaluated. -/
import Derived.Test.YtdhieolfdlkeaaaMe8
namespace Go.Proofs.Ytdhieolfdlkeaaa
set_option linter.unusedSimpArgs false
set_option linter.unusedVariables false
open Go.RowKit

/-- A run that hands back a value; one that hands back nothing. -/
def SemK (P : Program) (s : Sem Value) (w : World) (d : Option Nat) (ρ : Fr) (next : Fr → World → Prop) : Prop := ∃ v w', s.run P w = .ok v w' ∧ next (updO ρ d v) w'
def UnitK (P : Program) (s : Sem Unit) (w : World) (d : Option Nat) (ρ : Fr) (next : Fr → World → Prop) : Prop := ∃ w', s.run P w = .ok () w' ∧ next (updO ρ d undef) w'
/-- A call of a function value. -/
def callVal (f : Value) (args : List Value) : Sem Next := do let d ← Deferred.ofValue f args.toArray; invoke d.target d.args
def CallV (P : Program) (f : Value) (args : List Value) (w : World) (d : Option Nat) (ρ : Fr) (next : Fr → World → Prop) : Prop :=
  (∃ v w', (callVal f args).run P w = .ok (.value v) w' ∧ next (updO ρ d v) w') ∨ (∃ w', (callVal f args).run P w = .ok .skip w' ∧ next (updO ρ d undef) w') ∨
  ∃ g as w', (callVal f args).run P w = .ok (.enter g as) w' ∧ Ret P g as w' fun v w'' => next (updO ρ d v) w''
theorem zcv {P : Program} {g : Nat} {cap : Array Value} {args : List Value} {w : World} {d : Option Nat} {ρ : Fr} {next : Fr → World → Prop} (h : CallK P g (args ++ cap.toList) w d ρ next) (hf : ownFn P g = true := by kernel_rfl) : CallV P (.func (.func g) #[] cap) args w d ρ next := by
  refine .inr (.inr ⟨g, (args ++ cap.toList).toArray, w, ?_, h⟩)
  unfold ownFn at hf
  split at hf <;> try (simp at hf; done)
  rename_i fn hfn
  simp only [Bool.and_eq_true, Bool.not_eq_true', beq_eq_false_iff_ne, ne_eq] at hf
  obtain ⟨hb, hn⟩ := hf
  obtain ⟨b, hb⟩ := Option.isSome_iff_exists.1 hb
  simp [callVal, Deferred.ofValue, invoke, callFunc, hfn, hn, hb]
def EqK (P : Program) (neg : Bool) (t : TypeId) (a b : Value) (w : World) (d : Option Nat) (ρ : Fr) (next : Fr → World → Prop) : Prop := ∃ r, (Op.equal t a b).run P w = .ok r w ∧ next (updO ρ d (.bool (if neg then !r else r))) w
section
variable {P : Program} {d : Option Nat} {ρ : Fr} {w : World} {next : Fr → World → Prop}
theorem rawV {op : Op} {ty : TypeId} {s : Sem Value} (h : execOp (ev ρ) (opr op ty) = (do pure (Next.value (← s)))) : RawK P op ty d ρ w next = SemK P s w d ρ next := by
  unfold RawK SemK
  rw [h]
  simp only [Sem.run_bind]
  apply propext
  constructor
  · rintro (⟨v, w', h1, h2⟩ | ⟨w', h1, h2⟩ | ⟨f, as, w', h1, _⟩)
    · cases hr : s.run P w with
      | ok v' w2 => rw [hr] at h1; simp at h1; obtain ⟨rfl, rfl⟩ := h1; exact ⟨_, _, rfl, h2⟩
      | halt w2 => rw [hr] at h1; simp at h1
    · cases hr : s.run P w with
      | ok v' w2 => rw [hr] at h1; simp at h1
      | halt w2 => rw [hr] at h1; simp at h1
    · cases hr : s.run P w with
      | ok v' w2 => rw [hr] at h1; simp at h1
      | halt w2 => rw [hr] at h1; simp at h1
  · rintro ⟨v, w', h1, h2⟩
    left
    exact ⟨v, w', by simp [h1], h2⟩
theorem rawU {op : Op} {ty : TypeId} {s : Sem Unit} (h : execOp (ev ρ) (opr op ty) = (do s; pure Next.skip)) : RawK P op ty d ρ w next = UnitK P s w d ρ next := by
  unfold RawK UnitK
  rw [h]
  simp only [Sem.run_bind]
  apply propext
  constructor
  · rintro (⟨v, w', h1, h2⟩ | ⟨w', h1, h2⟩ | ⟨f, as, w', h1, _⟩)
    · cases hr : s.run P w with
      | ok v' w2 => rw [hr] at h1; simp at h1
      | halt w2 => rw [hr] at h1; simp at h1
    · cases hr : s.run P w with
      | ok v' w2 => rw [hr] at h1; simp at h1; subst h1; exact ⟨_, rfl, h2⟩
      | halt w2 => rw [hr] at h1; simp at h1
    · cases hr : s.run P w with
      | ok v' w2 => rw [hr] at h1; simp at h1
      | halt w2 => rw [hr] at h1; simp at h1
  · rintro ⟨w', h1, h2⟩
    right; left
    exact ⟨w', by simp [h1], h2⟩
end
section
variable {P : Program} {K : Fr → World → Prop} {rest : List ML} {ρ : Fr} {w : World} {d : Option Nat} {ty : TypeId}
theorem O_bi2 (b : Builtin) (x y : Operand) (ts : Array TypeId) (h : b = .append ∨ b = .copy ∨ b = .delete ∨ b = .max ∨ b = .min) :
    O P K (⟨none, d, .raw (.call ⟨.builtin b, #[x, y], ts⟩) ty⟩ :: rest) ρ w = SemK P (match b with
      | .append => Builtin.append_ ts ty #[ev ρ x, ev ρ y] | .copy => Builtin.copy_ ts ty #[ev ρ x, ev ρ y] | .delete => Builtin.delete_ ts ty #[ev ρ x, ev ρ y]
      | .max => Builtin.max_ ts ty #[ev ρ x, ev ρ y] | _ => Builtin.min_ ts ty #[ev ρ x, ev ρ y]) w d ρ (O P K rest) := by
  rw [O_raw]
  rcases h with rfl | rfl | rfl | rfl | rfl <;> exact rawV (by simp [execOp, resolve, invoke, builtin])
theorem O_app (x y : Operand) (ts : Array TypeId) : O P K (⟨none, d, .raw (.call ⟨.builtin .append, #[x, y], ts⟩) ty⟩ :: rest) ρ w = SemK P (Builtin.append_ ts ty #[ev ρ x, ev ρ y]) w d ρ (O P K rest) := O_bi2 .append x y ts (by simp)
theorem O_cpy (x y : Operand) (ts : Array TypeId) : O P K (⟨none, d, .raw (.call ⟨.builtin .copy, #[x, y], ts⟩) ty⟩ :: rest) ρ w = SemK P (Builtin.copy_ ts ty #[ev ρ x, ev ρ y]) w d ρ (O P K rest) := O_bi2 .copy x y ts (by simp)
theorem O_dlt (x y : Operand) (ts : Array TypeId) : O P K (⟨none, d, .raw (.call ⟨.builtin .delete, #[x, y], ts⟩) ty⟩ :: rest) ρ w = SemK P (Builtin.delete_ ts ty #[ev ρ x, ev ρ y]) w d ρ (O P K rest) := O_bi2 .delete x y ts (by simp)
theorem O_max (x y : Operand) (ts : Array TypeId) : O P K (⟨none, d, .raw (.call ⟨.builtin .max, #[x, y], ts⟩) ty⟩ :: rest) ρ w = SemK P (Builtin.max_ ts ty #[ev ρ x, ev ρ y]) w d ρ (O P K rest) := O_bi2 .max x y ts (by simp)
theorem O_min (x y : Operand) (ts : Array TypeId) : O P K (⟨none, d, .raw (.call ⟨.builtin .min, #[x, y], ts⟩) ty⟩ :: rest) ρ w = SemK P (Builtin.min_ ts ty #[ev ρ x, ev ρ y]) w d ρ (O P K rest) := O_bi2 .min x y ts (by simp)
theorem O_clr (x : Operand) (ts : Array TypeId) : O P K (⟨none, d, .raw (.call ⟨.builtin .clear, #[x], ts⟩) ty⟩ :: rest) ρ w = SemK P (Builtin.clear_ ts ty #[ev ρ x]) w d ρ (O P K rest) := by
  rw [O_raw]; exact rawV (by simp [execOp, resolve, invoke, builtin])
theorem O_len' (x : Operand) (ts : Array TypeId) : O P K (⟨none, d, .raw (.call ⟨.builtin .len, #[x], ts⟩) ty⟩ :: rest) ρ w = SemK P (Builtin.len_ ts ty #[ev ρ x]) w d ρ (O P K rest) := by
  rw [O_raw]; exact rawV (by simp [execOp, resolve, invoke, builtin])
theorem O_cap (x : Operand) (ts : Array TypeId) : O P K (⟨none, d, .raw (.call ⟨.builtin .cap, #[x], ts⟩) ty⟩ :: rest) ρ w = SemK P (Builtin.cap_ ts ty #[ev ρ x]) w d ρ (O P K rest) := by
  rw [O_raw]; exact rawV (by simp [execOp, resolve, invoke, builtin])
theorem O_cv (t : Nat) (xs : Array Operand) (ts : Array TypeId) : O P K (⟨none, d, .raw (.call ⟨.value (.tmp t), xs, ts⟩) ty⟩ :: rest) ρ w = CallV P (ρ t) (xs.toList.map (ev ρ)) w d ρ (O P K rest) := by
  rw [O_raw]
  have h : execOp (ev ρ) (opr (.call ⟨.value (.tmp t), xs, ts⟩) ty) = callVal (ρ t) (xs.toList.map (ev ρ)) := by
    simp only [execOp, resolve, callVal, ev]
    congr 2
    rw [← List.map_toArray]
  unfold RawK CallV
  rw [h]
theorem O_mks (t : TypeId) (x y : Operand) : O P K (⟨none, d, .raw (.makeSlice t x y) ty⟩ :: rest) ρ w = SemK P (Instr.makeSlice t (ev ρ x) (ev ρ y)) w d ρ (O P K rest) := by rw [O_raw]; exact rawV rfl
theorem O_mkm (t : TypeId) (x : Option Operand) : O P K (⟨none, d, .raw (.makeMap t x) ty⟩ :: rest) ρ w = SemK P (Instr.makeMap t (x.map (ev ρ))) w d ρ (O P K rest) := by rw [O_raw]; exact rawV rfl
theorem O_lkp (t : TypeId) (x y : Operand) (c : Bool) : O P K (⟨none, d, .raw (.lookup t x y c) ty⟩ :: rest) ρ w = SemK P (Instr.lookup t (ev ρ x) (ev ρ y) c) w d ρ (O P K rest) := by rw [O_raw]; exact rawV rfl
theorem O_box (t : TypeId) (x : Operand) : O P K (⟨none, d, .raw (.box t x) ty⟩ :: rest) ρ w = SemK P (Instr.box t (ev ρ x)) w d ρ (O P K rest) := by rw [O_raw]; exact rawV rfl
theorem O_mkf (fn : Fn) (xs ys : Array Operand) : O P K (⟨none, d, .raw (.makeFunc fn xs ys) ty⟩ :: rest) ρ w = SemK P (Instr.makeFunc fn (xs.map (ev ρ)) (ys.map (ev ρ))) w d ρ (O P K rest) := by rw [O_raw]; exact rawV rfl
theorem O_men (t : TypeId) (x y : Operand) : O P K (⟨none, d, .raw (.mapEntry t x y) ty⟩ :: rest) ρ w = SemK P (Instr.mapEntry t (ev ρ x) (ev ρ y)) w d ρ (O P K rest) := by rw [O_raw]; exact rawV rfl
theorem O_slc (t : TypeId) (x : Operand) (lo hi mx : Option Operand) : O P K (⟨none, d, .raw (.slice t x lo hi mx) ty⟩ :: rest) ρ w = SemK P (Instr.sliceAt t (ev ρ x) (lo.map (ev ρ)) (hi.map (ev ρ)) (mx.map (ev ρ))) w d ρ (O P K rest) := by rw [O_raw]; exact rawV rfl
theorem O_cnv (s t : TypeId) (x : Operand) : O P K (⟨none, d, .raw (.convert s t x) ty⟩ :: rest) ρ w = SemK P (convert s t (ev ρ x)) w d ρ (O P K rest) := by rw [O_raw]; exact rawV rfl
theorem O_idx (t : TypeId) (x i : Operand) : O P K (⟨none, d, .raw (.index t x i) ty⟩ :: rest) ρ w = SemK P (Instr.index t (ev ρ x) (ev ρ i)) w d ρ (O P K rest) := by rw [O_raw]; exact rawV rfl
theorem O_ixa (t : TypeId) (x i : Operand) : O P K (⟨none, d, .raw (.indexAddr t x i) ty⟩ :: rest) ρ w = SemK P (Instr.indexAt t (ev ρ x) (ev ρ i)) w d ρ (O P K rest) := by rw [O_raw]; exact rawV rfl
theorem O_mkif (t : TypeId) (x : Operand) : O P K (⟨none, d, .raw (.makeInterface t x) ty⟩ :: rest) ρ w = SemK P (Instr.makeInterface t (ev ρ x)) w d ρ (O P K rest) := by rw [O_raw]; exact rawV rfl
theorem O_tas (x : Operand) (s t : TypeId) (c : Bool) : O P K (⟨none, d, .raw (.typeAssert x s t c) ty⟩ :: rest) ρ w = SemK P (Instr.typeAssert (ev ρ x) s t c) w d ρ (O P K rest) := by rw [O_raw]; exact rawV rfl
theorem O_mup (t : TypeId) (x y z : Operand) : O P K (⟨none, d, .raw (.mapUpdate t x y z) ty⟩ :: rest) ρ w = UnitK P (Instr.mapUpdate t (ev ρ x) (ev ρ y) (ev ρ z)) w d ρ (O P K rest) := by rw [O_raw]; exact rawU rfl
theorem O_est (t : TypeId) (x y z : Operand) : O P K (⟨none, d, .raw (.entryStore t x y z) ty⟩ :: rest) ρ w = UnitK P (Instr.entryStore t (ev ρ x) (ev ρ y) (ev ρ z)) w d ρ (O P K rest) := by rw [O_raw]; exact rawU rfl
theorem O_bop (op : BinOp) (t t' : TypeId) (x y : Operand) : O P K (⟨none, d, .raw (.binOp op t x y t') ty⟩ :: rest) ρ w = SemK P (do eqGuard op t x y (ev ρ x) (ev ρ y); binOp op t (ev ρ x) (ev ρ y)) w d ρ (O P K rest) := by rw [O_raw]; exact rawV rfl
/-- Comparison with nil (a slice, a map, a pointer, a function): no draw, no guard. -/
def NilK (P : Program) (neg : Bool) (t : TypeId) (a b : Value) (w : World) (d : Option Nat) (ρ : Fr) (next : Fr → World → Prop) : Prop := SemK P (do eqGuard .eql t (.tmp 0) (.tmp 0) a b; binOp (if neg then .neq else .eql) t a b) w d ρ next
end
end Go.Proofs.Ytdhieolfdlkeaaa
