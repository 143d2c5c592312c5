/- The engine, part 3: the operations of the model are these. -/
import Derived.Test.YtdhieolfdlkeaaaMe2
import Derived.ChangeKeysEq
namespace Go.Proofs.Ytdhieolfdlkeaaa
set_option linter.unusedSimpArgs false
set_option linter.unusedVariables false
open Go.RowKit

def aggN (P : Program) (t : TypeId) : Option (Option Nat) :=
  match P.info? t, P.underlying t with
  | some i, some (.struct _) => some (some i.size)
  | some i, some (.array _ _) => some (some i.size)
  | some _, some _ => some none
  | _, _ => none
def isInt (P : Program) (t : TypeId) : Bool := match P.underlying t with | some (.int _) => true | _ => false
def isStr (P : Program) (t : TypeId) : Bool := match P.underlying t with | some .string => true | _ => false
def isBool (P : Program) (t : TypeId) : Bool := match P.underlying t with | some .bool => true | _ => false
def elemOf (P : Program) (t : TypeId) : Option TypeId := match P.underlying t with | some (.slice e) => some e | _ => none
def plainOp : BinOp → Bool | .add | .sub | .mul | .quo | .rem | .lss | .leq | .gtr | .geq => true | _ => false
def eqOp : BinOp → Bool | .eql | .neq => true | _ => false
def isNeq : BinOp → Bool | .neq => true | _ => false
def ownFn (P : Program) (f : Nat) : Bool := match P.funcs[f]? with | some fn => fn.body.isSome && !(fn.name == "runtime.NumGoroutine") | none => false

def cmCall (P : Program) (c : Call) (o : Oper) : MO :=
  match c.callee with
  | .builtin .len => (match c.args.toList, c.argTypes.toList with
    | [x], [t] => if isStr P t then .lenS x else if (elemOf P t).isSome then .len x else .raw o.op o.type
    | _, _ => .raw o.op o.type)
  | .value (.func f) => if ownFn P f then .call f c.args.toList else .raw o.op o.type
  | _ => .raw o.op o.type
def cmSlice (P : Program) (t : TypeId) (x : Operand) (lo hi mx : Option Operand) (o : Oper) : MO :=
  match mx with
  | none => if isStr P t then .slS x lo hi else (match elemOf P t with | some e => (match P.info? e with | some j => .slV j.size x lo hi | none => .raw o.op o.type) | none => .raw o.op o.type)
  | some _ => .raw o.op o.type

def fkOf (P : Program) (t : TypeId) : Option FK := match P.info? t, P.underlying t with
  | some _, some (.int _) => some .i
  | some _, some .string => some .s
  | some _, some .bool => some .b
  | _, _ => none
def flatFs (P : Program) : Nat → List Field → Option (List FK)
  | _, [] => some []
  | j, f :: fs => if f.offset = j ∧ f.name ≠ "_" then (match fkOf P f.type, flatFs P (j + 1) fs with | some k, some ks => some (k :: ks) | _, _ => none) else none
def cmEqA (P : Program) (t : TypeId) (neg : Bool) (x y : Operand) (o : Oper) : MO :=
  match P.underlying t with
  | some (.struct fs) => if P.stoodInHeld t || P.eqGuardType P.depth t then .raw o.op o.type else (match flatFs P 0 fs.toList with | some ks => .eqA neg ks x y | none => .raw o.op o.type)
  | _ => .raw o.op o.type
def fieldOf (P : Program) (s : TypeId) (f : Nat) : Option Field := match P.underlying s with | some (.struct fs) => fs[f]? | _ => none
def cmFad (P : Program) (s : TypeId) (x : Operand) (f : Nat) (o : Oper) : MO :=
  match fieldOf P s f with
  | some fd => (match P.info? fd.type with | some i => if i.size = 0 then .raw o.op o.type else .fad fd.offset x | none => .raw o.op o.type)
  | none => .raw o.op o.type
def cmFld (P : Program) (s : TypeId) (x : Operand) (f : Nat) (o : Oper) : MO :=
  match fieldOf P s f with
  | some fd => (match aggN P fd.type with | some k => .fld fd.offset k x | none => .raw o.op o.type)
  | none => .raw o.op o.type
def places (P : Program) (t : TypeId) : Option (Nat → Option (Nat × Nat)) :=
  match P.underlying t with
  | some (.struct fs) => if fs.toList.all (fun f => (P.info? f.type).isSome) then some fun i => (fs[i]?).map fun f => (f.offset, P.cellsOf f.type) else none
  | some (.array _ e) => if (P.info? e).isSome then some fun i => some (i * P.cellsOf e, P.cellsOf e) else none
  | _ => none
def partsAt (pl : Nat → Option (Nat × Nat)) : List (Nat × Operand) → Option (List (Nat × Nat × Operand))
  | [] => some []
  | (i, x) :: r => match pl i, partsAt pl r with | some (off, n), some l => some ((off, n, x) :: l) | _, _ => none
def cmBld (P : Program) (t : TypeId) (ps : List (Nat × Operand)) (o : Oper) : MO :=
  match (P.info? t).bind (·.zero), places P t with
  | some z, some pl => (match partsAt pl ps with | some l => .bld z.cells.toList l | none => .raw o.op o.type)
  | _, _ => .raw o.op o.type
def zerosOf (P : Program) (e : TypeId) (k : Nat) : Option (List Value) :=
  if k = 0 then some [] else ((P.info? e).bind (·.zero)).map fun z => ((Array.range k).map fun i => z.cells[i % z.cells.size]!).toList
def cmBsl (P : Program) (t : TypeId) (n : Nat) (ps : List (Nat × Operand)) (o : Oper) : MO :=
  match elemOf P t with
  | some e => (match P.info? e, zerosOf P e (n * P.cellsOf e), partsAt (fun i => some (i * P.cellsOf e, P.cellsOf e)) ps with
    | some _, some zs, some l => if n * P.cellsOf e ≤ 2 ^ 24 then .bsl e zs n l else .raw o.op o.type
    | _, _, _ => .raw o.op o.type)
  | none => .raw o.op o.type

/-- An operation in short. -/
def cmA (P : Program) (o : Oper) (p : Op) : MO :=
  match p with
  | .move x => .mv x
  | .assign x => .mv x
  | .pick c a b => .pick c a b
  | .binOp op t x y _ => if plainOp op || (eqOp op && (isInt P t || isStr P t)) then .bin op x y else if eqOp op && isBool P t then .eqb (isNeq op) x y else if eqOp op then cmEqA P t (isNeq op) x y o else .raw o.op o.type
  | .unOp op _ x => .un op x
  | .convert s t x => match P.underlying s, P.underlying t with
    | some (.int _), some (.int k) => .cvi k x
    | some .string, some .string => .cvs x
    | some (.slice e), some .string => (match P.underlying e with | some (.int .u8) => .b2s x | _ => .raw o.op o.type)
    | _, _ => .raw o.op o.type
  | .load t x => match aggN P t with | some n => .ld n x | none => .raw o.op o.type
  | .store t x y => match P.info? t with | some i => .st i.size x y | none => .raw o.op o.type
  | .index t x i => if isStr P t then .idxS x i else .raw o.op o.type
  | .indexAddr t x i => match elemOf P t with | some e => (match P.info? e with | some j => .adr j.size x i | none => .raw o.op o.type) | none => .raw o.op o.type
  | .extract x i => .ext i x
  | .call c => cmCall P c o
  | .slice t x lo hi mx => cmSlice P t x lo hi mx o
  | .alloc t => match (P.info? t).bind (·.zero) with | some z => .alc t z.cells.toList | none => .raw o.op o.type
  | .nilCheck x => .nck x
  | .fieldAddr s x f => cmFad P s x f o
  | .field s x f => cmFld P s x f o
  | .build t ps => cmBld P t ps.toList o
  | .buildSlice t n ps => cmBsl P t n ps.toList o
  | _ => .raw o.op o.type
def cm (P : Program) (o : Oper) : MO := cmA P o o.op

section
variable {P : Program} {ρ : Fr} {w : World}

theorem run_pick (o : Oper) (c a b : Operand) (ho : o.op = .pick c a b) (h : isB (ev ρ c)) : (execOp (ev ρ) o).run P w = .ok (.value (pickV (ev ρ c) (ev ρ a) (ev ρ b))) w := by
  unfold execOp
  simp only [ho]
  generalize ev ρ c = v at *
  cases v <;> simp [isB] at h
  rename_i t
  cases t <;> simp [asBool, pickV]
theorem run_bin (o : Oper) (op : BinOp) (t t' : TypeId) (x y : Operand) (ho : o.op = .binOp op t x y t') (hop : plainOp op || eqOp op) (h : okB op (ev ρ x) (ev ρ y)) :
    (execOp (ev ρ) o).run P w = .ok (.value (valB op (ev ρ x) (ev ρ y))) w := by
  unfold execOp
  simp only [ho]
  generalize ev ρ x = a at *
  generalize ev ρ y = b at *
  cases op <;> simp [plainOp, eqOp] at hop <;> (cases a <;> try (simp [okB] at h; done)) <;> (cases b <;> try (simp [okB] at h; done)) <;> simp only [okB] at h
  all_goals first
    | (subst h; simp [eqGuard, binOp, Op.intArith, Op.intCmp, valB]; done)
    | (obtain ⟨rfl, h⟩ := h; simp [eqGuard, binOp, Op.intDiv, valB, h]; done)
    | (simp [eqGuard, binOp, Op.stringOp, valB, IntKind.max, IntKind.bits, IntKind.signed]; done)
    | (simp [eqGuard, binOp, Op.stringOp, valB, IntKind.max, IntKind.bits, IntKind.signed]; omega)
theorem run_eqb (o : Oper) (op : BinOp) (t t' : TypeId) (x y : Operand) (ho : o.op = .binOp op t x y t') (hop : eqOp op) (ht : isBool P t) (hx : isB (ev ρ x)) (hy : isB (ev ρ y)) :
    (execOp (ev ρ) o).run P w = .ok (.value (eqbV (isNeq op) (ev ρ x) (ev ρ y))) w := by
  unfold execOp
  simp only [ho]
  generalize ev ρ x = a at *
  generalize ev ρ y = b at *
  cases a <;> simp [isB] at hx
  cases b <;> simp [isB] at hy
  unfold isBool at ht
  split at ht
  · rename_i hu
    have e0 : ∀ (d : Nat) (a b : Bool), (Op.equalIn (d + 1) t (.bool a) (.bool b)).run P w = .ok (a == b) w := fun d a b => by
      simp [Op.equalIn, run_underlying hu]
    have e : ∀ a b : Bool, (Op.equal t (.bool a) (.bool b)).run P w = .ok (a == b) w := fun a b => by
      simp [Op.equal, Op.maxDepth, e0 9999]
    cases op <;> simp [eqOp] at hop
    · simp [eqGuard, binOp, eqbV, e, isNeq]
    · simp [eqGuard, binOp, eqbV, e, isNeq]
  · simp at ht
theorem run_un (o : Oper) (op : UnOp) (t : TypeId) (x : Operand) (ho : o.op = .unOp op t x) (h : okU op (ev ρ x)) : (execOp (ev ρ) o).run P w = .ok (.value (valU op (ev ρ x))) w := by
  unfold execOp
  simp only [ho]
  generalize ev ρ x = a at *
  cases op <;> cases a <;> simp [okU] at h <;> simp [Op.unary, valU, Op.intArith]
theorem run_cvi (o : Oper) (s t : TypeId) (j k : IntKind) (x : Operand) (ho : o.op = .convert s t x) (hs : P.underlying s = some (.int j)) (ht : P.underlying t = some (.int k)) (h : isI (ev ρ x)) :
    (execOp (ev ρ) o).run P w = .ok (.value (cviV k (ev ρ x))) w := by
  unfold execOp
  simp only [ho]
  generalize ev ρ x = a at *
  cases a <;> simp [isI] at h
  simp [convert, run_underlying hs, run_underlying ht, Conv.intToInt, cviV]
theorem run_cvs (o : Oper) (s t : TypeId) (x : Operand) (ho : o.op = .convert s t x) (hs : P.underlying s = some .string) (ht : P.underlying t = some .string) (h : isS (ev ρ x)) :
    (execOp (ev ρ) o).run P w = .ok (.value (ev ρ x)) w := by
  unfold execOp
  simp only [ho]
  generalize ev ρ x = a at *
  cases a <;> simp [isS] at h
  simp [convert, run_underlying hs, run_underlying ht]
theorem isStr_of {t : TypeId} (h : isStr P t = true) : P.underlying t = some .string := by
  unfold isStr at h
  split at h
  · assumption
  · simp at h
theorem elemOf_of {t e : TypeId} (h : elemOf P t = some e) : P.underlying t = some (.slice e) := by
  unfold elemOf at h
  split at h
  · injection h with h; subst h; assumption
  · simp at h
theorem run_lenS (o : Oper) (t : TypeId) (x : Operand) (ho : o.op = .call { callee := .builtin .len, args := #[x], argTypes := #[t] }) (ht : isStr P t = true) (h : isS (ev ρ x)) :
    (execOp (ev ρ) o).run P w = .ok (.value (lenV (ev ρ x))) w := by
  unfold execOp
  simp only [ho]
  generalize hv : ev ρ x = a at *
  cases a <;> simp [isS] at h
  simp [resolve, invoke, builtin, Builtin.len_, run_underlying (isStr_of ht), hv, lenV, goInt]
theorem run_lenL (o : Oper) (t e : TypeId) (x : Operand) (ho : o.op = .call { callee := .builtin .len, args := #[x], argTypes := #[t] }) (ht : elemOf P t = some e) (h : isL (ev ρ x)) :
    (execOp (ev ρ) o).run P w = .ok (.value (lenV (ev ρ x))) w := by
  unfold execOp
  simp only [ho]
  generalize hv : ev ρ x = a at *
  cases a <;> simp [isL] at h
  simp [resolve, invoke, builtin, Builtin.len_, run_underlying (elemOf_of ht), hv, lenV, goInt]
theorem run_idxS (o : Oper) (t : TypeId) (x i : Operand) (ho : o.op = .index t x i) (ht : isStr P t = true) (h : okIdxS (ev ρ x) (ev ρ i)) :
    (execOp (ev ρ) o).run P w = .ok (.value (idxSV (ev ρ x) (ev ρ i))) w := by
  unfold execOp
  simp only [ho]
  generalize ev ρ x = a at *
  generalize ev ρ i = b at *
  cases a <;> try (simp [okIdxS] at h; done)
  cases b <;> simp [okIdxS] at h
  rename_i s k n
  have hlt : n.toNat < s.size := by omega
  simp only [Sem.run_bind, run_index_string w t s k n (isStr_of ht), h, and_self, dite_true]
  have : s.data.toList[n.toNat]?.getD 0 = s[n.toNat] := by
    have h2 : n.toNat < s.data.toList.length := by simpa using hlt
    rw [List.getElem?_eq_getElem h2]; rfl
  simp only [idxSV, List.getD_eq_getElem?_getD, this, Sem.run_pure, Result.andThen_ok]
theorem run_adr (o : Oper) (t e : TypeId) (j : TypeInfo) (x i : Operand) (ho : o.op = .indexAddr t x i) (ht : elemOf P t = some e) (hj : P.info? e = some j) (h : okAdr (ev ρ x) (ev ρ i)) :
    (execOp (ev ρ) o).run P w = .ok (.value (adrV j.size (ev ρ x) (ev ρ i))) w := by
  unfold execOp
  simp only [ho]
  generalize ev ρ x = a at *
  generalize ev ρ i = b at *
  cases a <;> try (simp [okAdr] at h; done)
  rename_i a n c
  cases a <;> try (simp [okAdr] at h; done)
  cases b <;> simp [okAdr] at h
  simp [Instr.indexAt, asIntOf, run_underlying (elemOf_of ht), h, sizeOf, typeInfo, hj, adrV]
theorem run_ext (o : Oper) (i : Nat) (x : Operand) (ho : o.op = .extract x i) (h : okExt i (ev ρ x)) : (execOp (ev ρ) o).run P w = .ok (.value (extV i (ev ρ x))) w := by
  unfold execOp
  simp only [ho]
  generalize ev ρ x = a at *
  cases a <;> simp [okExt] at h
  simp [Instr.extract, extV, h]
theorem run_nck (o : Oper) (x : Operand) (ho : o.op = .nilCheck x) (h : okNck (ev ρ x)) : (execOp (ev ρ) o).run P w = .ok (.value (ev ρ x)) w := by
  unfold execOp
  simp only [ho]
  generalize ev ρ x = a at *
  cases a <;> try (simp [okNck] at h; done)
  all_goals try simp
  rename_i a
  cases a <;> simp [okNck] at h
  simp
theorem run_alc (o : Oper) (t : TypeId) (z : Value) (ho : o.op = .alloc t) (hz : (P.info? t).bind (·.zero) = some z) :
    (execOp (ev ρ) o).run P w = .ok (.value (.pointer (some ⟨w.heap.size, 0, none⟩))) (w.alloc (.cells z.cells.toList.toArray t)) := by
  unfold execOp
  simp only [ho]
  cases hi : P.info? t with
  | none => simp [hi] at hz
  | some i =>
    simp [hi] at hz
    simp [Instr.alloc, zeroValue, typeInfo, hi, hz, newVar, newRow]
theorem run_ld1 (o : Oper) (t : TypeId) (x : Operand) (ho : o.op = .load t x) (ht : aggN P t = some none) (h : okLd w none (ev ρ x)) : (execOp (ev ρ) o).run P w = .ok (.value (ldV w none (ev ρ x))) w := by
  unfold execOp
  simp only [ho]
  generalize ev ρ x = a at *
  cases a <;> try (simp [okLd] at h; done)
  rename_i a
  cases a <;> simp [okLd] at h
  rename_i a
  obtain ⟨v, hv⟩ := Option.isSome_iff_exists.1 h
  unfold aggN at ht
  have : (isAgg t).run P w = .ok false w := by
    cases hu : P.underlying t with
    | none => simp [hu] at ht
    | some d => cases hi : P.info? t <;> cases d <;> simp [hu, hi] at ht <;> simp [isAgg, run_underlying hu]
  simp [Instr.loadAt, Instr.sureAddr, loadVar, this, hv, ldV]
theorem run_ldN (o : Oper) (t : TypeId) (n : Nat) (x : Operand) (ho : o.op = .load t x) (ht : aggN P t = some (some n)) (h : okLd w (some n) (ev ρ x)) : (execOp (ev ρ) o).run P w = .ok (.value (ldV w (some n) (ev ρ x))) w := by
  unfold execOp
  simp only [ho]
  generalize ev ρ x = a at *
  cases a <;> try (simp [okLd] at h; done)
  rename_i a
  cases a <;> simp only [okLd] at h
  rename_i a
  have hl : (loadCells a n).run P w = .ok ((List.range n).map fun j => (w.cell? (a.add j)).getD undef).toArray w := by
    refine run_loadCells w a n (fun j => (w.cell? (a.add j)).getD undef) fun j hj => ?_
    obtain ⟨v, hv⟩ := Option.isSome_iff_exists.1 (h j hj)
    rw [hv]; rfl
  unfold aggN at ht
  split at ht <;> simp at ht
  all_goals
    rename_i i _ hi hd
    have ha : (isAgg t).run P w = .ok true w := by simp [isAgg, run_underlying hd]
    subst ht
    simp [Instr.loadAt, Instr.sureAddr, loadVar, ha, sizeOf, typeInfo, hi, hl, ldV]
theorem run_storeCells (a : Addr) : ∀ (l : List Value) (i : Nat) (w : World), (∀ v ∈ l, v.oneCell' = true) → (∀ j, j < l.length → (w.cell? (a.add (i + j))).isSome = true ∧ w.frozen? (a.add (i + j)) = false) →
    (storeCells a l i).run P w = .ok () (stL w a l i) := by
  intro l
  induction l with
  | nil => intro i w _ _; simp [storeCells, stL]
  | cons v l ih =>
    intro i w h1 h2
    obtain ⟨hc, hf⟩ := h2 0 (by simp)
    simp only [Nat.add_zero] at hc hf
    obtain ⟨u, hu⟩ := Option.isSome_iff_exists.1 hc
    simp only [storeCells, stL, Sem.run_bind, run_store P w (a.add i) v .plain (h1 v (by simp)), hu, hf]
    simp only [Bool.false_eq_true, if_false, Result.andThen_ok]
    refine ih (i + 1) _ (fun v hv => h1 v (by simp [hv])) fun j hj => ?_
    obtain ⟨hc', hf'⟩ := h2 (j + 1) (by simp; omega)
    rw [show i + (j + 1) = i + 1 + j from by omega] at hc' hf'
    obtain ⟨u', hu'⟩ := Option.isSome_iff_exists.1 hc'
    obtain ⟨x, hx⟩ := cell?_setCell_some (w := w) (p := a.add i) (x := v) (q := a.add (i + 1 + j)) (v := u') hu'
    exact ⟨by rw [hx]; rfl, by rw [World.frozen?_setCell]; exact hf'⟩
theorem run_st (o : Oper) (t : TypeId) (i : TypeInfo) (x y : Operand) (ho : o.op = .store t x y) (hi : P.info? t = some i) (h : okSt w i.size (ev ρ x) (ev ρ y)) :
    (execOp (ev ρ) o).run P w = .ok .skip (stW w (ev ρ x) (ev ρ y)) := by
  unfold execOp
  simp only [ho]
  generalize ev ρ x = a at *
  generalize ev ρ y = v at *
  cases a <;> try (simp [okSt] at h; done)
  rename_i a
  cases a <;> simp only [okSt] at h
  rename_i a
  obtain ⟨hsz, h1, hc⟩ := h
  have hs := run_storeCells (P := P) a v.cells.toList 0 w h1 (fun j hj => by simpa using hc j (by simpa [hsz] using hj))
  simp [Instr.storeAt, Instr.sureAddr, storeVar, sizeOf, typeInfo, hi, hsz, hs, stW]
theorem run_slS (o : Oper) (t : TypeId) (x : Operand) (lo hi : Option Operand) (ho : o.op = .slice t x lo hi none) (ht : isStr P t = true) (h : okSlS (lo.map (ev ρ)) (hi.map (ev ρ)) (ev ρ x)) :
    (execOp (ev ρ) o).run P w = .ok (.value (slSV (lo.map (ev ρ)) (hi.map (ev ρ)) (ev ρ x))) w := by
  unfold execOp
  simp only [ho]
  generalize ev ρ x = a at *
  generalize lo.map (ev ρ) = l at *
  generalize hi.map (ev ρ) = u at *
  cases a <;> simp only [okSlS] at h
  rename_i s
  obtain ⟨h1, h2, h3, h4, h5⟩ := h
  rcases l with _ | l <;> rcases u with _ | u
  · simp [Instr.sliceAt, run_underlying (isStr_of ht), Instr.slice, Instr.sliceBounds, slSV, loN, hiN]
  · cases u <;> simp [okI] at h2
    simp only [loN, hiN] at h3 h4 h5
    simp [Instr.sliceAt, run_underlying (isStr_of ht), Instr.slice, Instr.sliceBounds, Instr.sliceBound, asIntOf, slSV, loN, hiN, h4, h5]
  · cases l <;> simp [okI] at h1
    simp only [loN, hiN] at h3 h4 h5
    simp [Instr.sliceAt, run_underlying (isStr_of ht), Instr.slice, Instr.sliceBounds, Instr.sliceBound, asIntOf, slSV, loN, hiN, h3, h4]
  · cases l <;> simp [okI] at h1
    cases u <;> simp [okI] at h2
    simp only [loN, hiN] at h3 h4 h5
    rename_i k n k' m
    have e1 : 0 ≤ m ∧ m ≤ (s.size : Int) := ⟨by omega, h5⟩
    have e2 : n ≤ (m.toNat : Int) := by omega
    simp only [Instr.sliceAt, Sem.run_bind, run_underlying (isStr_of ht), Result.andThen_ok]
    simp [Instr.slice, run_underlying (isStr_of ht), Instr.sliceBounds, Instr.sliceBound, asIntOf, slSV, loN, hiN, h3, e1]
    intro hc
    omega
theorem run_slV (o : Oper) (t e : TypeId) (j : TypeInfo) (x : Operand) (lo hi : Option Operand) (ho : o.op = .slice t x lo hi none) (ht : elemOf P t = some e) (hj : P.info? e = some j)
    (h : okSlV (lo.map (ev ρ)) (hi.map (ev ρ)) (ev ρ x)) :
    (execOp (ev ρ) o).run P w = .ok (.value (slVV j.size (lo.map (ev ρ)) (hi.map (ev ρ)) (ev ρ x))) w := by
  unfold execOp
  simp only [ho]
  generalize ev ρ x = a at *
  generalize lo.map (ev ρ) = l at *
  generalize hi.map (ev ρ) = u at *
  cases a <;> simp only [okSlV] at h
  rename_i a n c
  obtain ⟨h1, h2, h3, h4, h5⟩ := h
  have hu := run_underlying (elemOf_of ht)
  rcases l with _ | l <;> rcases u with _ | u
  · simp [Instr.sliceAt, hu, Instr.slice, Instr.sliceBounds, slVV, loN, hiN, sizeOf, typeInfo, hj]
  · cases u <;> simp [okI] at h2
    simp only [loN, hiN] at h3 h4 h5
    simp [Instr.sliceAt, hu, Instr.slice, Instr.sliceBounds, Instr.sliceBound, asIntOf, slVV, loN, hiN, h4, h5, sizeOf, typeInfo, hj]
  · cases l <;> simp [okI] at h1
    simp only [loN, hiN] at h3 h4 h5
    rename_i n1
    by_cases hcc : c = n1.toNat <;> simp [Instr.sliceAt, hu, Instr.slice, Instr.sliceBounds, Instr.sliceBound, asIntOf, slVV, loN, hiN, h3, h4, sizeOf, typeInfo, hj, hcc]
  · cases l <;> simp [okI] at h1
    cases u <;> simp [okI] at h2
    simp only [loN, hiN] at h3 h4 h5
    rename_i k p k' m
    have e1 : 0 ≤ m ∧ m ≤ (c : Int) := ⟨by omega, h5⟩
    have e2 : 0 ≤ p ∧ p ≤ (m.toNat : Int) := ⟨h3, by omega⟩
    simp only [Instr.sliceAt, Sem.run_bind, hu, Result.andThen_ok, Instr.slice, Instr.sliceBounds, Instr.sliceBound, asIntOf, Sem.run_pure, if_pos e1, if_true]
    by_cases hcc : c = p.toNat <;> simp [e2, Instr.sliceBound, asIntOf, sizeOf, typeInfo, hj, slVV, loN, hiN, hcc] <;> rw [if_pos (by omega), if_pos (by omega)]
theorem run_b2s (o : Oper) (s t e : TypeId) (x : Operand) (ho : o.op = .convert s t x) (hs : P.underlying s = some (.slice e)) (he : P.underlying e = some (.int .u8)) (ht : P.underlying t = some .string) (h : okB2s w (ev ρ x)) :
    (execOp (ev ρ) o).run P w = .ok (.value (b2sV w (ev ρ x))) w := by
  unfold execOp
  simp only [ho]
  generalize ev ρ x = a at *
  cases a <;> try (simp [okB2s] at h; done)
  rename_i a n c
  simp only [Sem.run_bind, run_convert_bytes_string w s t e a n c hs he ht]
  cases a with
  | none => simp [Conv.bytesToString, b2sV, S]; rfl
  | some a =>
    simp only [okB2s] at h
    have hex : ∃ f : Nat → Int, ∀ j, j < n → w.cell? (a.add j) = some (.int .u8 (f j)) :=
      ⟨fun j => if hj : j < n then (h j hj).choose else 0, fun j hj => by simp only [hj, dite_true]; exact (h j hj).choose_spec⟩
    obtain ⟨f, hf⟩ := hex
    have hl := run_loadCells (P := P) w a n (fun j => .int .u8 (f j)) hf
    have e1 : ((List.range n).map fun j => Value.int .u8 (f j)) = ((List.range n).map f).map (Value.int .u8) := by simp
    rw [e1] at hl
    rw [run_bytesToString w a n c _ hl]
    have h2 : ∀ (l : List Int) (acc : ByteArray), l.foldl (fun r x => r.push (UInt8.ofNat x.toNat)) acc = acc ++ ⟨(l.map fun x => UInt8.ofNat x.toNat).toArray⟩ := by
      intro l
      induction l with
      | nil => intro acc; apply ByteArray.ext; simp
      | cons x l ih => intro acc; rw [List.foldl_cons, ih]; apply ByteArray.ext; simp
    rw [h2]
    simp only [Sem.run_pure, Result.andThen_ok, b2sV, S]
    congr 3
    apply ByteArray.ext
    simp only [ByteArray.data_append, ByteArray.data_empty, Array.empty_append, List.map_map]
    congr 1
    apply List.map_congr_left
    intro j hj
    simp only [List.mem_range] at hj
    simp [hf j hj, byteOfV]
theorem run_call (o : Oper) (f : Nat) (c : Call) (ho : o.op = .call c) (hc : c.callee = .value (.func f)) (hf : ownFn P f = true) :
    (execOp (ev ρ) o).run P w = .ok (.enter f (c.args.map (ev ρ))) w := by
  unfold execOp
  simp only [ho, resolve, hc]
  unfold ownFn at hf
  cases hfn : P.funcs[f]? with
  | none => simp [hfn] at hf
  | some fn =>
    simp only [hfn] at hf
    simp only [Bool.and_eq_true, Bool.not_eq_true', Option.isSome_iff_exists] at hf
    obtain ⟨⟨b, hb⟩, hn⟩ := hf
    simp only [beq_eq_false_iff_ne, ne_eq] at hn
    simp [ev, Deferred.ofValue, invoke, callFunc, hfn, hn, hb]
theorem fieldOf_of {s : TypeId} {f : Nat} {fd : Field} (h : fieldOf P s f = some fd) : ∃ fs, P.underlying s = some (.struct fs) ∧ fs[f]? = some fd := by
  unfold fieldOf at h
  split at h
  · rename_i fs hu; exact ⟨fs, hu, h⟩
  · simp at h
theorem run_fad (o : Oper) (s : TypeId) (f : Nat) (fd : Field) (i : TypeInfo) (x : Operand) (ho : o.op = .fieldAddr s x f) (hf : fieldOf P s f = some fd) (hi : P.info? fd.type = some i) (hz : ¬ i.size = 0) (h : okFad (ev ρ x)) :
    (execOp (ev ρ) o).run P w = .ok (.value (fadV fd.offset (ev ρ x))) w := by
  obtain ⟨fs, hu, hfs⟩ := fieldOf_of hf
  unfold execOp
  simp only [ho]
  generalize ev ρ x = a at *
  cases a <;> try (simp [okFad] at h; done)
  rename_i a
  cases a <;> simp [okFad] at h
  simp [Instr.fieldAt, run_underlying hu, hfs, Instr.sureAddr, fieldPlace, sizeOf, typeInfo, hi, hz, fadV]
theorem run_isAgg_none {t : TypeId} (ht : aggN P t = some none) : (isAgg t).run P w = .ok false w := by
  unfold aggN at ht
  cases hu : P.underlying t with
  | none => simp [hu] at ht
  | some d => cases hi : P.info? t <;> cases d <;> simp [hu, hi] at ht <;> simp [isAgg, run_underlying hu]
theorem run_isAgg_some {t : TypeId} {n : Nat} (ht : aggN P t = some (some n)) : (isAgg t).run P w = .ok true w ∧ ∃ i, P.info? t = some i ∧ i.size = n := by
  unfold aggN at ht
  cases hu : P.underlying t with
  | none => simp [hu] at ht
  | some d => cases hi : P.info? t <;> cases d <;> simp [hu, hi] at ht <;> exact ⟨by simp [isAgg, run_underlying hu], _, rfl, ht⟩
theorem run_fld (o : Oper) (s : TypeId) (f : Nat) (fd : Field) (k : Option Nat) (x : Operand) (ho : o.op = .field s x f) (hf : fieldOf P s f = some fd) (hk : aggN P fd.type = some k) (h : okFld fd.offset k (ev ρ x)) :
    (execOp (ev ρ) o).run P w = .ok (.value (fldV fd.offset k (ev ρ x))) w := by
  obtain ⟨fs, hu, hfs⟩ := fieldOf_of hf
  unfold execOp
  simp only [ho]
  generalize ev ρ x = a at *
  cases k with
  | none =>
    cases a <;> simp only [okFld] at h
    rename_i cs
    simp [Instr.field, run_underlying hu, hfs, asAgg, part, run_isAgg_none hk, fldV, h]
  | some n =>
    cases a <;> simp only [okFld] at h
    rename_i cs
    obtain ⟨h1, i, h2, h3⟩ := run_isAgg_some (w := w) hk
    simp [Instr.field, run_underlying hu, hfs, asAgg, part, h1, sizeOf, typeInfo, h2, h3, fldV]
theorem fill_lay (pl : Nat → Option (Nat × Nat)) : ∀ (ps : List (Nat × Operand)) (l : List (Nat × Nat × Operand)) (cs : Array Value), partsAt pl ps = some l → okLay cs.toList (evP ρ l) →
    Instr.fill pl cs (ps.map fun p => (p.1, ev ρ p.2)) = some (layL cs.toList (evP ρ l)).toArray := by
  intro ps
  induction ps with
  | nil => intro l cs h _; simp [partsAt] at h; subst h; simp [Instr.fill, evP, layL]
  | cons p ps ih =>
    obtain ⟨i, x⟩ := p
    intro l cs h hok
    simp only [partsAt] at h
    cases hp : pl i with
    | none => simp [hp] at h
    | some q =>
      obtain ⟨off, n⟩ := q
      cases hl : partsAt pl ps with
      | none => simp [hp, hl] at h
      | some l' =>
        simp [hp, hl] at h
        subst h
        simp only [evP, List.map_cons, okLay] at hok
        obtain ⟨⟨h1, h2⟩, h3⟩ := hok
        simp only [List.map_cons, Instr.fill, hp, evP, layL]
        rw [if_neg (by simp [h1]; simpa using h2)]
        have e : ((ev ρ x).cells.zipIdx.foldl (fun cs p => cs.setIfInBounds (off + p.2) p.1) cs).toList = (ev ρ x).cells.toList.zipIdx.foldl (fun c p => c.set (off + p.2) p.1) cs.toList := by
          rw [← Array.foldl_toList, Array.toList_zipIdx]
          generalize (ev ρ x).cells.toList.zipIdx = zl
          clear h1 h2 h3 hp hl ih
          induction zl generalizing cs with
          | nil => rfl
          | cons z zl ih => simp only [List.foldl_cons]; rw [ih]; simp
        have h3' : okLay ((ev ρ x).cells.zipIdx.foldl (fun cs p => cs.setIfInBounds (off + p.2) p.1) cs).toList (evP ρ l') := by
          rw [e]
          have len : ∀ (zl : List (Value × Nat)) (c : List Value), (zl.foldl (fun c p => c.set (off + p.2) p.1) c).length = c.length := by
            intro zl
            induction zl with
            | nil => intro c; rfl
            | cons z zl ih => intro c; simp only [List.foldl_cons]; rw [ih]; simp
          have ok : ∀ (r : List (Nat × Nat × Value)) (c c' : List Value), c.length = c'.length → okLay c r → okLay c' r := by
            intro r
            induction r with
            | nil => intro _ _ _ h; exact h
            | cons z r ih => intro c c' hc h; obtain ⟨a, b, v⟩ := z; simp only [okLay] at h ⊢; exact ⟨⟨h.1.1, by omega⟩, ih c c' hc h.2⟩
          exact ok _ _ _ (len _ _).symm h3
        rw [ih l' _ hl h3', e]
        rfl
theorem okLay_len : ∀ (r : List (Nat × Nat × Value)) (c c' : List Value), c.length = c'.length → okLay c r → okLay c' r := by
  intro r
  induction r with
  | nil => intro _ _ _ h; exact h
  | cons z r ih => intro c c' hc h; obtain ⟨a, b, v⟩ := z; simp only [okLay] at h ⊢; exact ⟨⟨h.1.1, by omega⟩, ih c c' hc h.2⟩
theorem run_places (fs : List Field) (h : fs.all (fun f => (P.info? f.type).isSome) = true) : (fs.mapM fun f => do pure (f.offset, ← sizeOf f.type) : Sem (List (Nat × Nat))).run P w = .ok (fs.map fun f => (f.offset, P.cellsOf f.type)) w := by
  induction fs with
  | nil => simp
  | cons f fs ih =>
    simp only [List.all_cons, Bool.and_eq_true] at h
    obtain ⟨i, hi⟩ := Option.isSome_iff_exists.1 h.1
    have hs : ∀ w, (sizeOf f.type).run P w = .ok i.size w := fun w => by simp [sizeOf, typeInfo, hi]
    simp only [List.mapM_cons, Sem.run_bind, hs, Sem.run_pure, Result.andThen_ok, ih h.2, List.map_cons]
    simp [Program.cellsOf, hi]
theorem run_bld (o : Oper) (t : TypeId) (ps : Array (Nat × Operand)) (z : Value) (pl : Nat → Option (Nat × Nat)) (l : List (Nat × Nat × Operand)) (ho : o.op = .build t ps) (hz : (P.info? t).bind (·.zero) = some z) (hpl : places P t = some pl)
    (hl : partsAt pl ps.toList = some l) (h : okLay z.cells.toList (evP ρ l)) : (execOp (ev ρ) o).run P w = .ok (.value (.agg (layL z.cells.toList (evP ρ l)).toArray)) w := by
  have hzv : (zeroValue t).run P w = .ok z w := by
    cases hi : P.info? t with
    | none => simp [hi] at hz
    | some i => simp [hi] at hz; simp [zeroValue, typeInfo, hi, hz]
  have hfill := fill_lay (ρ := ρ) pl ps.toList l z.cells hl h
  unfold execOp
  simp only [ho]
  unfold places at hpl
  split at hpl
  · rename_i fs hu
    split at hpl
    · rename_i hall
      simp only [Option.some.injEq] at hpl
      obtain ⟨fs⟩ := fs
      have hm := run_places (P := P) (w := w) fs hall
      have hm' : ((⟨fs⟩ : Array Field).mapM fun f => do pure (f.offset, ← sizeOf f.type) : Sem (Array (Nat × Nat))).run P w = .ok ⟨fs.map fun f => (f.offset, P.cellsOf f.type)⟩ w := by
        rw [List.mapM_toArray]
        have : ∀ (x : Sem (List (Nat × Nat))) r, x.run P w = .ok r w → (List.toArray <$> x).run P w = .ok r.toArray w := fun x r hx => by simp [hx]
        exact this _ _ hm
      subst hpl
      have hpl' : (fun i : Nat => (List.map (fun f : Field => (f.offset, P.cellsOf f.type)) fs).toArray[i]?) = (fun i : Nat => (((⟨fs⟩ : Array Field)[i]?).map fun f => (f.offset, P.cellsOf f.type))) := by
        funext i; simp
      simp only [Instr.build, Sem.run_bind, hzv, Result.andThen_ok, run_underlying hu, Sem.run_pure, hm']
      simp only [Array.toList_map, hpl', hfill, Sem.run_pure, Result.andThen_ok]
    · simp at hpl
  · rename_i k e hu
    split at hpl
    · rename_i hall
      simp only [Option.some.injEq] at hpl
      subst hpl
      obtain ⟨i, hi⟩ := Option.isSome_iff_exists.1 hall
      have hs : ∀ w, (sizeOf e).run P w = .ok (P.cellsOf e) w := fun w => by simp [sizeOf, typeInfo, hi, Program.cellsOf]
      simp only [Instr.build, Sem.run_bind, hzv, Result.andThen_ok, run_underlying hu, Sem.run_pure, hs]
      simp only [Array.toList_map, hfill, Sem.run_pure, Result.andThen_ok]
    · simp at hpl
  · simp at hpl
theorem run_bsl (o : Oper) (t e : TypeId) (n : Nat) (j : TypeInfo) (ps : Array (Nat × Operand)) (zs : List Value) (l : List (Nat × Nat × Operand)) (ho : o.op = .buildSlice t n ps) (ht : elemOf P t = some e) (hj : P.info? e = some j)
    (hz : zerosOf P e (n * P.cellsOf e) = some zs) (hl : partsAt (fun i => some (i * P.cellsOf e, P.cellsOf e)) ps.toList = some l) (h24 : n * P.cellsOf e ≤ 2 ^ 24) (h : okLay zs (evP ρ l)) :
    (execOp (ev ρ) o).run P w = .ok (.value (.slice (some ⟨w.heap.size, 0, none⟩) n n)) (w.alloc (.cells (layL zs (evP ρ l)).toArray e)) := by
  have hs : ∀ w, (sizeOf e).run P w = .ok (P.cellsOf e) w := fun w => by simp [sizeOf, typeInfo, hj, Program.cellsOf]
  have hfill := fill_lay (ρ := ρ) (fun i => some (i * P.cellsOf e, P.cellsOf e)) ps.toList l zs.toArray hl (by simpa using h)
  unfold execOp
  simp only [ho, Instr.buildSlice, Sem.run_bind, run_underlying (elemOf_of ht), Result.andThen_ok, hs]
  rw [if_neg (by omega)]
  unfold zerosOf at hz
  by_cases hk : n * P.cellsOf e = 0
  · rw [if_pos hk] at hz
    simp only [Option.some.injEq] at hz
    subst hz
    simp only [hk, if_true, Sem.run_bind, Sem.run_pure, Result.andThen_ok]
    have e0 : ((Array.range 0).map fun x => (#[] : Array Value)[x % (#[] : Array Value).size]!) = #[] := by simp
    simp only [e0, Array.toList_map, hfill, newRow]
    simp
  · rw [if_neg hk] at hz
    cases hzz : j.zero with
    | none => simp [hj, hzz] at hz
    | some z =>
      simp only [hj, Option.bind_some, hzz, Option.map_some, Option.some.injEq] at hz
      have hzv : ∀ w, (zeroValue e).run P w = .ok z w := fun w => by simp [zeroValue, typeInfo, hj, hzz]
      have e0 : ((Array.range (n * P.cellsOf e)).map fun x => z.cells[x % z.cells.size]!) = zs.toArray := by rw [← hz]
      simp only [hk, if_false, Sem.run_bind, hzv, Sem.run_pure, Result.andThen_ok]
      simp only [e0, Array.toList_map, hfill, newRow]
      simp
theorem run_eqFields (d : Nat) (xs ys : Array Value) : ∀ (fs : List Field) (j : Nat) (ks : List FK), flatFs P j fs = some ks → okEqL ks (xs.toList.drop j) (ys.toList.drop j) →
    (Op.eqFields (d + 1) xs ys fs).run P w = .ok (eqL ks (xs.toList.drop j) (ys.toList.drop j)) w := by
  intro fs
  induction fs with
  | nil => intro j ks h _; simp [flatFs] at h; subst h; simp [Op.eqFields, eqL]
  | cons f fs ih =>
    intro j ks h hok
    simp only [flatFs] at h
    split at h
    · rename_i hf
      obtain ⟨ho, hn⟩ := hf
      split at h
      · rename_i k ks' hk hks
        injection h with h
        subst h
        have hd : ∀ (l : List Value), l.drop (j + 1) = (l.drop j).tail := fun l => by simp
        have key : ∀ (a b : Value) (xs' ys' : List Value) (r : Bool), xs.toList.drop j = a :: xs' → ys.toList.drop j = b :: ys' → (isAgg f.type).run P w = .ok false w → (Op.equalIn (d + 1) f.type a b).run P w = .ok r w →
            okEqL ks' xs' ys' → (Op.eqFields (d + 1) xs ys (f :: fs)).run P w = .ok (r && eqL ks' xs' ys') w := by
          intro a b xs' ys' r hx hy hag heq hok'
          have hxj : xs[j]? = some a := by
            have := congrArg List.head? hx
            rw [List.head?_drop] at this; simpa using this
          have hyj : ys[j]? = some b := by
            have := congrArg List.head? hy
            rw [List.head?_drop] at this; simpa using this
          have ih' := ih (j + 1) ks' hks (by rw [hd, hd, hx, hy]; exact hok')
          rw [hd, hd, hx, hy] at ih'
          simp only [List.tail_cons] at ih'
          simp only [Op.eqFields, ne_eq, hn, not_false_eq_true, if_true, Sem.run_bind, part, hag, Result.andThen_ok, Bool.false_eq_true, if_false, ho, hxj, hyj, Sem.run_pure, heq]
          cases r
          · simp
          · simpa using ih'
        unfold fkOf at hk
        cases hx : xs.toList.drop j with
        | nil => rw [hx] at hok; cases k <;> simp [okEqL] at hok
        | cons a xs' =>
          cases hy : ys.toList.drop j with
          | nil => rw [hx, hy] at hok; cases k <;> cases a <;> simp [okEqL] at hok
          | cons b ys' =>
            rw [hx, hy] at hok
            split at hk
            · rename_i i kd hi hu
              injection hk with hk; subst hk
              have hag : (isAgg f.type).run P w = .ok false w := by simp [isAgg, run_underlying hu]
              cases a <;> cases b <;> simp only [okEqL] at hok
              obtain ⟨rfl, hok⟩ := hok
              rw [key _ _ _ _ _ hx hy hag (run_equalIn_int w d _ _ _ _ _ hu) hok]; rfl
            · rename_i i hi hu
              injection hk with hk; subst hk
              have hag : (isAgg f.type).run P w = .ok false w := by simp [isAgg, run_underlying hu]
              cases a <;> cases b <;> simp only [okEqL] at hok
              rw [key _ _ _ _ _ hx hy hag (run_equalIn_string w d _ _ _ hu) hok]; rfl
            · rename_i i hi hu
              injection hk with hk; subst hk
              have hag : (isAgg f.type).run P w = .ok false w := by simp [isAgg, run_underlying hu]
              cases a <;> cases b <;> simp only [okEqL] at hok
              rw [key _ _ _ _ _ hx hy hag (run_equalIn_bool' w d _ _ _ hu) hok]; rfl
            · simp at hk
      · simp at h
    · simp at h
theorem run_eqA (o : Oper) (op : BinOp) (t t' : TypeId) (fs : Array Field) (ks : List FK) (x y : Operand) (ho : o.op = .binOp op t x y t') (hop : eqOp op) (ht : P.underlying t = some (.struct fs)) (hs : P.stoodInHeld t = false) (hg : P.eqGuardType P.depth t = false)
    (hk : flatFs P 0 fs.toList = some ks) (h : okEqA ks (ev ρ x) (ev ρ y)) : (execOp (ev ρ) o).run P w = .ok (.value (eqAV (isNeq op) ks (ev ρ x) (ev ρ y))) w := by
  unfold execOp
  simp only [ho]
  generalize ev ρ x = a at *
  generalize ev ρ y = b at *
  cases a <;> simp only [okEqA] at h
  cases b <;> simp only [okEqA] at h
  rename_i xs ys
  have hfs : P.fieldsOf t = fs := by simp [Program.fieldsOf, ht]
  have he := run_equalIn_struct (P := P) w 9999 t xs ys (by rw [hfs]; exact ht) hs
  have hf := run_eqFields (P := P) (w := w) 9998 xs ys fs.toList 0 ks hk (by simpa using h)
  rw [hfs, hf] at he
  simp only [List.drop_zero] at he
  cases op <;> simp [eqOp] at hop
  · simp only [Sem.run_bind, run_eqGuard_agg w .eql t x y xs ys hg, Result.andThen_ok, run_eql_struct, he, Sem.run_pure]; rfl
  · simp only [Sem.run_bind, run_eqGuard_agg w .neq t x y xs ys hg, Result.andThen_ok, run_neq_struct, he, Sem.run_pure]; rfl
end
end Go.Proofs.Ytdhieolfdlkeaaa
