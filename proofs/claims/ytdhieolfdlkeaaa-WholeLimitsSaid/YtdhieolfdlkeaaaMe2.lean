/- The engine, part 2: operations in short, what each hands back, and that this is what the model's own operation hands back. -/
import Derived.Test.YtdhieolfdlkeaaaMe1
namespace Go.Proofs.Ytdhieolfdlkeaaa
set_option linter.unusedSimpArgs false
set_option linter.unusedVariables false
open Go.RowKit

/-- The kinds of a flat struct's fields. -/
inductive FK | i | s | b
/-- An operation in short: the types looked up. -/
inductive MO
  | mv (x : Operand) | pick (c a b : Operand) | bin (op : BinOp) (x y : Operand) | eqb (neg : Bool) (x y : Operand) | eqA (neg : Bool) (ks : List FK) (x y : Operand) | un (op : UnOp) (x : Operand)
  | cvi (k : IntKind) (x : Operand) | cvs (x : Operand) | b2s (x : Operand) | len (x : Operand) | lenS (x : Operand) | idxS (x i : Operand)
  | adr (sz : Nat) (x i : Operand) | ld (n : Option Nat) (x : Operand) | st (n : Nat) (x y : Operand) | fad (off : Nat) (x : Operand)
  | fld (off : Nat) (n : Option Nat) (x : Operand) | ext (i : Nat) (x : Operand) | slS (x : Operand) (lo hi : Option Operand) | slV (sz : Nat) (x : Operand) (lo hi : Option Operand)
  | alc (t : TypeId) (cs : List Value) | nck (x : Operand) | bld (zs : List Value) (ps : List (Nat × Nat × Operand)) | bsl (t : TypeId) (zs : List Value) (len : Nat) (ps : List (Nat × Nat × Operand))
  | call (f : Nat) (args : List Operand)
  | raw (op : Op) (ty : TypeId)
structure ML where
  g : Option (Nat × Bool)
  d : Option Nat
  m : MO
/-! Short words for the operations as they are printed. -/
abbrev qq (d : Nat) (m : MO) : ML := ⟨none, some d, m⟩
abbrev qn (m : MO) : ML := ⟨none, none, m⟩
abbrev qm (d s : Nat) : ML := ⟨none, some d, .mv (.tmp s)⟩
abbrev qt (g d : Nat) (m : MO) : ML := ⟨some (g, true), some d, m⟩
abbrev qf (g d : Nat) (m : MO) : ML := ⟨some (g, false), some d, m⟩
abbrev qmt (g d s : Nat) : ML := ⟨some (g, true), some d, .mv (.tmp s)⟩
abbrev qmf (g d s : Nat) : ML := ⟨some (g, false), some d, .mv (.tmp s)⟩
abbrev ki (n : Int) : Operand := .const (.int .i64 n)
abbrev kb (b : Bool) : Operand := .const (.bool b)
/-- The orders in which a region's operations may come, as a tree. -/
inductive DT
  | leaf (ops : List ML) | br (ops : List ML) (a b : DT) | tail (ops p : List ML)
inductive MC
  | skip | reg (ops : List ML) | drg (ops : List ML) (t : Option DT) | seq (a b : MC) | cond (c : Operand) (a b : MC) | blk (id : Nat) (c : MC) | loop (c : MC) | exit (id : Nat) | scp (c : MC) | lab | ret | bad

def S (l : List UInt8) : Value := .string ⟨l.toArray⟩
abbrev I (n : Int) : Value := .int .i64 n
abbrev U (n : Int) : Value := .int .u8 n
theorem S_eq (s : ByteArray) : Value.string s = S s.data.toList := rfl

/-! ### Values -/
def okB : BinOp → Value → Value → Prop
  | .add, .int k _, .int k' _ | .sub, .int k _, .int k' _ | .mul, .int k _, .int k' _ | .eql, .int k _, .int k' _ | .neq, .int k _, .int k' _
  | .lss, .int k _, .int k' _ | .leq, .int k _, .int k' _ | .gtr, .int k _, .int k' _ | .geq, .int k _, .int k' _ => k = k'
  | .quo, .int k _, .int k' b | .rem, .int k _, .int k' b => k = k' ∧ b ≠ 0
  | .add, .string a, .string b => a.size + b.size ≤ 9223372036854775807
  | .eql, .string _, .string _ | .neq, .string _, .string _ | .lss, .string _, .string _ | .leq, .string _, .string _ | .gtr, .string _, .string _ | .geq, .string _, .string _ => True
  | _, _, _ => False
def valB : BinOp → Value → Value → Value
  | .add, .int k a, .int _ b => .int k (k.wrap (a + b))
  | .sub, .int k a, .int _ b => .int k (k.wrap (a - b))
  | .mul, .int k a, .int _ b => .int k (k.wrap (a * b))
  | .quo, .int k a, .int _ b => .int k (k.wrap (a.tdiv b))
  | .rem, .int k a, .int _ b => .int k (a.tmod b)
  | .eql, .int _ a, .int _ b => .bool (a == b)
  | .neq, .int _ a, .int _ b => .bool (a != b)
  | .lss, .int _ a, .int _ b => .bool (decide (a < b))
  | .leq, .int _ a, .int _ b => .bool (decide (a ≤ b))
  | .gtr, .int _ a, .int _ b => .bool (decide (b < a))
  | .geq, .int _ a, .int _ b => .bool (decide (b ≤ a))
  | .add, .string a, .string b => .string (a ++ b)
  | .eql, .string a, .string b => .bool (a.toList == b.toList)
  | .neq, .string a, .string b => .bool (!(a.toList == b.toList))
  | .lss, .string a, .string b => .bool (Op.bytesLess a.toList b.toList)
  | .leq, .string a, .string b => .bool (Op.bytesLess a.toList b.toList || a.toList == b.toList)
  | .gtr, .string a, .string b => .bool (!(Op.bytesLess a.toList b.toList || a.toList == b.toList))
  | .geq, .string a, .string b => .bool (!(Op.bytesLess a.toList b.toList))
  | _, _, _ => undef
def okU : UnOp → Value → Prop
  | .neg, .int _ _ | .not, .bool _ => True
  | _, _ => False
def valU : UnOp → Value → Value
  | .neg, .int k n => .int k (k.wrap (0 - n))
  | .not, .bool b => .bool (!b)
  | _, _ => undef
def isB : Value → Prop | .bool _ => True | _ => False
def eqbV (neg : Bool) : Value → Value → Value
  | .bool a, .bool b => .bool (if neg then !(a == b) else a == b)
  | _, _ => undef
def okEqL : List FK → List Value → List Value → Prop
  | [], _, _ => True
  | .i :: ks, .int k _ :: xs, .int k' _ :: ys => k = k' ∧ okEqL ks xs ys
  | .s :: ks, .string _ :: xs, .string _ :: ys => okEqL ks xs ys
  | .b :: ks, .bool _ :: xs, .bool _ :: ys => okEqL ks xs ys
  | _, _, _ => False
def eqL : List FK → List Value → List Value → Bool
  | .i :: ks, .int _ a :: xs, .int _ b :: ys => (a == b) && eqL ks xs ys
  | .s :: ks, .string a :: xs, .string b :: ys => (a.toList == b.toList) && eqL ks xs ys
  | .b :: ks, .bool a :: xs, .bool b :: ys => (a == b) && eqL ks xs ys
  | _, _, _ => true
def okEqA (ks : List FK) : Value → Value → Prop
  | .agg xs, .agg ys => okEqL ks xs.toList ys.toList
  | _, _ => False
def eqAV (neg : Bool) (ks : List FK) : Value → Value → Value
  | .agg xs, .agg ys => .bool (if neg then !(eqL ks xs.toList ys.toList) else eqL ks xs.toList ys.toList)
  | _, _ => undef
def pickV : Value → Value → Value → Value
  | .bool true, a, _ => a
  | .bool false, _, b => b
  | _, _, _ => undef
def isI : Value → Prop | .int _ _ => True | _ => False
def cviV (k : IntKind) : Value → Value | .int _ n => .int k (k.wrap n) | _ => undef
def isS : Value → Prop | .string _ => True | _ => False
def isL : Value → Prop | .slice _ _ _ => True | _ => False
def lenV : Value → Value | .string s => .int .i64 (s.size : Nat) | .slice _ n _ => .int .i64 (n : Nat) | _ => undef
def okIdxS : Value → Value → Prop | .string s, .int _ i => 0 ≤ i ∧ i < (s.size : Nat) | _, _ => False
def idxSV : Value → Value → Value | .string s, .int _ i => .int .u8 ((s.data.toList.getD i.toNat 0).toNat : Nat) | _, _ => undef
def okAdr : Value → Value → Prop | .slice (some _) n _, .int _ i => 0 ≤ i ∧ i < (n : Nat) | _, _ => False
def adrV (sz : Nat) : Value → Value → Value | .slice (some a) _ _, .int _ i => .pointer (some (a.add (i.toNat * sz))) | _, _ => undef
def okLd (w : World) : Option Nat → Value → Prop
  | none, .pointer (some a) => (w.cell? a).isSome = true
  | some n, .pointer (some a) => ∀ j, j < n → (w.cell? (a.add j)).isSome = true
  | _, _ => False
def ldV (w : World) : Option Nat → Value → Value
  | none, .pointer (some a) => (w.cell? a).getD undef
  | some n, .pointer (some a) => .agg (((List.range n).map fun j => (w.cell? (a.add j)).getD undef).toArray)
  | _, _ => undef
def okFad : Value → Prop | .pointer (some _) => True | _ => False
def fadV (off : Nat) : Value → Value | .pointer (some a) => .pointer (some (a.add off)) | _ => undef
def okFld (off : Nat) : Option Nat → Value → Prop
  | none, .agg cs => off < cs.size
  | some n, .agg cs => off + n ≤ cs.size
  | _, _ => False
def fldV (off : Nat) : Option Nat → Value → Value
  | none, .agg cs => cs.getD off undef
  | some n, .agg cs => .agg (cs.extract off (off + n))
  | _, _ => undef
def okExt (i : Nat) : Value → Prop | .tuple vs => i < vs.size | _ => False
def extV (i : Nat) : Value → Value | .tuple vs => vs.getD i undef | _ => undef
def loN : Option Value → Int | some (.int _ n) => n | _ => 0
def hiN (d : Nat) : Option Value → Int | some (.int _ n) => n | _ => d
def okI : Option Value → Prop | some (.int _ _) | none => True | _ => False
def okSlS (lo hi : Option Value) : Value → Prop | .string s => okI lo ∧ okI hi ∧ 0 ≤ loN lo ∧ loN lo ≤ hiN s.size hi ∧ hiN s.size hi ≤ (s.size : Nat) | _ => False
def slSV (lo hi : Option Value) : Value → Value | .string s => .string (s.extract (loN lo).toNat (hiN s.size hi).toNat) | _ => undef
def okSlV (lo hi : Option Value) : Value → Prop | .slice _ n c => okI lo ∧ okI hi ∧ 0 ≤ loN lo ∧ loN lo ≤ hiN n hi ∧ hiN n hi ≤ (c : Nat) | _ => False
def slVV (sz : Nat) (lo hi : Option Value) : Value → Value
  | .slice a n c => .slice (if c = (loN lo).toNat then a else a.map (·.add ((loN lo).toNat * sz))) ((hiN n hi).toNat - (loN lo).toNat) (c - (loN lo).toNat)
  | _ => undef
def okNck : Value → Prop | .pointer (some _) | .slice _ _ _ | .string _ => True | _ => False
/-- cells of a composite, each part laid at its place -/
def layL : List Value → List (Nat × Nat × Value) → List Value
  | cs, [] => cs
  | cs, (off, _, v) :: r => layL (v.cells.toList.zipIdx.foldl (fun c p => c.set (off + p.2) p.1) cs) r
def okLay (cs : List Value) : List (Nat × Nat × Value) → Prop
  | [] => True
  | (off, n, v) :: r => (v.cells.size = n ∧ off + n ≤ cs.length) ∧ okLay cs r
def okB2s (w : World) : Value → Prop
  | .slice (some a) n _ => ∀ j, j < n → ∃ x, w.cell? (a.add j) = some (.int .u8 x)
  | .slice none _ _ => True
  | _ => False
def byteOfV : Value → UInt8 | .int _ n => UInt8.ofNat n.toNat | _ => 0
def b2sV (w : World) : Value → Value
  | .slice (some a) n _ => S ((List.range n).map fun j => byteOfV ((w.cell? (a.add j)).getD undef))
  | .slice none _ _ => S []
  | _ => undef
def okSt (w : World) (n : Nat) : Value → Value → Prop
  | .pointer (some a), v => v.cells.size = n ∧ (∀ u ∈ v.cells.toList, u.oneCell' = true) ∧ ∀ j, j < n → (w.cell? (a.add j)).isSome = true ∧ w.frozen? (a.add j) = false
  | _, _ => False
def stL (w : World) (a : Addr) : List Value → Nat → World
  | [], _ => w
  | v :: r, i => stL (w.setCell (a.add i) v) a r (i + 1)
def stW (w : World) : Value → Value → World
  | .pointer (some a), v => stL w a v.cells.toList 0
  | _, _ => w

def evP (ρ : Fr) (ps : List (Nat × Nat × Operand)) : List (Nat × Nat × Value) := ps.map fun p => (p.1, p.2.1, ev ρ p.2.2)

/-- May it be carried out? -/
def okM (ρ : Fr) (w : World) : MO → Prop
  | .mv _ => True
  | .pick c _ _ => isB (ev ρ c)
  | .bin op x y => okB op (ev ρ x) (ev ρ y)
  | .eqb _ x y => isB (ev ρ x) ∧ isB (ev ρ y)
  | .eqA _ ks x y => okEqA ks (ev ρ x) (ev ρ y)
  | .un op x => okU op (ev ρ x)
  | .cvi _ x => isI (ev ρ x)
  | .cvs x => isS (ev ρ x)
  | .b2s x => okB2s w (ev ρ x)
  | .len x => isL (ev ρ x)
  | .lenS x => isS (ev ρ x)
  | .idxS x i => okIdxS (ev ρ x) (ev ρ i)
  | .adr _ x i => okAdr (ev ρ x) (ev ρ i)
  | .ld n x => okLd w n (ev ρ x)
  | .st n x y => okSt w n (ev ρ x) (ev ρ y)
  | .fad _ x => okFad (ev ρ x)
  | .fld off n x => okFld off n (ev ρ x)
  | .ext i x => okExt i (ev ρ x)
  | .slS x lo hi => okSlS (lo.map (ev ρ)) (hi.map (ev ρ)) (ev ρ x)
  | .slV _ x lo hi => okSlV (lo.map (ev ρ)) (hi.map (ev ρ)) (ev ρ x)
  | .alc _ _ => True
  | .nck x => okNck (ev ρ x)
  | .bld zs ps => okLay zs (evP ρ ps)
  | .bsl _ zs _ ps => okLay zs (evP ρ ps)
  | .call _ _ | .raw _ _ => False
/-- What it hands back. -/
def vM (ρ : Fr) (w : World) : MO → Value
  | .mv x => ev ρ x
  | .pick c a b => pickV (ev ρ c) (ev ρ a) (ev ρ b)
  | .bin op x y => valB op (ev ρ x) (ev ρ y)
  | .eqb neg x y => eqbV neg (ev ρ x) (ev ρ y)
  | .eqA neg ks x y => eqAV neg ks (ev ρ x) (ev ρ y)
  | .un op x => valU op (ev ρ x)
  | .cvi k x => cviV k (ev ρ x)
  | .cvs x => ev ρ x
  | .b2s x => b2sV w (ev ρ x)
  | .len x => lenV (ev ρ x)
  | .lenS x => lenV (ev ρ x)
  | .idxS x i => idxSV (ev ρ x) (ev ρ i)
  | .adr sz x i => adrV sz (ev ρ x) (ev ρ i)
  | .ld n x => ldV w n (ev ρ x)
  | .st _ _ _ => undef
  | .fad off x => fadV off (ev ρ x)
  | .fld off n x => fldV off n (ev ρ x)
  | .ext i x => extV i (ev ρ x)
  | .slS x lo hi => slSV (lo.map (ev ρ)) (hi.map (ev ρ)) (ev ρ x)
  | .slV sz x lo hi => slVV sz (lo.map (ev ρ)) (hi.map (ev ρ)) (ev ρ x)
  | .alc _ _ => .pointer (some ⟨w.heap.size, 0, none⟩)
  | .nck x => ev ρ x
  | .bld zs ps => .agg (layL zs (evP ρ ps)).toArray
  | .bsl _ _ n _ => .slice (some ⟨w.heap.size, 0, none⟩) n n
  | .call _ _ | .raw _ _ => undef
/-- What becomes of the world. -/
def wM (ρ : Fr) (w : World) : MO → World
  | .st _ x y => stW w (ev ρ x) (ev ρ y)
  | .alc t cs => w.alloc (.cells cs.toArray t)
  | .bsl t zs _ ps => w.alloc (.cells (layL zs (evP ρ ps)).toArray t)
  | _ => w

/-- Is the guard's value the one that is wanted? -/
def wantF (v : Value) (b : Bool) : Bool := match v with | .bool c => c == b | _ => false
def gF (ρ : Fr) : Option (Nat × Bool) → Bool
  | none => true
  | some (s, b) => wantF (ρ s) b
def CallK (P : Program) (f : Nat) (args : List Value) (w : World) (d : Option Nat) (ρ : Fr) (next : Fr → World → Prop) : Prop := Ret P f args.toArray w fun v w' => next (updO ρ d v) w'
abbrev opr (op : Op) (ty : TypeId) : Oper := ⟨none, op, ty, default, #[], none⟩
def RawK (P : Program) (op : Op) (ty : TypeId) (d : Option Nat) (ρ : Fr) (w : World) (next : Fr → World → Prop) : Prop :=
  (∃ v w', (execOp (ev ρ) (opr op ty)).run P w = .ok (.value v) w' ∧ next (updO ρ d v) w') ∨ (∃ w', (execOp (ev ρ) (opr op ty)).run P w = .ok .skip w' ∧ next (updO ρ d undef) w') ∨
  ∃ f args w', (execOp (ev ρ) (opr op ty)).run P w = .ok (.enter f args) w' ∧ Ret P f args w' fun v w'' => next (updO ρ d v) w''
def OS (P : Program) (d : Option Nat) (m : MO) (ρ : Fr) (w : World) (next : Fr → World → Prop) : Prop :=
  match m with
  | .call f args => CallK P f (args.map (ev ρ)) w d ρ next
  | .raw op ty => RawK P op ty d ρ w next
  | m => okM ρ w m ∧ next (updO ρ d (vM ρ w m)) (wM ρ w m)
/-- The operations, one behind the other, and then K. -/
def O (P : Program) (K : Fr → World → Prop) : List ML → Fr → World → Prop
  | [], ρ, w => K ρ w
  | ⟨g, d, m⟩ :: rest, ρ, w => if gF ρ g = true then OS P d m ρ w (O P K rest) else O P K rest (updO ρ d undef) w
section
variable {P : Program} {K : Fr → World → Prop} {rest : List ML} {ρ : Fr} {w : World} {d : Option Nat}
theorem O_nil : O P K [] ρ w = K ρ w := rfl
theorem O_g (s : Nat) (b : Bool) (m : MO) : O P K (⟨some (s, b), d, m⟩ :: rest) ρ w = if wantF (ρ s) b = true then O P K (⟨none, d, m⟩ :: rest) ρ w else O P K rest (updO ρ d undef) w := by
  by_cases h : wantF (ρ s) b = true <;> simp [O, gF, h]
theorem O_call (f : Nat) (args : List Operand) : O P K (⟨none, d, .call f args⟩ :: rest) ρ w = CallK P f (args.map (ev ρ)) w d ρ (O P K rest) := by simp [O, gF, OS]
theorem O_raw (op : Op) (ty : TypeId) : O P K (⟨none, d, .raw op ty⟩ :: rest) ρ w = RawK P op ty d ρ w (O P K rest) := by simp [O, gF, OS]
theorem O_mv (x : Operand) : O P K (⟨none, d, .mv x⟩ :: rest) ρ w = O P K rest (updO ρ d (ev ρ x)) w := by simp [O, gF, OS, okM, vM, wM]
theorem O_pick (c a b : Operand) : O P K (⟨none, d, .pick c a b⟩ :: rest) ρ w = (isB (ev ρ c) ∧ O P K rest (updO ρ d (pickV (ev ρ c) (ev ρ a) (ev ρ b))) w) := by simp [O, gF, OS, okM, vM, wM]
theorem O_bin (op : BinOp) (x y : Operand) : O P K (⟨none, d, .bin op x y⟩ :: rest) ρ w = (okB op (ev ρ x) (ev ρ y) ∧ O P K rest (updO ρ d (valB op (ev ρ x) (ev ρ y))) w) := by simp [O, gF, OS, okM, vM, wM]
theorem O_eqb (neg : Bool) (x y : Operand) : O P K (⟨none, d, .eqb neg x y⟩ :: rest) ρ w = ((isB (ev ρ x) ∧ isB (ev ρ y)) ∧ O P K rest (updO ρ d (eqbV neg (ev ρ x) (ev ρ y))) w) := by simp [O, gF, OS, okM, vM, wM]
theorem O_eqA (neg : Bool) (ks : List FK) (x y : Operand) : O P K (⟨none, d, .eqA neg ks x y⟩ :: rest) ρ w = (okEqA ks (ev ρ x) (ev ρ y) ∧ O P K rest (updO ρ d (eqAV neg ks (ev ρ x) (ev ρ y))) w) := by simp [O, gF, OS, okM, vM, wM]
theorem O_un (op : UnOp) (x : Operand) : O P K (⟨none, d, .un op x⟩ :: rest) ρ w = (okU op (ev ρ x) ∧ O P K rest (updO ρ d (valU op (ev ρ x))) w) := by simp [O, gF, OS, okM, vM, wM]
theorem O_cvi (k : IntKind) (x : Operand) : O P K (⟨none, d, .cvi k x⟩ :: rest) ρ w = (isI (ev ρ x) ∧ O P K rest (updO ρ d (cviV k (ev ρ x))) w) := by simp [O, gF, OS, okM, vM, wM]
theorem O_cvs (x : Operand) : O P K (⟨none, d, .cvs x⟩ :: rest) ρ w = (isS (ev ρ x) ∧ O P K rest (updO ρ d (ev ρ x)) w) := by simp [O, gF, OS, okM, vM, wM]
theorem O_b2s (x : Operand) : O P K (⟨none, d, .b2s x⟩ :: rest) ρ w = (okB2s w (ev ρ x) ∧ O P K rest (updO ρ d (b2sV w (ev ρ x))) w) := by simp [O, gF, OS, okM, vM, wM]
theorem O_len (x : Operand) : O P K (⟨none, d, .len x⟩ :: rest) ρ w = (isL (ev ρ x) ∧ O P K rest (updO ρ d (lenV (ev ρ x))) w) := by simp [O, gF, OS, okM, vM, wM]
theorem O_lenS (x : Operand) : O P K (⟨none, d, .lenS x⟩ :: rest) ρ w = (isS (ev ρ x) ∧ O P K rest (updO ρ d (lenV (ev ρ x))) w) := by simp [O, gF, OS, okM, vM, wM]
theorem O_idxS (x i : Operand) : O P K (⟨none, d, .idxS x i⟩ :: rest) ρ w = (okIdxS (ev ρ x) (ev ρ i) ∧ O P K rest (updO ρ d (idxSV (ev ρ x) (ev ρ i))) w) := by simp [O, gF, OS, okM, vM, wM]
theorem O_adr (sz : Nat) (x i : Operand) : O P K (⟨none, d, .adr sz x i⟩ :: rest) ρ w = (okAdr (ev ρ x) (ev ρ i) ∧ O P K rest (updO ρ d (adrV sz (ev ρ x) (ev ρ i))) w) := by simp [O, gF, OS, okM, vM, wM]
theorem O_ld (n : Option Nat) (x : Operand) : O P K (⟨none, d, .ld n x⟩ :: rest) ρ w = (okLd w n (ev ρ x) ∧ O P K rest (updO ρ d (ldV w n (ev ρ x))) w) := by simp [O, gF, OS, okM, vM, wM]
theorem O_st (n : Nat) (x y : Operand) : O P K (⟨none, d, .st n x y⟩ :: rest) ρ w = (okSt w n (ev ρ x) (ev ρ y) ∧ O P K rest (updO ρ d undef) (stW w (ev ρ x) (ev ρ y))) := by simp [O, gF, OS, okM, vM, wM]
theorem O_fad (off : Nat) (x : Operand) : O P K (⟨none, d, .fad off x⟩ :: rest) ρ w = (okFad (ev ρ x) ∧ O P K rest (updO ρ d (fadV off (ev ρ x))) w) := by simp [O, gF, OS, okM, vM, wM]
theorem O_fld (off : Nat) (n : Option Nat) (x : Operand) : O P K (⟨none, d, .fld off n x⟩ :: rest) ρ w = (okFld off n (ev ρ x) ∧ O P K rest (updO ρ d (fldV off n (ev ρ x))) w) := by simp [O, gF, OS, okM, vM, wM]
theorem O_ext (i : Nat) (x : Operand) : O P K (⟨none, d, .ext i x⟩ :: rest) ρ w = (okExt i (ev ρ x) ∧ O P K rest (updO ρ d (extV i (ev ρ x))) w) := by simp [O, gF, OS, okM, vM, wM]
theorem O_slS (x : Operand) (lo hi : Option Operand) : O P K (⟨none, d, .slS x lo hi⟩ :: rest) ρ w = (okSlS (lo.map (ev ρ)) (hi.map (ev ρ)) (ev ρ x) ∧ O P K rest (updO ρ d (slSV (lo.map (ev ρ)) (hi.map (ev ρ)) (ev ρ x))) w) := by simp [O, gF, OS, okM, vM, wM]
theorem O_slV (sz : Nat) (x : Operand) (lo hi : Option Operand) : O P K (⟨none, d, .slV sz x lo hi⟩ :: rest) ρ w = (okSlV (lo.map (ev ρ)) (hi.map (ev ρ)) (ev ρ x) ∧ O P K rest (updO ρ d (slVV sz (lo.map (ev ρ)) (hi.map (ev ρ)) (ev ρ x))) w) := by simp [O, gF, OS, okM, vM, wM]
theorem O_alc (t : TypeId) (cs : List Value) : O P K (⟨none, d, .alc t cs⟩ :: rest) ρ w = O P K rest (updO ρ d (.pointer (some ⟨w.heap.size, 0, none⟩))) (w.alloc (.cells cs.toArray t)) := by simp [O, gF, OS, okM, vM, wM]
theorem O_nck (x : Operand) : O P K (⟨none, d, .nck x⟩ :: rest) ρ w = (okNck (ev ρ x) ∧ O P K rest (updO ρ d (ev ρ x)) w) := by simp [O, gF, OS, okM, vM, wM]
theorem O_bld (zs : List Value) (ps : List (Nat × Nat × Operand)) : O P K (⟨none, d, .bld zs ps⟩ :: rest) ρ w = (okLay zs (evP ρ ps) ∧ O P K rest (updO ρ d (.agg (layL zs (evP ρ ps)).toArray)) w) := by simp [O, gF, OS, okM, vM, wM]
theorem O_bsl (t : TypeId) (zs : List Value) (n : Nat) (ps : List (Nat × Nat × Operand)) : O P K (⟨none, d, .bsl t zs n ps⟩ :: rest) ρ w =
    (okLay zs (evP ρ ps) ∧ O P K rest (updO ρ d (.slice (some ⟨w.heap.size, 0, none⟩) n n)) (w.alloc (.cells (layL zs (evP ρ ps)).toArray t))) := by simp [O, gF, OS, okM, vM, wM]
end
end Go.Proofs.Ytdhieolfdlkeaaa
