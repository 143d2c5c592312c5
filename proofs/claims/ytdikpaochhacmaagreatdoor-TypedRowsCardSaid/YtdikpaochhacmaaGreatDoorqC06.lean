/- Texts of the proof, joined. -/
import Derived.Test.YtdikpaochhacmaaGreatDoorqV06
namespace Go.Proofs.YtdikpaochhacmaaGreatDoor
set_option linter.unusedSimpArgs false
set_option linter.unusedVariables false
attribute [local irreducible] SemK UnitK StK AlcK BslK CallK CallV Instr.box Builtin.append_ Instr.makeSlice Instr.makeMap Instr.lookup Instr.mapUpdate Instr.sliceAt convert
open Go.RowKit
end Go.Proofs.YtdikpaochhacmaaGreatDoor
namespace Go.Proofs.YtdikpaochhacmaaGreatDoor
set_option linter.unusedSimpArgs false
set_option linter.unusedVariables false
attribute [local irreducible] SemK UnitK StK AlcK BslK CallK CallV Instr.box Builtin.append_ Instr.makeSlice Instr.makeMap Instr.lookup Instr.mapUpdate Instr.sliceAt convert
open Go.RowKit
end Go.Proofs.YtdikpaochhacmaaGreatDoor
namespace Go.Proofs.YtdikpaochhacmaaGreatDoor
set_option linter.unusedSimpArgs false
set_option linter.unusedVariables false
attribute [local irreducible] SemK UnitK StK AlcK BslK CallK CallV Instr.box Builtin.append_ Instr.makeSlice Instr.makeMap Instr.lookup Instr.mapUpdate Instr.sliceAt convert
open Go.RowKit
structure MOk (l : Lm) (m : Mk) (acc : List (List Str × Nat)) (p : Nat) : Prop where
  fl : m.fl = []
  ct : m.ct = acc.length
  wd : 0 < acc.length → m.wd = ((List.map Prod.fst acc).getD 0 []).length
  bg : (m.bg : Int) ≤ l.R
  al : acc.length ≤ p
  rcN : (m.rc.length : Int) < l.N
  rcp : m.rc.length ≤ p
def LRes (w0 w' : World) (g : Nat) (d : Dl) (l : Lm) (s : Str) (p : Nat) (acc : List (List Str × Nat)) (M : List Chk) (R : Rs) : Prop :=
  ∃ (p' : Nat) (m' : Mk) (new : List (List Str × Nat)) (k : Int) (a : Nat), RdrS w0 w' g d l s p' m' (acc ++ new) k a M ∧
    (k = 0 → a = 0 ∧ p < p' ∧ p' ≤ s.length ∧ MOk l m' (acc ++ new) p' ∧ m'.rc = [] ∧ R = (rn d l s 0 m' p').pre new) ∧ (k ≠ 0 → new = [] ∧ R = ⟨[], k, a⟩)
theorem LRes.ok {w0 w' : World} {g : Nat} {d : Dl} {l : Lm} {s : Str} {p p' : Nat} {acc new : List (List Str × Nat)} {M : List Chk} {R : Rs} {m' : Mk} (h : RdrS w0 w' g d l s p' m' (acc ++ new) 0 0 M) (hp : p < p') (hp' : p' ≤ s.length) (hm : MOk l m' (acc ++ new) p') (hrc : m'.rc = [])
    (hR : R = (rn d l s 0 m' p').pre new) : LRes w0 w' g d l s p acc M R := ⟨p', m', new, 0, 0, h, fun _ => ⟨rfl, hp, hp', hm, hrc, hR⟩, fun h => absurd rfl h⟩
end Go.Proofs.YtdikpaochhacmaaGreatDoor
namespace Go.Proofs.YtdikpaochhacmaaGreatDoor
set_option linter.unusedSimpArgs false
set_option linter.unusedVariables false
attribute [local irreducible] SemK UnitK StK AlcK BslK CallK CallV Instr.box Builtin.append_ Instr.makeSlice Instr.makeMap Instr.lookup Instr.mapUpdate Instr.sliceAt convert
open Go.RowKit
end Go.Proofs.YtdikpaochhacmaaGreatDoor
