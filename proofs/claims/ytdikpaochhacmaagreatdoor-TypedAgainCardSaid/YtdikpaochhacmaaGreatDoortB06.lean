/- Texts of the proof, joined. -/
import Derived.Test.YtdikpaochhacmaaGreatDoortV06
import Derived.Test.YtdikpaochhacmaaGreatDoortQ06
namespace Go.Proofs.YtdikpaochhacmaaGreatDoor
set_option linter.unusedSimpArgs false
set_option linter.unusedVariables false
attribute [local irreducible] SemK UnitK StK AlcK BslK CallK CallV Instr.box Builtin.append_ Instr.makeSlice Instr.makeMap Instr.lookup Instr.mapUpdate Instr.sliceAt convert
open Go.RowKit
def RdrS (w0 w : World) (g : Nat) (d : Dl) (l : Lm) (s : Str) (p : Int) (m : Mk) (acc : List (List Str × Nat)) (k a : Int) (M : List Chk) : Prop :=
  ∃ rv Rv Ev vs, Sep w0 w (boxC g 192 [I d.dl, I d.q, I d.e, I l.F, I l.N, I l.R, I (if l.U = true then 1 else 0), S s, I p, I m.bg, rv, Rv, Ev, I k, I a] :: accC rv 9 eS m.rc :: accC Rv 49 eV vs :: frzC eS vs (List.map Prod.fst acc) :: accC Ev 3 eI (List.map (fun x => (x.2 : Int)) acc) :: M)
theorem RdrS.of {w0 w : World} {g : Nat} {d : Dl} {l : Lm} {s : Str} {p : Int} {m : Mk} {acc : List (List Str × Nat)} {k a : Int} {rv Rv Ev : Value} {vs : List Value} {xss : List (List Str)} {es : List Int} {L L1 L2 L3 L4 M : List Chk} (hS : Sep w0 w L)
    (h1 : Ex (boxC g 192 [I d.dl, I d.q, I d.e, I l.F, I l.N, I l.R, I (if l.U = true then 1 else 0), S s, I p, I m.bg, rv, Rv, Ev, I k, I a]) L L1) (h2 : Ex (accC rv 9 eS m.rc) L1 L2) (h3 : Ex (accC Rv 49 eV vs) L2 L3) (h4 : Ex (frzC eS vs xss) L3 L4) (h5 : Ex (accC Ev 3 eI es) L4 M) (e1 : List.map Prod.fst acc = xss) (e2 : List.map (fun x => (x.2 : Int)) acc = es) : RdrS w0 w g d l s p m acc k a M := by
  subst e1; subst e2
  exact ⟨rv, Rv, Ev, vs, Sep.sub hS (.c h1 (.c h2 (.c h3 (.c h4 (.c h5 Sub.rfl')))))⟩
end Go.Proofs.YtdikpaochhacmaaGreatDoor
namespace Go.Proofs.YtdikpaochhacmaaGreatDoor
set_option linter.unusedSimpArgs false
set_option linter.unusedVariables false
attribute [local irreducible] SemK UnitK StK AlcK BslK CallK CallV Instr.box Builtin.append_ Instr.makeSlice Instr.makeMap Instr.lookup Instr.mapUpdate Instr.sliceAt convert
open Go.RowKit
end Go.Proofs.YtdikpaochhacmaaGreatDoor
namespace Go.Proofs.YtdikpaochhacmaaGreatDoor
set_option linter.unusedSimpArgs false
set_option linter.unusedVariables false
attribute [local irreducible] SemK UnitK StK AlcK BslK CallK CallV Instr.box Builtin.append_ Instr.makeSlice Instr.makeMap Instr.lookup Instr.mapUpdate Instr.sliceAt convert
open Go.RowKit
end Go.Proofs.YtdikpaochhacmaaGreatDoor
namespace Go.Proofs.YtdikpaochhacmaaGreatDoor
set_option linter.unusedSimpArgs false
set_option linter.unusedVariables false
attribute [local irreducible] SemK UnitK StK AlcK BslK CallK CallV Instr.box Builtin.append_ Instr.makeSlice Instr.makeMap Instr.lookup Instr.mapUpdate Instr.sliceAt convert
open Go.RowKit
structure MOk (l : Lm) (m : Mk) (acc : List (List Str × Nat)) (p : Nat) : Prop where
  fl : m.fl = []
  ct : m.ct = acc.length
  wd : 0 < acc.length → m.wd = ((List.map Prod.fst acc).getD 0 []).length
  bg : (m.bg : Int) ≤ l.R
  al : acc.length ≤ p
  rcN : (m.rc.length : Int) < l.N
  rcp : m.rc.length ≤ p
def LRes (w0 w' : World) (g : Nat) (d : Dl) (l : Lm) (s : Str) (p : Nat) (acc : List (List Str × Nat)) (M : List Chk) (R : Rs) : Prop :=
  ∃ (p' : Nat) (m' : Mk) (new : List (List Str × Nat)) (k : Int) (a : Nat), RdrS w0 w' g d l s p' m' (acc ++ new) k a M ∧
    (k = 0 → a = 0 ∧ p < p' ∧ p' ≤ s.length ∧ MOk l m' (acc ++ new) p' ∧ m'.rc = [] ∧ R = (rn d l s 0 m' p').pre new) ∧ (k ≠ 0 → new = [] ∧ R = ⟨[], k, a⟩)
theorem LRes.ok {w0 w' : World} {g : Nat} {d : Dl} {l : Lm} {s : Str} {p p' : Nat} {acc new : List (List Str × Nat)} {M : List Chk} {R : Rs} {m' : Mk} (h : RdrS w0 w' g d l s p' m' (acc ++ new) 0 0 M) (hp : p < p') (hp' : p' ≤ s.length) (hm : MOk l m' (acc ++ new) p') (hrc : m'.rc = [])
    (hR : R = (rn d l s 0 m' p').pre new) : LRes w0 w' g d l s p acc M R := ⟨p', m', new, 0, 0, h, fun _ => ⟨rfl, hp, hp', hm, hrc, hR⟩, fun h => absurd rfl h⟩
end Go.Proofs.YtdikpaochhacmaaGreatDoor
