/- Chapter 17: the order of values; the laws Makes, Unlike and Order. -/
import Derived.Test.YtcphknmkjicpkaaDoorW17
namespace Go.Proofs.YtcphknmkjicpkaaDoor
set_option linter.unusedSimpArgs false
set_option linter.unusedVariables false
attribute [local irreducible] SemK UnitK StK AlcK BslK CallK Instr.box Builtin.append_ Instr.makeSlice Instr.makeMap Instr.lookup Instr.mapUpdate Instr.sliceAt convert
open Go.RowKit
def lex2 (c d : Int) : Int := if c ≠ 0 then c else d
def cmpM (a b : Val) : Int := lex2 (cmpI a.kind b.kind) (lex2 (cmpS a.s b.s) (lex2 (cmpI a.n b.n) (cmpB a.b b.b)))
theorem or3 (x y z : Int) : orM [x, y, z] = lex2 x (lex2 y (lex2 z 0)) := by simp [orM, lex2]
structure PreO {α : Type} (c : α → α → Int) : Prop where
  val : ∀ a b, c a b = -1 ∨ c a b = 0 ∨ c a b = 1
  anti : ∀ a b, c b a = - c a b
  tr : ∀ a b d, c a b ≤ 0 → c b d ≤ 0 → c a d ≤ 0
theorem preL {α β : Type} (f : α → β) {c : β → β → Int} {d : α → α → Int} (hc : OrdC c) (hd : PreO d) : PreO fun a b => lex2 (c (f a) (f b)) (d a b) where
  val a b := by
    have h1 := hc.val (f a) (f b)
    have h2 := hd.val a b
    unfold lex2; split <;> omega
  anti a b := by
    have h1 := hc.anti (f a) (f b)
    have h2 := hd.anti a b
    unfold lex2; split <;> split <;> omega
  tr a b e := by
    intro h1 h2
    have v1 := hc.val (f a) (f b)
    have v2 := hc.val (f b) (f e)
    have t := hc.tr (f a) (f b) (f e)
    have td := hd.tr a b e
    unfold lex2 at *
    by_cases c1 : c (f a) (f b) = 0
    · rw [if_neg (not_not_intro c1)] at h1
      rw [(hc.zero _ _).1 c1]
      by_cases c2 : c (f b) (f e) = 0
      · rw [if_neg (not_not_intro c2)] at h2 ⊢
        exact td h1 h2
      · rw [if_pos c2] at h2 ⊢; exact h2
    · rw [if_pos c1] at h1
      have hle : c (f b) (f e) ≤ 0 := by
        by_cases c2 : c (f b) (f e) = 0
        · omega
        · rw [if_pos c2] at h2; exact h2
      have := t h1 hle
      by_cases c3 : c (f a) (f e) = 0
      · have e3 := (hc.zero _ _).1 c3
        have a1 := hc.anti (f a) (f b)
        rw [e3] at a1 c1 h1
        omega
      · rw [if_pos c3]; exact this
theorem ordM : PreO cmpM := preL Val.kind ordI (preL Val.s ordS (preL Val.n ordI (d := fun a b : Val => cmpB a.b b.b) ⟨fun a b => ordB.val a.b b.b, fun a b => ordB.anti a.b b.b, fun a b d => ordB.tr a.b b.b d.b⟩))
theorem lex0 (c d : Int) : lex2 c d = 0 ↔ c = 0 ∧ d = 0 := by
  unfold lex2; split
  · constructor
    · intro h; omega
    · intro h; exact absurd h.1 ‹_›
  · constructor
    · intro h; exact ⟨by omega, h⟩
    · intro h; exact h.2
theorem cmp0 (a b : Val) : cmpM a b = 0 ↔ a = b := by
  unfold cmpM
  rw [lex0, lex0, lex0, ordI.zero, ordS.zero, ordI.zero, ordB.zero]
  constructor
  · rintro ⟨h1, h2, h3, h4⟩; exact val_ext h1 h2 h3 h4
  · rintro rfl; simp
theorem cmpM_or (a b : Val) : cmpM a b = lex2 (orM [cmpI a.kind b.kind, cmpS a.s b.s, cmpI a.n b.n]) (cmpB a.b b.b) := by
  rw [or3]
  unfold cmpM
  generalize cmpI a.kind b.kind = x
  generalize cmpS a.s b.s = y
  generalize cmpI a.n b.n = z
  unfold lex2
  by_cases h1 : x = 0 <;> by_cases h2 : y = 0 <;> by_cases h3 : z = 0 <;> simp [h1, h2, h3]
theorem cmpI_ne {a b : Int} (h : ¬ a = b) : cmpI a b = if decide (a < b) = true then -1 else 1 := by
  unfold cmpI
  by_cases h1 : a < b
  · simp [h1]
  · have : b < a := by omega
    simp [h1, this]
theorem cmpS_ne {a b : Str} (h : ¬ a = b) : cmpS a b = if Op.bytesLess a b = true then -1 else 1 := by
  unfold cmpS
  by_cases h1 : Op.bytesLess a b = true
  · simp [h1]
  · have : Op.bytesLess b a = true := by rw [bl_gt]; exact ⟨by simpa using h1, h⟩
    simp [h1, this]
theorem nz (c : Bool) : (if c = true then (-1 : Int) else 1) ≠ 0 := by cases c <;> simp
theorem cm1 {a b : Val} (h : ¬ a.kind = b.kind) : cmpM a b = if decide (a.kind < b.kind) = true then -1 else 1 := by
  unfold cmpM lex2; rw [cmpI_ne h, if_pos (nz _)]
theorem cm2 {a b : Val} (h0 : a.kind = b.kind) (h : ¬ a.s = b.s) : cmpM a b = if Op.bytesLess a.s b.s = true then -1 else 1 := by
  unfold cmpM lex2; rw [(ordI.zero _ _).2 h0, if_neg (by simp), cmpS_ne h, if_pos (nz _)]
theorem cm3 {a b : Val} (h0 : a.kind = b.kind) (h1 : a.s = b.s) (h : ¬ a.n = b.n) : cmpM a b = if decide (a.n < b.n) = true then -1 else 1 := by
  unfold cmpM lex2; rw [(ordI.zero _ _).2 h0, if_neg (by simp), (ordS.zero _ _).2 h1, if_neg (by simp), cmpI_ne h, if_pos (nz _)]
theorem cm4 {a b : Val} (h0 : a.kind = b.kind) (h1 : a.s = b.s) (h2 : a.n = b.n) : cmpM a b = cmpB a.b b.b := by
  unfold cmpM lex2; rw [(ordI.zero _ _).2 h0, if_neg (by simp), (ordS.zero _ _).2 h1, if_neg (by simp), (ordI.zero _ _).2 h2, if_neg (by simp)]
end Go.Proofs.YtcphknmkjicpkaaDoor
