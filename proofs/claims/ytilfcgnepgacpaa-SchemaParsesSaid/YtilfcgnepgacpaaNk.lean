/- The engine, part k: a builder of texts, as one part of memory. -/
import Derived.Test.YtilfcgnepgacpaaNj
namespace Go.Proofs.Ytilfcgnepgacpaa
set_option linter.unusedSimpArgs false
set_option linter.unusedVariables false
open Go.RowKit
/-- Block g is a builder that has these bytes. -/
def bldC (g : Nat) (t tu : TypeId) (xs : Str) : Chk where
  ok w F := ∃ p bv F', Blk w g t [p, bv].toArray ∧ F g ∧ ¬ F' g ∧ (∀ b, F' b → F b) ∧ (accC bv tu eU xs).ok w F' ∧ (p = .pointer none ∨ p = .pointer (some ⟨g, 0, none⟩))
  loc := by
    rintro w w' F hb ⟨p, bv, F', h1, h2, h3, h4, h5, h6⟩
    exact ⟨p, bv, F', (hb g h2).2.trans h1, h2, h3, h4, (accC bv tu eU xs).loc (fun b hF => hb b (h4 b hF)) h5, h6⟩
section
variable {w w0 : World} {L R : List Chk} {g : Nat} {t tu : TypeId} {xs : Str}
theorem Sep.openB (h : Sep w0 w L) (he : Ex (bldC g t tu xs) L R) : ∃ p bv, (p = .pointer none ∨ p = .pointer (some ⟨g, 0, none⟩)) ∧ Sep w0 w (boxC g t [p, bv] :: accC bv tu eU xs :: R) := by
  obtain ⟨F, ⟨p, bv, F', f1, f2, f3, f4, f5, f6⟩, h2, h3⟩ := SepL.take he h.2
  refine ⟨p, bv, f6, h.1, fun b => b = g, ⟨rfl, f1⟩, fun b hb => ?_, F', f5, fun b hb => ⟨(h2 b (f4 b hb)).1, (h2 b (f4 b hb)).2.1, ?_⟩, SepL.mono h3 ?_⟩
  · subst hb; exact h2 b f2
  · rintro (q | q)
    · exact q
    · subst q; exact f3 hb
  · rintro b ((q | q) | q)
    · exact .inl q
    · subst q; exact .inr f2
    · exact .inr (f4 b q)
theorem Sep.shutB {p bv : Value} (h : Sep w0 w (boxC g t [p, bv] :: accC bv tu eU xs :: R)) (hp : p = .pointer none ∨ p = .pointer (some ⟨g, 0, none⟩)) : Sep w0 w (bldC g t tu xs :: R) := by
  obtain ⟨F1, ⟨f1, b1⟩, h2, F2, a1, a2, h3⟩ := h.2
  refine ⟨h.1, fun b => F1 b ∨ F2 b, ⟨p, bv, F2, b1, .inl f1, fun hg => (a2 g hg).2.2 (.inr f1), fun b hb => .inr hb, a1, hp⟩, ?_, SepL.mono h3 ?_⟩
  · rintro b (q | q)
    · exact h2 b q
    · exact ⟨(a2 b q).1, (a2 b q).2.1, fun hf => (a2 b q).2.2 (.inl hf)⟩
  · rintro b (q | q | q)
    · exact .inl (.inl q)
    · exact .inl (.inr q)
    · exact .inr q
theorem Sep.newB (tu : TypeId) (h : Sep w0 w (boxC g t [.pointer none, .slice none 0 0] :: R)) : Sep w0 w (bldC g t tu [] :: R) := by
  obtain ⟨F1, ⟨f1, b1⟩, h2, h3⟩ := h.2
  exact ⟨h.1, F1, ⟨_, _, fun _ => False, b1, f1, id, fun _ hb => hb.elim, nil_own w tu eU, .inl rfl⟩, h2, h3⟩
end
end Go.Proofs.Ytilfcgnepgacpaa
