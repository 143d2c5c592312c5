/- Literals as lists. -/
import Derived.Test.YtdhieolfdlkeaaaMc
namespace Go.Proofs.Ytdhieolfdlkeaaa
set_option linter.unusedSimpArgs false
set_option linter.unusedVariables false
open Go.RowKit
theorem lit_rdS7 {w : World} {g n : Nat} {t : TypeId} (ys : List Str) (h : Blk w g t (ys.flatMap eS.f).toArray) (hn : n = ys.length) (hm : ys.length ≤ 1000000) : Rd w eS (.slice (some ⟨g, 0, none⟩) n n) ys :=
  blk_rd h hn (Nat.le_refl _) (by omega) (fun u hu => by obtain ⟨s, _, hu⟩ := List.mem_flatMap.1 hu; simp [eS] at hu; subst hu; exact one_s)
theorem lit_rdI {w : World} {g n : Nat} {t : TypeId} (ys : List Int) (h : Blk w g t (ys.flatMap eI.f).toArray) (hn : n = ys.length) (hm : ys.length ≤ 1000000) : Rd w eI (.slice (some ⟨g, 0, none⟩) n n) ys :=
  blk_rd h hn (Nat.le_refl _) (by omega) (fun u hu => by obtain ⟨s, _, hu⟩ := List.mem_flatMap.1 hu; simp [eI] at hu; subst hu; exact one_i)
end Go.Proofs.Ytdhieolfdlkeaaa
