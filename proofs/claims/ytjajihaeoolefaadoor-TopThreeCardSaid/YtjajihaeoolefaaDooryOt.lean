/- Texts of the proof, joined. -/
import Derived.LaidSub
import Derived.MakeChecks
import Derived.Lib.LaidTab
import Derived.Test.YtjajihaeoolefaaDooryMc
namespace Go.Proofs.YtjajihaeoolefaaDoor
set_option linter.unusedSimpArgs false
set_option linter.unusedVariables false
open Go.RowKit Go.WideShapes Go.ChangeShapes
theorem tab_of {W : World} {l : List (String × DataW Unit)} (hp : (l.all fun x => x.2.handleName?.isNone) = true) (hl : l.filter (fun x => x.1 == "internal/strconv.uint64pow10") = [("internal/strconv.uint64pow10", Lib.tabData .u64 Lib.pow10Tab)])
    (h : laidMetH Tryd.prog l W) : Tab W := by
  rw [MakeChecks.laidMetH_plain _ _ _ hp] at h
  have h2 := h.filter fun x => x.1 == "internal/strconv.uint64pow10"
  rw [hl] at h2
  exact Lib.tabIs_of_head tab_glob (show (Tryd.prog.globals[0]?).map (·.type) = some 171 by kernel_rfl) Tryd.underlying171 Tryd.underlying155 (by kernel_rfl) (by kernel_rfl) h2
end Go.Proofs.YtjajihaeoolefaaDoor
