/- What strconv's listed variable of an error gives the walks. -/
import Derived.Test.YtcphknmkjicpkaaDoorOv
import Derived.Test.YtcphknmkjicpkaaDoorGi
import Derived.Stop.LaidErr
import Derived.LaidLaws
namespace Go.Proofs.YtcphknmkjicpkaaDoor
set_option linter.unusedSimpArgs false
set_option linter.unusedVariables false
open Go.RowKit
theorem star_es : "*" ++ "errors.errorString" = "*errors.errorString" := by decide
theorem row_es (u : TypeId) (h : Tryd.prog.typeName? 3 u = some "*errors.errorString") : u = 76 :=
  typeName_ptr_named (nm := "errors.errorString") (by rw [star_es]; kernel_rfl) (by kernel_rfl) (by decide) u (by rw [star_es]; exact h)
theorem glob_er : Tryd.prog.globalNamed "strconv.ErrRange" = some (lays174_ren.g 16) := by kernel_rfl
theorem errv_of {W : World} {l : List (String × DataW Unit)} (hp : (l.all fun x => x.2.handleName?.isNone) = true)
    (hl : l.filter (fun x => x.1 == "strconv.ErrRange") = [("strconv.ErrRange", DataW.iface "*errors.errorString" (DataW.ptr (DataW.agg [DataW.lit (Lit.string [118, 97, 108, 117, 101, 32, 111, 117, 116, 32, 111, 102, 32, 114, 97, 110, 103, 101])])))])
    (h : laidMetH Tryd.prog l W) : ErrV W := by
  rw [MakeChecks.laidMetH_plain _ _ _ hp] at h
  have h2 := h.filter fun x => x.1 == "strconv.ErrRange"
  rw [hl] at h2
  obtain ⟨a, s, hv, _⟩ := laid_sentinel h2 glob_er (show (Tryd.prog.globals[lays174_ren.g 16]?).map (·.type) = some (lays174_ren.t 75) by kernel_rfl) lays174.t75 row_es Tryd.underlying76 Tryd.underlying78 rfl rfl Tryd.underlying9 (by kernel_rfl) (by kernel_rfl)
  exact ⟨_, by simpa using World.var?_cell glob_er hv 0, .inr ⟨_, _, rfl⟩⟩
end Go.Proofs.YtcphknmkjicpkaaDoor
