/- What is known of the types. -/
import Derived.Test.YtcphknmkjicpkaaDoorNf
import Derived.Test.YtcphknmkjicpkaaDoorProg
namespace Go.Proofs.YtcphknmkjicpkaaDoor
set_option linter.unusedSimpArgs false
set_option linter.unusedVariables false
theorem ag7 : aggN Tryd.prog 7 = some (some 4) := by kernel_rfl
theorem ag8 : aggN Tryd.prog 8 = some (some 4) := by kernel_rfl
theorem st9 : StT Tryd.prog 9 := ⟨by kernel_rfl⟩
theorem st10 : StT Tryd.prog 10 := ⟨by kernel_rfl⟩
theorem st11 : StT Tryd.prog 11 := ⟨by kernel_rfl⟩
theorem ag13 : aggN Tryd.prog 13 = some (some 2) := by kernel_rfl
theorem ag14 : aggN Tryd.prog 14 = some (some 2) := by kernel_rfl
theorem pt15 : PtT Tryd.prog 15 84 := ⟨by kernel_rfl⟩
theorem pt16 : PtT Tryd.prog 16 87 := ⟨by kernel_rfl⟩
theorem pt17 : PtT Tryd.prog 17 95 := ⟨by kernel_rfl⟩
theorem ag18 : aggN Tryd.prog 18 = some (some 1) := by kernel_rfl
theorem ag19 : aggN Tryd.prog 19 = some (some 1) := by kernel_rfl
theorem sl22 : SlT Tryd.prog 22 2 1 8 [(.int .i64 0)] := .of (by kernel_rfl)
theorem sl47 : SlT Tryd.prog 47 5 1 1 [(.int .u8 0)] := .of (by kernel_rfl)
theorem pt54 : PtT Tryd.prog 54 66 := ⟨by kernel_rfl⟩
theorem ag58 : aggN Tryd.prog 58 = some (some 24) := by kernel_rfl
theorem ag65 : aggN Tryd.prog 65 = some (some 3) := by kernel_rfl
theorem ag66 : aggN Tryd.prog 66 = some (some 3) := by kernel_rfl
theorem ag70 : aggN Tryd.prog 70 = some (some 20) := by kernel_rfl
theorem ag72 : aggN Tryd.prog 72 = some (some 65) := by kernel_rfl
theorem pt75 : PtT Tryd.prog 75 5 := ⟨by kernel_rfl⟩
theorem pt76 : PtT Tryd.prog 76 78 := ⟨by kernel_rfl⟩
theorem ag77 : aggN Tryd.prog 77 = some (some 1) := by kernel_rfl
theorem ag78 : aggN Tryd.prog 78 = some (some 1) := by kernel_rfl
theorem ag80 : aggN Tryd.prog 80 = some (some 32) := by kernel_rfl
theorem ag81 : aggN Tryd.prog 81 = some (some 64) := by kernel_rfl
theorem ag83 : aggN Tryd.prog 83 = some (some 4) := by kernel_rfl
theorem ag84 : aggN Tryd.prog 84 = some (some 4) := by kernel_rfl
theorem ag85 : aggN Tryd.prog 85 = some (some 0) := by kernel_rfl
theorem ag86 : aggN Tryd.prog 86 = some (some 0) := by kernel_rfl
theorem ag87 : aggN Tryd.prog 87 = some (some 0) := by kernel_rfl
theorem ag94 : aggN Tryd.prog 94 = some (some 11) := by kernel_rfl
theorem ag95 : aggN Tryd.prog 95 = some (some 11) := by kernel_rfl
end Go.Proofs.YtcphknmkjicpkaaDoor
