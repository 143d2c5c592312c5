/- What is known of the types. -/
import Derived.Test.YtilfcgnepgacpaaDoorNf
import Derived.Test.YtilfcgnepgacpaaDoorProg
namespace Go.Proofs.YtilfcgnepgacpaaDoor
set_option linter.unusedSimpArgs false
set_option linter.unusedVariables false
theorem ag7 : aggN Tryd.prog 7 = some (some 4) := by kernel_rfl
theorem ag8 : aggN Tryd.prog 8 = some (some 4) := by kernel_rfl
theorem st9 : StT Tryd.prog 9 := ⟨by kernel_rfl⟩
theorem st10 : StT Tryd.prog 10 := ⟨by kernel_rfl⟩
theorem st11 : StT Tryd.prog 11 := ⟨by kernel_rfl⟩
theorem ag13 : aggN Tryd.prog 13 = some (some 2) := by kernel_rfl
theorem ag14 : aggN Tryd.prog 14 = some (some 2) := by kernel_rfl
theorem pt15 : PtT Tryd.prog 15 121 := ⟨by kernel_rfl⟩
theorem pt16 : PtT Tryd.prog 16 124 := ⟨by kernel_rfl⟩
theorem pt17 : PtT Tryd.prog 17 132 := ⟨by kernel_rfl⟩
theorem ag18 : aggN Tryd.prog 18 = some (some 1) := by kernel_rfl
theorem ag19 : aggN Tryd.prog 19 = some (some 1) := by kernel_rfl
theorem ag22 : aggN Tryd.prog 22 = some (some 4) := by kernel_rfl
theorem ag23 : aggN Tryd.prog 23 = some (some 4) := by kernel_rfl
theorem ag24 : aggN Tryd.prog 24 = some (some 3) := by kernel_rfl
theorem ag25 : aggN Tryd.prog 25 = some (some 3) := by kernel_rfl
theorem sl35 : SlT Tryd.prog 35 23 4 40 [(.int .i64 0), (S []), (.int .i64 0), (.bool false)] := .of (by kernel_rfl)
theorem ag37 : aggN Tryd.prog 37 = some (some 4) := by kernel_rfl
theorem ag38 : aggN Tryd.prog 38 = some (some 4) := by kernel_rfl
theorem ag45 : aggN Tryd.prog 45 = some (some 2) := by kernel_rfl
theorem ag46 : aggN Tryd.prog 46 = some (some 2) := by kernel_rfl
theorem sl73 : SlT Tryd.prog 73 3 1 8 [(.int .i64 0)] := .of (by kernel_rfl)
theorem sl75 : SlT Tryd.prog 75 5 1 1 [(.int .u8 0)] := .of (by kernel_rfl)
theorem ag87 : aggN Tryd.prog 87 = some (some 24) := by kernel_rfl
theorem pt99 : PtT Tryd.prog 99 110 := ⟨by kernel_rfl⟩
theorem ag103 : aggN Tryd.prog 103 = some (some 20) := by kernel_rfl
theorem ag105 : aggN Tryd.prog 105 = some (some 65) := by kernel_rfl
theorem ag109 : aggN Tryd.prog 109 = some (some 3) := by kernel_rfl
theorem ag110 : aggN Tryd.prog 110 = some (some 3) := by kernel_rfl
theorem pt113 : PtT Tryd.prog 113 5 := ⟨by kernel_rfl⟩
theorem pt114 : PtT Tryd.prog 114 116 := ⟨by kernel_rfl⟩
theorem ag115 : aggN Tryd.prog 115 = some (some 1) := by kernel_rfl
theorem ag116 : aggN Tryd.prog 116 = some (some 1) := by kernel_rfl
theorem ag117 : aggN Tryd.prog 117 = some (some 32) := by kernel_rfl
theorem ag118 : aggN Tryd.prog 118 = some (some 64) := by kernel_rfl
theorem ag120 : aggN Tryd.prog 120 = some (some 4) := by kernel_rfl
theorem ag121 : aggN Tryd.prog 121 = some (some 4) := by kernel_rfl
theorem ag122 : aggN Tryd.prog 122 = some (some 0) := by kernel_rfl
theorem ag123 : aggN Tryd.prog 123 = some (some 0) := by kernel_rfl
theorem ag124 : aggN Tryd.prog 124 = some (some 0) := by kernel_rfl
theorem ag131 : aggN Tryd.prog 131 = some (some 11) := by kernel_rfl
theorem ag132 : aggN Tryd.prog 132 = some (some 11) := by kernel_rfl
end Go.Proofs.YtilfcgnepgacpaaDoor
