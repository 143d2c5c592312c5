/- What is known of the types. -/
import Derived.Test.YtilfcgnepgacpaaNf
import Derived.Test.YtilfcgnepgacpaaProg
namespace Go.Proofs.Ytilfcgnepgacpaa
set_option linter.unusedSimpArgs false
set_option linter.unusedVariables false
theorem ag7 : aggN Try.prog 7 = some (some 4) := by kernel_rfl
theorem ag8 : aggN Try.prog 8 = some (some 4) := by kernel_rfl
theorem st9 : StT Try.prog 9 := ⟨by kernel_rfl⟩
theorem st10 : StT Try.prog 10 := ⟨by kernel_rfl⟩
theorem st11 : StT Try.prog 11 := ⟨by kernel_rfl⟩
theorem ag13 : aggN Try.prog 13 = some (some 2) := by kernel_rfl
theorem ag14 : aggN Try.prog 14 = some (some 2) := by kernel_rfl
theorem pt15 : PtT Try.prog 15 175 := ⟨by kernel_rfl⟩
theorem pt16 : PtT Try.prog 16 178 := ⟨by kernel_rfl⟩
theorem pt17 : PtT Try.prog 17 185 := ⟨by kernel_rfl⟩
theorem ag18 : aggN Try.prog 18 = some (some 1) := by kernel_rfl
theorem ag19 : aggN Try.prog 19 = some (some 1) := by kernel_rfl
theorem sl23 : SlT Try.prog 23 76 3 32 [(S []), (.int .i64 0), (.bool false)] := .of (by kernel_rfl)
theorem sl27 : SlT Try.prog 27 91 3 32 [(S []), (.int .i64 0), (.int .i64 0)] := .of (by kernel_rfl)
theorem ag33 : aggN Try.prog 33 = some (some 3) := by kernel_rfl
theorem ag34 : aggN Try.prog 34 = some (some 3) := by kernel_rfl
theorem ag35 : aggN Try.prog 35 = some (some 4) := by kernel_rfl
theorem ag36 : aggN Try.prog 36 = some (some 4) := by kernel_rfl
theorem sl37 : SlT Try.prog 37 56 1 24 [(.slice none 0 0)] := .of (by kernel_rfl)
theorem ag38 : aggN Try.prog 38 = some (some 2) := by kernel_rfl
theorem ag39 : aggN Try.prog 39 = some (some 2) := by kernel_rfl
theorem ag43 : aggN Try.prog 43 = some (some 3) := by kernel_rfl
theorem ag44 : aggN Try.prog 44 = some (some 3) := by kernel_rfl
theorem ag47 : aggN Try.prog 47 = some (some 4) := by kernel_rfl
theorem ag48 : aggN Try.prog 48 = some (some 4) := by kernel_rfl
theorem sl56 : SlT Try.prog 56 9 1 16 [(S [])] := .of (by kernel_rfl)
theorem sl58 : SlT Try.prog 58 23 1 24 [(.slice none 0 0)] := .of (by kernel_rfl)
theorem ag75 : aggN Try.prog 75 = some (some 3) := by kernel_rfl
theorem ag76 : aggN Try.prog 76 = some (some 3) := by kernel_rfl
theorem mp85 : MapT Try.prog 85 9 4 (.bool false) := .of (by kernel_rfl)
theorem ag90 : aggN Try.prog 90 = some (some 3) := by kernel_rfl
theorem ag91 : aggN Try.prog 91 = some (some 3) := by kernel_rfl
theorem ag96 : aggN Try.prog 96 = some (some 2) := by kernel_rfl
theorem ag97 : aggN Try.prog 97 = some (some 3) := by kernel_rfl
theorem sl100 : SlT Try.prog 100 3 1 8 [(.int .i64 0)] := .of (by kernel_rfl)
theorem ag101 : aggN Try.prog 101 = some (some 4) := by kernel_rfl
theorem ag102 : aggN Try.prog 102 = some (some 4) := by kernel_rfl
theorem pt108 : PtT Try.prog 108 111 := ⟨by kernel_rfl⟩
theorem sl109 : SlT Try.prog 109 5 1 1 [(.int .u8 0)] := .of (by kernel_rfl)
theorem ag110 : aggN Try.prog 110 = some (some 2) := by kernel_rfl
theorem ag111 : aggN Try.prog 111 = some (some 2) := by kernel_rfl
theorem pt124 : PtT Try.prog 124 144 := ⟨by kernel_rfl⟩
theorem ag127 : aggN Try.prog 127 = some (some 6) := by kernel_rfl
theorem ag128 : aggN Try.prog 128 = some (some 6) := by kernel_rfl
theorem pt133 : PtT Try.prog 133 135 := ⟨by kernel_rfl⟩
theorem ag134 : aggN Try.prog 134 = some (some 15) := by kernel_rfl
theorem ag135 : aggN Try.prog 135 = some (some 15) := by kernel_rfl
theorem pt139 : PtT Try.prog 139 5 := ⟨by kernel_rfl⟩
theorem ag143 : aggN Try.prog 143 = some (some 10) := by kernel_rfl
theorem ag144 : aggN Try.prog 144 = some (some 10) := by kernel_rfl
theorem pt145 : PtT Try.prog 145 128 := ⟨by kernel_rfl⟩
theorem ag148 : aggN Try.prog 148 = some (some 6) := by kernel_rfl
theorem ag149 : aggN Try.prog 149 = some (some 6) := by kernel_rfl
theorem ag155 : aggN Try.prog 155 = some (some 3) := by kernel_rfl
theorem ag174 : aggN Try.prog 174 = some (some 4) := by kernel_rfl
theorem ag175 : aggN Try.prog 175 = some (some 4) := by kernel_rfl
theorem ag176 : aggN Try.prog 176 = some (some 0) := by kernel_rfl
theorem ag177 : aggN Try.prog 177 = some (some 0) := by kernel_rfl
theorem ag178 : aggN Try.prog 178 = some (some 0) := by kernel_rfl
theorem ag184 : aggN Try.prog 184 = some (some 11) := by kernel_rfl
theorem ag185 : aggN Try.prog 185 = some (some 11) := by kernel_rfl
end Go.Proofs.Ytilfcgnepgacpaa
