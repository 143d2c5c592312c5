/- What is known of the types. -/
import Derived.Test.YtdhieolfdlkeaaaNf
import Derived.Test.YtdhieolfdlkeaaaProg
namespace Go.Proofs.Ytdhieolfdlkeaaa
set_option linter.unusedSimpArgs false
set_option linter.unusedVariables false
theorem ag7 : aggN Try.prog 7 = some (some 4) := by kernel_rfl
theorem ag8 : aggN Try.prog 8 = some (some 4) := by kernel_rfl
theorem st9 : StT Try.prog 9 := ⟨by kernel_rfl⟩
theorem st10 : StT Try.prog 10 := ⟨by kernel_rfl⟩
theorem st11 : StT Try.prog 11 := ⟨by kernel_rfl⟩
theorem ag13 : aggN Try.prog 13 = some (some 2) := by kernel_rfl
theorem ag14 : aggN Try.prog 14 = some (some 2) := by kernel_rfl
theorem pt15 : PtT Try.prog 15 223 := ⟨by kernel_rfl⟩
theorem pt16 : PtT Try.prog 16 226 := ⟨by kernel_rfl⟩
theorem pt17 : PtT Try.prog 17 233 := ⟨by kernel_rfl⟩
theorem ag18 : aggN Try.prog 18 = some (some 1) := by kernel_rfl
theorem ag19 : aggN Try.prog 19 = some (some 1) := by kernel_rfl
theorem ag22 : aggN Try.prog 22 = some (some 3) := by kernel_rfl
theorem ag23 : aggN Try.prog 23 = some (some 3) := by kernel_rfl
theorem ag24 : aggN Try.prog 24 = some (some 4) := by kernel_rfl
theorem ag25 : aggN Try.prog 25 = some (some 4) := by kernel_rfl
theorem sl27 : SlT Try.prog 27 47 1 24 [(.slice none 0 0)] := .of (by kernel_rfl)
theorem ag29 : aggN Try.prog 29 = some (some 2) := by kernel_rfl
theorem ag30 : aggN Try.prog 30 = some (some 2) := by kernel_rfl
theorem ag34 : aggN Try.prog 34 = some (some 3) := by kernel_rfl
theorem ag35 : aggN Try.prog 35 = some (some 3) := by kernel_rfl
theorem ag38 : aggN Try.prog 38 = some (some 4) := by kernel_rfl
theorem ag39 : aggN Try.prog 39 = some (some 4) := by kernel_rfl
theorem sl47 : SlT Try.prog 47 9 1 16 [(S [])] := .of (by kernel_rfl)
theorem pt55 : PtT Try.prog 55 113 := ⟨by kernel_rfl⟩
theorem sl58 : SlT Try.prog 58 3 1 8 [(.int .i64 0)] := .of (by kernel_rfl)
theorem ag59 : aggN Try.prog 59 = some (some 5) := by kernel_rfl
theorem ag60 : aggN Try.prog 60 = some (some 5) := by kernel_rfl
theorem ag68 : aggN Try.prog 68 = some (some 2) := by kernel_rfl
theorem ag94 : aggN Try.prog 94 = some (some 2) := by kernel_rfl
theorem ag95 : aggN Try.prog 95 = some (some 2) := by kernel_rfl
theorem ag103 : aggN Try.prog 103 = some (some 3) := by kernel_rfl
theorem ag105 : aggN Try.prog 105 = some (some 4) := by kernel_rfl
theorem ag106 : aggN Try.prog 106 = some (some 4) := by kernel_rfl
theorem sl111 : SlT Try.prog 111 121 2 16 [(.int .i64 0), (.int .i64 0)] := .of (by kernel_rfl)
theorem ag112 : aggN Try.prog 112 = some (some 8) := by kernel_rfl
theorem ag113 : aggN Try.prog 113 = some (some 8) := by kernel_rfl
theorem ag115 : aggN Try.prog 115 = some (some 6) := by kernel_rfl
theorem ag116 : aggN Try.prog 116 = some (some 6) := by kernel_rfl
theorem ag120 : aggN Try.prog 120 = some (some 2) := by kernel_rfl
theorem ag121 : aggN Try.prog 121 = some (some 2) := by kernel_rfl
theorem pt134 : PtT Try.prog 134 176 := ⟨by kernel_rfl⟩
theorem ag137 : aggN Try.prog 137 = some (some 6) := by kernel_rfl
theorem ag138 : aggN Try.prog 138 = some (some 6) := by kernel_rfl
theorem pt145 : PtT Try.prog 145 147 := ⟨by kernel_rfl⟩
theorem ag146 : aggN Try.prog 146 = some (some 15) := by kernel_rfl
theorem ag147 : aggN Try.prog 147 = some (some 15) := by kernel_rfl
theorem ag150 : aggN Try.prog 150 = some (some 6) := by kernel_rfl
theorem ag151 : aggN Try.prog 151 = some (some 6) := by kernel_rfl
theorem ag155 : aggN Try.prog 155 = some (some 7) := by kernel_rfl
theorem ag156 : aggN Try.prog 156 = some (some 35) := by kernel_rfl
theorem pt161 : PtT Try.prog 161 164 := ⟨by kernel_rfl⟩
theorem sl162 : SlT Try.prog 162 5 1 1 [(.int .u8 0)] := .of (by kernel_rfl)
theorem ag163 : aggN Try.prog 163 = some (some 2) := by kernel_rfl
theorem ag164 : aggN Try.prog 164 = some (some 2) := by kernel_rfl
theorem ag175 : aggN Try.prog 175 = some (some 10) := by kernel_rfl
theorem ag176 : aggN Try.prog 176 = some (some 10) := by kernel_rfl
theorem pt178 : PtT Try.prog 178 138 := ⟨by kernel_rfl⟩
theorem ag183 : aggN Try.prog 183 = some (some 3) := by kernel_rfl
theorem pt197 : PtT Try.prog 197 5 := ⟨by kernel_rfl⟩
theorem pt213 : PtT Try.prog 213 3 := ⟨by kernel_rfl⟩
theorem pt219 : PtT Try.prog 219 209 := ⟨by kernel_rfl⟩
theorem ag222 : aggN Try.prog 222 = some (some 4) := by kernel_rfl
theorem ag223 : aggN Try.prog 223 = some (some 4) := by kernel_rfl
theorem ag224 : aggN Try.prog 224 = some (some 0) := by kernel_rfl
theorem ag225 : aggN Try.prog 225 = some (some 0) := by kernel_rfl
theorem ag226 : aggN Try.prog 226 = some (some 0) := by kernel_rfl
theorem ag232 : aggN Try.prog 232 = some (some 11) := by kernel_rfl
theorem ag233 : aggN Try.prog 233 = some (some 11) := by kernel_rfl
end Go.Proofs.Ytdhieolfdlkeaaa
