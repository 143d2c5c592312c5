/- What is known of the types. -/
import Derived.Test.YthpciddlagodkaaNf
import Derived.Test.YthpciddlagodkaaProg
namespace Go.Proofs.Ythpciddlagodkaa
set_option linter.unusedSimpArgs false
set_option linter.unusedVariables false
theorem ag7 : aggN Try.prog 7 = some (some 4) := by kernel_rfl
theorem ag8 : aggN Try.prog 8 = some (some 4) := by kernel_rfl
theorem st9 : StT Try.prog 9 := ⟨by kernel_rfl⟩
theorem st10 : StT Try.prog 10 := ⟨by kernel_rfl⟩
theorem st11 : StT Try.prog 11 := ⟨by kernel_rfl⟩
theorem ag13 : aggN Try.prog 13 = some (some 2) := by kernel_rfl
theorem ag14 : aggN Try.prog 14 = some (some 2) := by kernel_rfl
theorem pt15 : PtT Try.prog 15 98 := ⟨by kernel_rfl⟩
theorem pt16 : PtT Try.prog 16 101 := ⟨by kernel_rfl⟩
theorem pt17 : PtT Try.prog 17 110 := ⟨by kernel_rfl⟩
theorem ag18 : aggN Try.prog 18 = some (some 1) := by kernel_rfl
theorem ag19 : aggN Try.prog 19 = some (some 1) := by kernel_rfl
theorem sl26 : SlT Try.prog 26 5 1 1 [(.int .u8 0)] := .of (by kernel_rfl)
theorem ag34 : aggN Try.prog 34 = some (some 2) := by kernel_rfl
theorem ag35 : aggN Try.prog 35 = some (some 2) := by kernel_rfl
theorem sl38 : SlT Try.prog 38 9 1 16 [(S [])] := .of (by kernel_rfl)
theorem pt40 : PtT Try.prog 40 84 := ⟨by kernel_rfl⟩
theorem sl45 : SlT Try.prog 45 3 1 8 [(.int .i64 0)] := .of (by kernel_rfl)
theorem sl61 : SlT Try.prog 61 87 3 32 [(S []), (.int .i64 0), (.bool false)] := .of (by kernel_rfl)
theorem sl65 : SlT Try.prog 65 93 3 32 [(S []), (.int .i64 0), (.int .i64 0)] := .of (by kernel_rfl)
theorem ag78 : aggN Try.prog 78 = some (some 8) := by kernel_rfl
theorem sl80 : SlT Try.prog 80 38 1 24 [(.slice none 0 0)] := .of (by kernel_rfl)
theorem mp81 : MapT Try.prog 81 9 3 (.int .i64 0) := .of (by kernel_rfl)
theorem ag83 : aggN Try.prog 83 = some (some 2) := by kernel_rfl
theorem ag84 : aggN Try.prog 84 = some (some 2) := by kernel_rfl
theorem ag86 : aggN Try.prog 86 = some (some 3) := by kernel_rfl
theorem ag87 : aggN Try.prog 87 = some (some 3) := by kernel_rfl
theorem mp90 : MapT Try.prog 90 9 4 (.bool false) := .of (by kernel_rfl)
theorem ag92 : aggN Try.prog 92 = some (some 3) := by kernel_rfl
theorem ag93 : aggN Try.prog 93 = some (some 3) := by kernel_rfl
theorem sl95 : SlT Try.prog 95 4 1 1 [(.bool false)] := .of (by kernel_rfl)
theorem ag97 : aggN Try.prog 97 = some (some 4) := by kernel_rfl
theorem ag98 : aggN Try.prog 98 = some (some 4) := by kernel_rfl
theorem ag99 : aggN Try.prog 99 = some (some 0) := by kernel_rfl
theorem ag100 : aggN Try.prog 100 = some (some 0) := by kernel_rfl
theorem ag101 : aggN Try.prog 101 = some (some 0) := by kernel_rfl
theorem pt106 : PtT Try.prog 106 5 := ⟨by kernel_rfl⟩
theorem ag109 : aggN Try.prog 109 = some (some 11) := by kernel_rfl
theorem ag110 : aggN Try.prog 110 = some (some 11) := by kernel_rfl
end Go.Proofs.Ythpciddlagodkaa
