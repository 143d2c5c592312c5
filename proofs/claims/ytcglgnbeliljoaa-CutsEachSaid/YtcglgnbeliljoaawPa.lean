/- Texts of the proof, joined. -/
namespace Go.Proofs.Ytcglgnbeliljoaa
set_option linter.unusedSimpArgs false
set_option linter.unusedVariables false
abbrev B (n : Int) : UInt8 := UInt8.ofNat n.toNat
end Go.Proofs.Ytcglgnbeliljoaa
namespace Go.Proofs.Ytcglgnbeliljoaa
set_option linter.unusedSimpArgs false
set_option linter.unusedVariables false
end Go.Proofs.Ytcglgnbeliljoaa
namespace Go.Proofs.Ytcglgnbeliljoaa
set_option linter.unusedSimpArgs false
set_option linter.unusedVariables false
end Go.Proofs.Ytcglgnbeliljoaa
namespace Go.Proofs.Ytcglgnbeliljoaa
set_option linter.unusedSimpArgs false
set_option linter.unusedVariables false
end Go.Proofs.Ytcglgnbeliljoaa
namespace Go.Proofs.Ytcglgnbeliljoaa
set_option linter.unusedSimpArgs false
set_option linter.unusedVariables false
end Go.Proofs.Ytcglgnbeliljoaa
