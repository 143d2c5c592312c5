/- Texts of the proof, joined. -/
namespace Go.Proofs.Ytdikpaochhacmaa
set_option linter.unusedSimpArgs false
set_option linter.unusedVariables false
def followM (b least most next : Int) : Int × Bool := if b < least ∨ most < b then (0, false) else (next, true)
def beginM (b : Int) : Int × Bool :=
  if b ≤ 0x7F then (0, true) else if b < 0xC2 then (0, false) else if b ≤ 0xDF then (1, true) else if b = 0xE0 then (4, true) else if b = 0xED then (5, true)
  else if b ≤ 0xEF then (2, true) else if b = 0xF0 then (6, true) else if b ≤ 0xF3 then (3, true) else if b = 0xF4 then (7, true) else (0, false)
def stepM (s b : Int) : Int × Bool :=
  if s = 0 then beginM b else if s = 1 then followM b 0x80 0xBF 0 else if s = 2 then followM b 0x80 0xBF 1 else if s = 3 then followM b 0x80 0xBF 2
  else if s = 4 then followM b 0xA0 0xBF 1 else if s = 5 then followM b 0x80 0x9F 1 else if s = 6 then followM b 0x90 0xBF 2 else if s = 7 then followM b 0x80 0x8F 2 else (0, false)
abbrev B (n : Int) : UInt8 := UInt8.ofNat n.toNat
end Go.Proofs.Ytdikpaochhacmaa
namespace Go.Proofs.Ytdikpaochhacmaa
set_option linter.unusedSimpArgs false
set_option linter.unusedVariables false
end Go.Proofs.Ytdikpaochhacmaa
namespace Go.Proofs.Ytdikpaochhacmaa
set_option linter.unusedSimpArgs false
set_option linter.unusedVariables false
end Go.Proofs.Ytdikpaochhacmaa
namespace Go.Proofs.Ytdikpaochhacmaa
set_option linter.unusedSimpArgs false
set_option linter.unusedVariables false
end Go.Proofs.Ytdikpaochhacmaa
namespace Go.Proofs.Ytdikpaochhacmaa
set_option linter.unusedSimpArgs false
set_option linter.unusedVariables false
end Go.Proofs.Ytdikpaochhacmaa
