/- Texts of the proof, joined. -/
import Derived.Test.YtdikpaochhacmaauP06
namespace Go.Proofs.Ytdikpaochhacmaa
set_option linter.unusedSimpArgs false
set_option linter.unusedVariables false
end Go.Proofs.Ytdikpaochhacmaa
