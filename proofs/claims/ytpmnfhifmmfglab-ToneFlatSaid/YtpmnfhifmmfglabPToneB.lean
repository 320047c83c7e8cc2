/- What must be in any case, of tones. -/
import Derived.Test.YtpmnfhifmmfglabPBase
set_option linter.unusedVariables false
set_option linter.unusedSimpArgs false
set_option linter.unusedSectionVars false
namespace Go.Proofs.Ytpmnfhifmmfglab
open Go

theorem toneBegun_eq : D_darkslidelaw_toneBegun 5000 = some true := by kernel_rfl
end Go.Proofs.Ytpmnfhifmmfglab
