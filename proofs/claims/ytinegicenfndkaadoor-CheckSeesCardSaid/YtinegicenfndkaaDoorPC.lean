/- Pure proofs: no program in sight. -/
import Derived.Test.YtinegicenfndkaaDoorVC
set_option linter.unusedVariables false
set_option linter.unusedSimpArgs false
namespace Go.Proofs.YtinegicenfndkaaDoor
open Go.Sy Go.RowKit
theorem summed_ok : summed_vc (fun r => r = true) := ⟨by decide, by decide +kernel⟩

end Go.Proofs.YtinegicenfndkaaDoor
