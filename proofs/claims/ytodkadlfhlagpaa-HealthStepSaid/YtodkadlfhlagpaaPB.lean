/- Pure proofs: no program in sight. -/
import Derived.Test.YtodkadlfhlagpaaVB
set_option linter.unusedVariables false
set_option linter.unusedSimpArgs false
namespace Go.Proofs.Ytodkadlfhlagpaa
open Go.Sy Go.RowKit
theorem well_ok : well_vc (fun r => r = true) := by
  refine ⟨by decide, fun _ => ?_⟩
  decide +kernel

end Go.Proofs.Ytodkadlfhlagpaa
