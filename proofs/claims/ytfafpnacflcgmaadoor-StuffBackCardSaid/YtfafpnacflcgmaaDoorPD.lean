/- Pure proofs: no program in sight. -/
import Derived.Test.YtfafpnacflcgmaaDoorVD
set_option linter.unusedVariables false
set_option linter.unusedSimpArgs false
namespace Go.Proofs.YtfafpnacflcgmaaDoor
open Go.Sy Go.RowKit
theorem stuffed_ok : stuffed_vc (fun r => r = true) := by
  refine ⟨by decide, by omega, ?_⟩
  decide

end Go.Proofs.YtfafpnacflcgmaaDoor
