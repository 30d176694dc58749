/- Pure proofs: no program in sight. -/
import Derived.Test.YtmbdcehmeiiaoaaDoorVEb
set_option linter.unusedVariables false
set_option linter.unusedSimpArgs false
namespace Go.Proofs.YtmbdcehmeiiaoaaDoor
open Go.Sy Go.RowKit

end Go.Proofs.YtmbdcehmeiiaoaaDoor
