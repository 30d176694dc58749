/- Pure proofs: no program in sight. -/
import Derived.Test.YtkogkombalcgeaaVI
set_option linter.unusedVariables false
set_option linter.unusedSimpArgs false
namespace Go.Proofs.Ytkogkombalcgeaa
open Go.Sy Go.RowKit

end Go.Proofs.Ytkogkombalcgeaa
