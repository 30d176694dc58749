/- The walks, made by program: each call does what its pure predicate says. -/
import Derived.Test.YtkogkombalcgeaaPI
import Derived.Test.YtkogkombalcgeaaWH
set_option linter.unusedVariables false
set_option linter.unusedSimpArgs false
namespace Go.Proofs.Ytkogkombalcgeaa
open Go.Sy Go.RowKit

end Go.Proofs.Ytkogkombalcgeaa
