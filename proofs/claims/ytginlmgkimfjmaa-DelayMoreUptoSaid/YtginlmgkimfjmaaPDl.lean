/- Pure proofs: no program in sight. -/
import Derived.Test.YtginlmgkimfjmaaVDl
set_option linter.unusedVariables false
set_option linter.unusedSimpArgs false
namespace Go.Proofs.Ytginlmgkimfjmaa
open Go.Sy Go.RowKit

end Go.Proofs.Ytginlmgkimfjmaa
