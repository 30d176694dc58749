/- What must hold so that each function ends well: pure predicates, made by program. -/
import Derived.Test.YtginlmgkimfjmaaPDe
set_option linter.unusedVariables false
set_option linter.unusedSimpArgs false
namespace Go.Proofs.Ytginlmgkimfjmaa
open Go.Sy Go.RowKit
def dlong_vc (u0 : Task) (K : Int → Prop) : Prop :=
  (K (w64 (((flongestS false false u0.Bytes).1) + 3)))
theorem dlong_mono {u0 : Task} {K K1 : Int → Prop} (hK : ∀ r, K r → K1 r) (h : dlong_vc u0 K) : dlong_vc u0 K1 :=
  hK _ h

end Go.Proofs.Ytginlmgkimfjmaa
