/- What must hold so that each function ends well: pure predicates, made by program. -/
import Derived.Test.YtfafpnacflcgmaaDoorPB
set_option linter.unusedVariables false
set_option linter.unusedSimpArgs false
namespace Go.Proofs.YtfafpnacflcgmaaDoor
open Go.Sy Go.RowKit
def rowed_vc  (K : Bool → Prop) : Prop :=
  (((10 : Int) ≤ 9223372036854775807) ∧
    (K ((((((bnumberS ([49, 48, 49, 48] : List UInt8)).2) == 0) && (((browS 10 5).2) == 0)) && (((bnumberS ([49, 48, 49, 48] : List UInt8)).1) == 10)) && (((browS 10 5).1) == ([48, 49, 48, 49, 48] : List UInt8)))))

/-! Pure proofs: no program in sight. -/
theorem rowed_ok : rowed_vc (fun r => r = true) := by
  refine ⟨by omega, ?_⟩
  decide

end Go.Proofs.YtfafpnacflcgmaaDoor
