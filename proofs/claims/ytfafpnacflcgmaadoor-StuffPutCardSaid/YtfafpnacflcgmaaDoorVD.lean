/- What must hold so that each function ends well: pure predicates, made by program. -/
import Derived.Test.YtfafpnacflcgmaaDoorPC
set_option linter.unusedVariables false
set_option linter.unusedSimpArgs false
namespace Go.Proofs.YtfafpnacflcgmaaDoor
open Go.Sy Go.RowKit
def stuffed_vc  (K : Bool → Prop) : Prop :=
  (((((sputS ([49, 49, 49, 49, 49, 48, 48, 48, 48, 49, 49] : List UInt8)).1).length : Int) + (([49] : List UInt8).length : Int) ≤ 9223372036854775807) ∧
    (((11 : Int) ≤ 9223372036854775807) ∧
    (K (((((((sputS ([49, 49, 49, 49, 49, 48, 48, 48, 48, 49, 49] : List UInt8)).2) == 0) && (((stakeS (((sputS ([49, 49, 49, 49, 49, 48, 48, 48, 48, 49, 49] : List UInt8)).1) ++ ([49] : List UInt8)) 11).2.2) == 0)) && (((sputS ([49, 49, 49, 49, 49, 48, 48, 48, 48, 49, 49] : List UInt8)).1) == ([49, 49, 49, 49, 49, 48, 48, 48, 48, 48, 49, 49, 49] : List UInt8))) && (((stakeS (((sputS ([49, 49, 49, 49, 49, 48, 48, 48, 48, 49, 49] : List UInt8)).1) ++ ([49] : List UInt8)) 11).1) == ([49, 49, 49, 49, 49, 48, 48, 48, 48, 49, 49] : List UInt8))) && (((stakeS (((sputS ([49, 49, 49, 49, 49, 48, 48, 48, 48, 49, 49] : List UInt8)).1) ++ ([49] : List UInt8)) 11).2.1) == 13)))))
theorem stuffed_mono  {K K1 : Bool → Prop} (hK : ∀ r, K r → K1 r) (h : stuffed_vc  K) : stuffed_vc  K1 :=
  ⟨h.1, ⟨h.2.1, hK _ h.2.2⟩⟩

end Go.Proofs.YtfafpnacflcgmaaDoor
