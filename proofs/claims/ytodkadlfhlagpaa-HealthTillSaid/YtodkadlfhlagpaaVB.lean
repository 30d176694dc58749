/- What must hold so that each function ends well: pure predicates, made by program. -/
import Derived.Test.YtodkadlfhlagpaaPA
set_option linter.unusedVariables false
set_option linter.unusedSimpArgs false
namespace Go.Proofs.Ytodkadlfhlagpaa
open Go.Sy Go.RowKit
def well_vc  (K : Bool → Prop) : Prop :=
  ((([3] : List Int).length * (32 : Int).toNat ≤ 1000000 ∧ ([3] : List Int).length ≤ 1000000 ∧ 0 ≤ (32 : Int) ∧ (32 : Int) ≤ 1000000) ∧
    ((srepS ([3] : List Int) 32).length ≤ 140737488355328 →
    (K (((((((hstepS (⟨0, 0, 0⟩ : Health) (srepS ([3] : List Int) 32)).2.2) == 0) && (((hState ((hstepS (⟨0, 0, 0⟩ : Health) (srepS ([3] : List Int) 32)).1)).2) == 0)) && (((hstepS (⟨0, 0, 0⟩ : Health) (srepS ([3] : List Int) 32)).2.1) == 0)) && (((hState ((hstepS (⟨0, 0, 0⟩ : Health) (srepS ([3] : List Int) 32)).1)).1) == 2)) && ((((hstepS (⟨0, 0, 0⟩ : Health) (srepS ([3] : List Int) 32)).1).Sent) == 256)))))
theorem well_mono  {K K1 : Bool → Prop} (hK : ∀ r, K r → K1 r) (h : well_vc  K) : well_vc  K1 :=
  ⟨h.1, fun z1 => hK _ (h.2 z1)⟩

end Go.Proofs.Ytodkadlfhlagpaa
