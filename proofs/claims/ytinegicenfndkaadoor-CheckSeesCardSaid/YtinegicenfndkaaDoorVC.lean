/- What must hold so that each function ends well: pure predicates, made by program. -/
import Derived.Test.YtinegicenfndkaaDoorPB
set_option linter.unusedVariables false
set_option linter.unusedSimpArgs false
namespace Go.Proofs.YtinegicenfndkaaDoor
open Go.Sy Go.RowKit
def summed_vc  (K : Bool → Prop) : Prop :=
  ((∀ x ∈ ([49, 50, 51, 52, 53, 54, 55, 56, 57] : List Int), 0 ≤ x ∧ x ≤ 255) ∧
    (K (((((csumS 4 ((bofS ([49, 50, 51, 52, 53, 54, 55, 56, 57] : List Int)).1)).2) == 0) && (((bnumberS ((csumS 4 ((bofS ([49, 50, 51, 52, 53, 54, 55, 56, 57] : List Int)).1)).1)).2) == 0)) && (((bnumberS ((csumS 4 ((bofS ([49, 50, 51, 52, 53, 54, 55, 56, 57] : List Int)).1)).1)).1) == 10673))))
theorem summed_mono  {K K1 : Bool → Prop} (hK : ∀ r, K r → K1 r) (h : summed_vc  K) : summed_vc  K1 :=
  ⟨h.1, hK _ h.2⟩

end Go.Proofs.YtinegicenfndkaaDoor
