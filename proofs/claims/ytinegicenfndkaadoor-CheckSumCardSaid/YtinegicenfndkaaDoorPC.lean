/- What must hold so that each function ends well: pure predicates, made by program. -/
import Derived.Test.YtinegicenfndkaaDoorPB
set_option linter.unusedVariables false
set_option linter.unusedSimpArgs false
namespace Go.Proofs.YtinegicenfndkaaDoor
open Go.Sy Go.RowKit
def summed_vc  (K : Bool → Prop) : Prop :=
  ((∀ x ∈ ([49, 50, 51, 52, 53, 54, 55, 56, 57] : List Int), 0 ≤ x ∧ x ≤ 255) ∧
    (K (((((csumS 4 ((bofS ([49, 50, 51, 52, 53, 54, 55, 56, 57] : List Int)).1)).2) == 0) && (((bnumberS ((csumS 4 ((bofS ([49, 50, 51, 52, 53, 54, 55, 56, 57] : List Int)).1)).1)).2) == 0)) && (((bnumberS ((csumS 4 ((bofS ([49, 50, 51, 52, 53, 54, 55, 56, 57] : List Int)).1)).1)).1) == 10673))))

/-! Pure proofs: no program in sight. -/
theorem summed_ok : summed_vc (fun r => r = true) := ⟨by decide, by decide +kernel⟩

end Go.Proofs.YtinegicenfndkaaDoor
