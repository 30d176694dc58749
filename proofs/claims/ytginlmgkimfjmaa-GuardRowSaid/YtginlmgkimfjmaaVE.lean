/- What must hold so that each function ends well: pure predicates, made by program. -/
import Derived.Test.YtginlmgkimfjmaaPD
set_option linter.unusedVariables false
set_option linter.unusedSimpArgs false
namespace Go.Proofs.Ytginlmgkimfjmaa
open Go.Sy Go.RowKit
def guarded_vc  (K : Bool → Prop) : Prop :=
  ((∀ x ∈ ([0, 240, 5] : List Int), 0 ≤ x ∧ x ≤ 255) ∧
    (((gputS 7 3 ([0, 240, 5] : List Int)).1).length ≤ 140737488355328 →
    ((∀ x ∈ ((gputS 7 3 ([0, 240, 5] : List Int)).1), 0 ≤ x ∧ x ≤ 255) ∧
    (((((((gputS 7 3 ([0, 240, 5] : List Int)).2) == 0) && (((gseeS (⟨7, 2, 0, 0⟩ : Guard) ((gputS 7 3 ([0, 240, 5] : List Int)).1) 1).2) == 0)) && ((((gputS 7 3 ([0, 240, 5] : List Int)).1).length : Int) == 3)) = true →
      ((0 ≤ (1 : Int) ∧ (1 : Int) < (((gputS 7 3 ([0, 240, 5] : List Int)).1).length : Int)) ∧
      (∀ q110, ((gputS 7 3 ([0, 240, 5] : List Int)).1)[(1 : Int).toNat]? = some q110 →
      (K ((q110 == 243) && (((((gseeS (⟨7, 2, 0, 0⟩ : Guard) ((gputS 7 3 ([0, 240, 5] : List Int)).1) 1).1).Key) == 7) && (((((gseeS (⟨7, 2, 0, 0⟩ : Guard) ((gputS 7 3 ([0, 240, 5] : List Int)).1) 1).1).Last) == 3) && (((((gseeS (⟨7, 2, 0, 0⟩ : Guard) ((gputS 7 3 ([0, 240, 5] : List Int)).1) 1).1).Bad) == 0) && (((((gseeS (⟨7, 2, 0, 0⟩ : Guard) ((gputS 7 3 ([0, 240, 5] : List Int)).1) 1).1).State) == 1) && true))))))))) ∧
    ((((((gputS 7 3 ([0, 240, 5] : List Int)).2) == 0) && (((gseeS (⟨7, 2, 0, 0⟩ : Guard) ((gputS 7 3 ([0, 240, 5] : List Int)).1) 1).2) == 0)) && ((((gputS 7 3 ([0, 240, 5] : List Int)).1).length : Int) == 3)) = false →
      (K false))))))
theorem guarded_mono  {K K1 : Bool → Prop} (hK : ∀ r, K r → K1 r) (h : guarded_vc  K) : guarded_vc  K1 :=
  ⟨h.1, fun z1 => ⟨(h.2 z1).1, ⟨fun c3 => ⟨(((h.2 z1).2).1 c3).1, fun q110 z5 => hK _ (((((h.2 z1).2).1 c3).2) q110 z5)⟩, fun c3 => hK _ (((h.2 z1).2).2 c3)⟩⟩⟩

end Go.Proofs.Ytginlmgkimfjmaa
