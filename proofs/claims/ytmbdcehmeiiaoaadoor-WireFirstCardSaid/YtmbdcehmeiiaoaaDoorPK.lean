/- What must hold so that each function ends well: pure predicates, made by program. -/
import Derived.Test.YtmbdcehmeiiaoaaDoorPJ
set_option linter.unusedVariables false
set_option linter.unusedSimpArgs false
namespace Go.Proofs.YtmbdcehmeiiaoaaDoor
open Go.Sy Go.RowKit
def wired_vc  (K : Bool → Prop) : Prop :=
  ((∀ f ∈ ([(⟨6, false, false, false, 0, []⟩ : Frame), (⟨5, false, false, false, 0, []⟩ : Frame)] : List Frame), ∀ x ∈ f.Data, 0 ≤ x ∧ x ≤ 255) ∧
    (((sendS ([(⟨6, false, false, false, 0, []⟩ : Frame), (⟨5, false, false, false, 0, []⟩ : Frame)] : List Frame)).2.2.1).length ≤ 140737488355328 →
    ((∀ x ∈ (⟨5, false, false, false, 0, []⟩ : Frame).Data, 0 ≤ x ∧ x ≤ 255) ∧
    ((((((((sendS ([(⟨6, false, false, false, 0, []⟩ : Frame), (⟨5, false, false, false, 0, []⟩ : Frame)] : List Frame)).2.2.2) == 0) && (((BitsS (⟨5, false, false, false, 0, []⟩ : Frame)).2) == 0)) && (((sendS ([(⟨6, false, false, false, 0, []⟩ : Frame), (⟨5, false, false, false, 0, []⟩ : Frame)] : List Frame)).1) == ((BitsS (⟨5, false, false, false, 0, []⟩ : Frame)).1))) && (((sendS ([(⟨6, false, false, false, 0, []⟩ : Frame), (⟨5, false, false, false, 0, []⟩ : Frame)] : List Frame)).2.1) == 1)) = true →
      (K (ieqS ((sendS ([(⟨6, false, false, false, 0, []⟩ : Frame), (⟨5, false, false, false, 0, []⟩ : Frame)] : List Frame)).2.2.1) ([11, -1] : List Int)))) ∧
    (((((((sendS ([(⟨6, false, false, false, 0, []⟩ : Frame), (⟨5, false, false, false, 0, []⟩ : Frame)] : List Frame)).2.2.2) == 0) && (((BitsS (⟨5, false, false, false, 0, []⟩ : Frame)).2) == 0)) && (((sendS ([(⟨6, false, false, false, 0, []⟩ : Frame), (⟨5, false, false, false, 0, []⟩ : Frame)] : List Frame)).1) == ((BitsS (⟨5, false, false, false, 0, []⟩ : Frame)).1))) && (((sendS ([(⟨6, false, false, false, 0, []⟩ : Frame), (⟨5, false, false, false, 0, []⟩ : Frame)] : List Frame)).2.1) == 1)) = false →
      (K false))))))

/-! Pure proofs: no program in sight. -/
theorem wired_ok : wired_vc (fun r => r = true) := by
  refine ⟨by decide, fun _ => ⟨by decide, fun _ => ?_, fun h => ?_⟩⟩
  · show ieqS _ _ = true
    decide +kernel
  · have e : ((((((sendS ([(⟨6, false, false, false, 0, []⟩ : Frame), (⟨5, false, false, false, 0, []⟩ : Frame)] : List Frame)).2.2.2) == 0) && (((BitsS (⟨5, false, false, false, 0, []⟩ : Frame)).2) == 0)) && (((sendS ([(⟨6, false, false, false, 0, []⟩ : Frame), (⟨5, false, false, false, 0, []⟩ : Frame)] : List Frame)).1) == ((BitsS (⟨5, false, false, false, 0, []⟩ : Frame)).1))) && (((sendS ([(⟨6, false, false, false, 0, []⟩ : Frame), (⟨5, false, false, false, 0, []⟩ : Frame)] : List Frame)).2.1) == 1)) = true := by decide +kernel
    exact absurd (e.symm.trans h) (by decide)

end Go.Proofs.YtmbdcehmeiiaoaaDoor
