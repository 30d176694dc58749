/- Pure proofs: no program in sight. -/
import Derived.Test.YtmbdcehmeiiaoaaDoorVG
set_option linter.unusedVariables false
set_option linter.unusedSimpArgs false
namespace Go.Proofs.YtmbdcehmeiiaoaaDoor
open Go.Sy Go.RowKit
theorem framed_ok : framed_vc (fun r => r = true) := by
  refine ⟨by decide, ?_, fun _ => by decide +kernel⟩
  have h : (BitsS (⟨5, false, false, false, 0, ([1, 255] : List Int)⟩ : Frame)).1.length ≤ 1000 := by decide +kernel
  show ((_ : Nat) : Int) + 1 ≤ _
  omega

end Go.Proofs.YtmbdcehmeiiaoaaDoor
