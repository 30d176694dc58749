/- Pure proofs: no program in sight. -/
import Derived.Test.YtginlmgkimfjmaaVE
set_option linter.unusedVariables false
set_option linter.unusedSimpArgs false
namespace Go.Proofs.Ytginlmgkimfjmaa
open Go.Sy Go.RowKit
theorem guarded_ok : guarded_vc (fun r => r = true) := by
  refine ⟨by decide, fun _ => ⟨by decide +kernel, fun _ => ⟨by decide +kernel, fun q hq => ?_⟩, fun h => ?_⟩⟩
  · have e : q = 243 := by
      have : (gputS 7 3 ([0, 240, 5] : List Int)).1[(1 : Int).toNat]? = some 243 := by decide +kernel
      rw [this] at hq
      exact (Option.some.inj hq).symm
    subst e
    decide +kernel
  · exfalso
    revert h
    decide +kernel

end Go.Proofs.Ytginlmgkimfjmaa
