/- Pure proofs: no program in sight. -/
import Derived.Test.YtginlmgkimfjmaaVDj
set_option linter.unusedVariables false
set_option linter.unusedSimpArgs false
namespace Go.Proofs.Ytginlmgkimfjmaa
open Go.Sy Go.RowKit
theorem delayed_ok : delayed_vc (fun r => r = true) := by
  intro _ _
  have e : WorstS tasksS = ([⟨270, true⟩, ⟨270, true⟩], 0) := by decide +kernel
  rw [e]
  exact ⟨fun _ => rfl, fun h => by cases h⟩

end Go.Proofs.Ytginlmgkimfjmaa
