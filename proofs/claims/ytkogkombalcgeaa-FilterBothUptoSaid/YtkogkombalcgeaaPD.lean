/- Pure proofs: no program in sight. -/
import Derived.Test.YtkogkombalcgeaaVD
set_option linter.unusedVariables false
set_option linter.unusedSimpArgs false
namespace Go.Proofs.Ytkogkombalcgeaa
open Go.Sy Go.RowKit
theorem filtered_ok : filtered_vc (fun r => r = true) := by
  intro _
  have h : rangesS 3 6 false = ([⟨3, 2047, false⟩, ⟨4, 2046, false⟩, ⟨6, 2047, false⟩], 0) := by decide +kernel
  have h2 : fCountS [⟨3, 2047, false⟩, ⟨4, 2046, false⟩, ⟨6, 2047, false⟩] false = (4, 0) := by decide +kernel
  rw [h, h2]
  exact ⟨fun _ => by decide +kernel, fun h => by simp at h⟩

end Go.Proofs.Ytkogkombalcgeaa
