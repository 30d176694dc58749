/- Pure proofs: no program in sight. -/
import Derived.Test.YtkogkombalcgeaaVO
set_option linter.unusedVariables false
set_option linter.unusedSimpArgs false
namespace Go.Proofs.Ytkogkombalcgeaa
open Go.Sy Go.RowKit
theorem parted_ok : parted_vc (fun r => r = true) := by
  intro _
  refine ⟨by decide, fun _ => ?_⟩
  refine ⟨fun _ => ⟨by decide +kernel, fun q hq _ => ?_⟩, fun h => ?_⟩
  · have e : q = [33, 7, 8] := by
      have : (psplitS ([1, 2, 3, 4, 5, 6, 7, 8] : List Int)).1[(1 : Int).toNat]? = some [33, 7, 8] := by decide +kernel
      rw [this] at hq
      exact (Option.some.inj hq).symm
    subst e
    exact ⟨fun _ => by decide +kernel, fun h => by revert h; decide +kernel⟩
  · exfalso
    revert h
    decide +kernel

end Go.Proofs.Ytkogkombalcgeaa
