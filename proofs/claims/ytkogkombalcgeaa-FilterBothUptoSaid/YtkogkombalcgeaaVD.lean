/- What must hold so that each function ends well: pure predicates, made by program. -/
import Derived.Test.YtkogkombalcgeaaPC
set_option linter.unusedVariables false
set_option linter.unusedSimpArgs false
namespace Go.Proofs.Ytkogkombalcgeaa
open Go.Sy Go.RowKit
def filtered_vc  (K : Bool → Prop) : Prop :=
  (((rangesS 3 6 false).1).length ≤ 140737488355328 →
    (((((((rangesS 3 6 false).2) == 0) && (((fCountS ((rangesS 3 6 false).1) false).2) == 0)) && (((fCountS ((rangesS 3 6 false).1) false).1) == 4)) = true →
      (K (feqS ((rangesS 3 6 false).1) ([(⟨3, 2047, false⟩ : Filter), (⟨4, 2046, false⟩ : Filter), (⟨6, 2047, false⟩ : Filter)] : List Filter)))) ∧
    ((((((rangesS 3 6 false).2) == 0) && (((fCountS ((rangesS 3 6 false).1) false).2) == 0)) && (((fCountS ((rangesS 3 6 false).1) false).1) == 4)) = false →
      (K false))))
theorem filtered_mono  {K K1 : Bool → Prop} (hK : ∀ r, K r → K1 r) (h : filtered_vc  K) : filtered_vc  K1 :=
  fun z0 => ⟨fun c1 => hK _ ((h z0).1 c1), fun c1 => hK _ ((h z0).2 c1)⟩

end Go.Proofs.Ytkogkombalcgeaa
