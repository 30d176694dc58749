/- What must hold so that each function ends well: pure predicates, made by program. -/
import Derived.Test.YtginlmgkimfjmaaPDi
set_option linter.unusedVariables false
set_option linter.unusedSimpArgs false
namespace Go.Proofs.Ytginlmgkimfjmaa
open Go.Sy Go.RowKit
def delayed_vc  (K : Bool → Prop) : Prop :=
  (tasksS.length ≤ 140737488355328 →
    (((WorstS tasksS).1).length ≤ 140737488355328 →
    (((((WorstS tasksS).2) == 0) = true →
      (K (stopeqS ((WorstS tasksS).1) ([(⟨270, true⟩ : Stop), (⟨270, true⟩ : Stop)] : List Stop)))) ∧
    ((((WorstS tasksS).2) == 0) = false →
      (K false)))))
theorem delayed_mono  {K K1 : Bool → Prop} (hK : ∀ r, K r → K1 r) (h : delayed_vc  K) : delayed_vc  K1 :=
  fun z0 => fun z1 => ⟨fun c2 => hK _ (((h z0) z1).1 c2), fun c2 => hK _ (((h z0) z1).2 c2)⟩

end Go.Proofs.Ytginlmgkimfjmaa
