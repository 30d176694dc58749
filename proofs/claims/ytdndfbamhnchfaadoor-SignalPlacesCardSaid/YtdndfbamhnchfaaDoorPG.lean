/- What must hold so that each function ends well: pure predicates, made by program. -/
import Derived.Test.YtdndfbamhnchfaaDoorPF
set_option linter.unusedVariables false
set_option linter.unusedSimpArgs false
namespace Go.Proofs.YtdndfbamhnchfaaDoor
open Go.Sy Go.RowKit
def speed_vc  (K : Signal → Prop) : Prop :=
  (K (⟨([115, 112, 101, 101, 100] : List UInt8), 8, 16, false, false, 1, 10, 0, -1⟩ : Signal))
def speed  : Signal :=
  (⟨([115, 112, 101, 101, 100] : List UInt8), 8, 16, false, false, 1, 10, 0, -1⟩ : Signal)
theorem speed_ok  : speed_vc  (fun r => r = speed ) := (by rfl)

def signalled_vc  (K : Bool → Prop) : Prop :=
  ((isBytes ([0, 44, 1] : List Int)) ∧
    ((isBytes ([9, 0, 0] : List Int)) ∧
    (((swriteS speed ([9, 0, 0] : List Int) 30 1).1).length ≤ 140737488355328 →
    ((((((((sreadS speed ([0, 44, 1] : List Int)).2.2) == 0) && (((swriteS speed ([9, 0, 0] : List Int) 30 1).2) == 0)) && (((sreadS speed ([0, 44, 1] : List Int)).1) == 300)) && (((((sreadS speed ([0, 44, 1] : List Int)).2.1).Name) == ([115, 112, 101, 101, 100] : List UInt8)) && (((((sreadS speed ([0, 44, 1] : List Int)).2.1).Num) == 30) && (((((sreadS speed ([0, 44, 1] : List Int)).2.1).Den) == 1) && true)))) = true →
      (K (beqS ((swriteS speed ([9, 0, 0] : List Int) 30 1).1) ([9, 44, 1] : List Int)))) ∧
    (((((((sreadS speed ([0, 44, 1] : List Int)).2.2) == 0) && (((swriteS speed ([9, 0, 0] : List Int) 30 1).2) == 0)) && (((sreadS speed ([0, 44, 1] : List Int)).1) == 300)) && (((((sreadS speed ([0, 44, 1] : List Int)).2.1).Name) == ([115, 112, 101, 101, 100] : List UInt8)) && (((((sreadS speed ([0, 44, 1] : List Int)).2.1).Num) == 30) && (((((sreadS speed ([0, 44, 1] : List Int)).2.1).Den) == 1) && true)))) = false →
      (K false))))))

/-! Pure proofs: no program in sight. -/
theorem signalled_ok : signalled_vc (fun r => r = true) := by
  refine ⟨by unfold isBytes; decide, by unfold isBytes; decide, fun _ => ⟨fun _ => ?_, fun h => absurd h (by decide +kernel)⟩⟩
  show beqS (swriteS speed ([9, 0, 0] : List Int) 30 1).1 ([9, 44, 1] : List Int) = true
  decide +kernel

end Go.Proofs.YtdndfbamhnchfaaDoor
