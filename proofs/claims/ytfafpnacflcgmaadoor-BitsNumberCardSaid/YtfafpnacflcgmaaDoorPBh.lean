/- What must hold so that each function ends well: pure predicates, made by program. -/
import Derived.Test.YtfafpnacflcgmaaDoorPBg
set_option linter.unusedVariables false
set_option linter.unusedSimpArgs false
namespace Go.Proofs.YtfafpnacflcgmaaDoor
open Go.Sy Go.RowKit
def fint0_vc (u0 : Int) (K : (List UInt8) → Prop) : Prop :=
  (((decide (u0 < 0)) = false ∧ 0 ≤ (wu64 u0) ∧ (wu64 u0) ≤ 9223372036854775807) ∧
    (((fbitsS (wu64 u0) (decide (u0 < 0))).1).length ≤ 140737488355328 →
    (K ((fbitsS (wu64 u0) (decide (u0 < 0))).2))))

/-! Pure proofs: no program in sight. -/
def fintS (u0 : Int) : List UInt8 := binS u0.toNat
theorem fint_ok (u0 : Int) (h : 0 ≤ u0 ∧ u0 ≤ 9223372036854775807) : fint0_vc u0 (fun r => r = fintS u0) := by
  have e : wu64 u0 = u0 := wu64_eq _ (by omega)
  unfold fint0_vc
  rw [e]
  exact ⟨⟨decide_eq_false (by omega), h.1, h.2⟩, fun _ => rfl⟩

end Go.Proofs.YtfafpnacflcgmaaDoor
