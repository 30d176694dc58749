/- What must hold so that each function ends well: pure predicates, made by program. -/
import Derived.Test.YtkogkombalcgeaaPE
set_option linter.unusedVariables false
set_option linter.unusedSimpArgs false
namespace Go.Proofs.Ytkogkombalcgeaa
open Go.Sy Go.RowKit
def fgrow_vc (u1 : Int) (K : (List Filter) → Prop) : Prop :=
  (((decide (u1 < 0)) = true →
      False) ∧
    ((decide (u1 < 0)) = false →
      (((decide ((w64 (u1 - 0)) > 0)) = true →
        ((0 ≤ (w64 (u1 - 0)) ∧ (w64 (u1 - 0)) * 24 ≤ 140737488355328) ∧
        ((0 ≤ (0 : Int) ∧ (0 : Int) ≤ ((List.replicate (w64 (u1 - 0)).toNat ((⟨0, 0, false⟩ : Filter) : Filter)).length : Int)) ∧
        (K ((List.replicate (w64 (u1 - 0)).toNat ((⟨0, 0, false⟩ : Filter) : Filter)).take (0 : Int).toNat))))) ∧
      ((decide ((w64 (u1 - 0)) > 0)) = false →
        (K ([] : List Filter))))))
theorem fgrow_mono {u1 : Int} {K K1 : (List Filter) → Prop} (hK : ∀ r, K r → K1 r) (h : fgrow_vc u1 K) : fgrow_vc u1 K1 :=
  ⟨fun c0 => (h.1 c0), fun c0 => ⟨fun c1 => ⟨((h.2 c0).1 c1).1, ⟨(((h.2 c0).1 c1).2).1, hK _ ((((h.2 c0).1 c1).2).2)⟩⟩, fun c1 => hK _ ((h.2 c0).2 c1)⟩⟩

end Go.Proofs.Ytkogkombalcgeaa
