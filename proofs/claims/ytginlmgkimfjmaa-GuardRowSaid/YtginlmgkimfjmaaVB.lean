/- What must hold so that each function ends well: pure predicates, made by program. -/
import Derived.Test.YtginlmgkimfjmaaPA
set_option linter.unusedVariables false
set_option linter.unusedSimpArgs false
namespace Go.Proofs.Ytginlmgkimfjmaa
open Go.Sy Go.RowKit
def gsum_vc (u0 : Int) (u1 : List Int) (K : Int → Prop) : Prop :=
  (u1.length ≤ 140737488355328 →
    ((0 ≤ (1 : Int) ∧ (1 : Int) ≤ (u1.length : Int)) ∧
    (((([w8 (bShr .i64 u0 8), w8 u0] : List Int).length + (u1.drop (1 : Int).toNat).length) * 1 ≤ 140737488355328) ∧
    ((∀ x ∈ (([w8 (bShr .i64 u0 8), w8 u0] : List Int) ++ (u1.drop (1 : Int).toNat)), 0 ≤ x ∧ x ≤ 255) ∧
    (K (cbyteS (([w8 (bShr .i64 u0 8), w8 u0] : List Int) ++ (u1.drop (1 : Int).toNat))))))))
theorem gsum_mono {u0 : Int} {u1 : List Int} {K K1 : Int → Prop} (hK : ∀ r, K r → K1 r) (h : gsum_vc u0 u1 K) : gsum_vc u0 u1 K1 :=
  fun z0 => ⟨(h z0).1, ⟨((h z0).2).1, ⟨(((h z0).2).2).1, hK _ ((((h z0).2).2).2)⟩⟩⟩

end Go.Proofs.Ytginlmgkimfjmaa
