/- What must hold so that each function ends well: pure predicates, made by program. -/
import Derived.Test.YtmbdcehmeiiaoaaDoorPL
set_option linter.unusedVariables false
set_option linter.unusedSimpArgs false
namespace Go.Proofs.YtmbdcehmeiiaoaaDoor
open Go.Sy Go.RowKit
def LWins_vc (u0 : List Frame) (K : Bool → Prop) : Prop :=
  (u0.length ≤ 140737488355328 →
    ((∀ f ∈ u0, ∀ x ∈ f.Data, 0 ≤ x ∧ x ≤ 255) ∧
    (((sendS u0).2.2.1).length ≤ 140737488355328 →
    ((((((firstS u0).2) == 0) && ((((sendS u0).2.2.2) != 0) || (((firstS u0).1) != ((sendS u0).2.1)))) = true →
      (K false)) ∧
    (((((firstS u0).2) == 0) && ((((sendS u0).2.2.2) != 0) || (((firstS u0).1) != ((sendS u0).2.1)))) = false →
      (((((sendS u0).2.2.2) != 0) = true →
        (K true)) ∧
      ((((sendS u0).2.2.2) != 0) = false →
        ((((decide (((sendS u0).2.1) < 0)) || (decide (((sendS u0).2.1) ≥ (u0.length : Int)))) = true →
          (K false)) ∧
        (((decide (((sendS u0).2.1) < 0)) || (decide (((sendS u0).2.1) ≥ (u0.length : Int)))) = false →
          ((0 ≤ (sendS u0).2.1 ∧ (sendS u0).2.1 < (u0.length : Int)) ∧
          (∀ q146, u0[((sendS u0).2.1).toNat]? = some q146 →
          (q146.Data.length ≤ 140737488355328 →
          ((∀ x ∈ q146.Data, 0 ≤ x ∧ x ≤ 255) ∧
          ((((readS ((sendS u0).1)).1).Data).length ≤ 140737488355328 →
          ((((((((BitsS q146).2) == 0) && (((readS ((sendS u0).1)).2.2) == 0)) && (((BitsS q146).1) == ((sendS u0).1))) && (((readS ((sendS u0).1)).2.1) == (((sendS u0).1).length : Int))) = true →
            ((0 ≤ (sendS u0).2.1 ∧ (sendS u0).2.1 < (u0.length : Int)) ∧
            (∀ q287, u0[((sendS u0).2.1).toNat]? = some q287 →
            (q287.Data.length ≤ 140737488355328 →
            (K (sameS ((readS ((sendS u0).1)).1) q287)))))) ∧
          (((((((BitsS q146).2) == 0) && (((readS ((sendS u0).1)).2.2) == 0)) && (((BitsS q146).1) == ((sendS u0).1))) && (((readS ((sendS u0).1)).2.1) == (((sendS u0).1).length : Int))) = false →
            (K false)))))))))))))))))

end Go.Proofs.YtmbdcehmeiiaoaaDoor
