/- What must hold so that each function ends well: pure predicates, made by program. -/
import Derived.Test.YtmbdcehmeiiaoaaDoorPC
set_option linter.unusedVariables false
set_option linter.unusedSimpArgs false
namespace Go.Proofs.YtmbdcehmeiiaoaaDoor
open Go.Sy Go.RowKit
def rwant_vc (u0 : FReader) (u1 : List UInt8) (K : FReader → Prop) : Prop :=
  (u0.f.Data.length ≤ 140737488355328 →
    ((Rok u0.Reader ∧ (1 : Int) ≤ 9223372036854775807) ∧
    (∀ r19, (rtakeFS u0 1) = r19 →
    (r19.2.f.Data.length ≤ 140737488355328 →
    ((((r19.2.Reader.Code == 0) && (r19.1 != u1)) = true →
      (∀ r66, (rfailS r19.2 4) = r66 →
      (r66.f.Data.length ≤ 140737488355328 →
      (K r66)))) ∧
    (((r19.2.Reader.Code == 0) && (r19.1 != u1)) = false →
      (K r19.2)))))))

def rnumber_vc (u0 : FReader) (u1 : Int) (K : (Int × FReader) → Prop) : Prop :=
  (u0.f.Data.length ≤ 140737488355328 →
    ((Rok u0.Reader ∧ u1 ≤ 9223372036854775807) ∧
    (∀ r24, (rtakeFS u0 u1) = r24 →
    (r24.2.f.Data.length ≤ 140737488355328 →
    (((r24.2.Reader.Code != 0) = true →
      (K (0, r24.2))) ∧
    ((r24.2.Reader.Code != 0) = false →
      ((r24.1.length ≤ 62 ∧ isRow r24.1 = true) ∧
      (K (w64 (breadS r24.1), r24.2)))))))))

end Go.Proofs.YtmbdcehmeiiaoaaDoor
