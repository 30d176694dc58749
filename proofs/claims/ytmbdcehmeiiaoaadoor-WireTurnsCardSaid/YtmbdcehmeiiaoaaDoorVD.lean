/- What must hold so that each function ends well: pure predicates, made by program. -/
import Derived.Test.YtmbdcehmeiiaoaaDoorPC
set_option linter.unusedVariables false
set_option linter.unusedSimpArgs false
namespace Go.Proofs.YtmbdcehmeiiaoaaDoor
open Go.Sy Go.RowKit
def rwant_vc (u0 : FReader) (u1 : List UInt8) (K : FReader → Prop) : Prop :=
  (u0.f.Data.length ≤ 140737488355328 →
    ((Rok u0.Reader ∧ (1 : Int) ≤ 9223372036854775807) ∧
    (∀ r19, (rtakeFS u0 1) = r19 →
    (r19.2.f.Data.length ≤ 140737488355328 →
    ((((r19.2.Reader.Code == 0) && (r19.1 != u1)) = true →
      (∀ r66, (rfailS r19.2 4) = r66 →
      (r66.f.Data.length ≤ 140737488355328 →
      (K r66)))) ∧
    (((r19.2.Reader.Code == 0) && (r19.1 != u1)) = false →
      (K r19.2)))))))
theorem rwant_mono {u0 : FReader} {u1 : List UInt8} {K K1 : FReader → Prop} (hK : ∀ r, K r → K1 r) (h : rwant_vc u0 u1 K) : rwant_vc u0 u1 K1 :=
  fun z0 => ⟨(h z0).1, fun y2 z2 => fun z3 => ⟨fun c4 => fun y5 z5 => fun z6 => hK _ (((((((h z0).2) y2 z2) z3).1 c4) y5 z5) z6), fun c4 => hK _ (((((h z0).2) y2 z2) z3).2 c4)⟩⟩

def rnumber_vc (u0 : FReader) (u1 : Int) (K : (Int × FReader) → Prop) : Prop :=
  (u0.f.Data.length ≤ 140737488355328 →
    ((Rok u0.Reader ∧ u1 ≤ 9223372036854775807) ∧
    (∀ r24, (rtakeFS u0 u1) = r24 →
    (r24.2.f.Data.length ≤ 140737488355328 →
    (((r24.2.Reader.Code != 0) = true →
      (K (0, r24.2))) ∧
    ((r24.2.Reader.Code != 0) = false →
      ((r24.1.length ≤ 62 ∧ isRow r24.1 = true) ∧
      (K (w64 (breadS r24.1), r24.2)))))))))
theorem rnumber_mono {u0 : FReader} {u1 : Int} {K K1 : (Int × FReader) → Prop} (hK : ∀ r, K r → K1 r) (h : rnumber_vc u0 u1 K) : rnumber_vc u0 u1 K1 :=
  fun z0 => ⟨(h z0).1, fun y2 z2 => fun z3 => ⟨fun c4 => hK _ (((((h z0).2) y2 z2) z3).1 c4), fun c4 => ⟨(((((h z0).2) y2 z2) z3).2 c4).1, hK _ ((((((h z0).2) y2 z2) z3).2 c4).2)⟩⟩⟩

end Go.Proofs.YtmbdcehmeiiaoaaDoor
