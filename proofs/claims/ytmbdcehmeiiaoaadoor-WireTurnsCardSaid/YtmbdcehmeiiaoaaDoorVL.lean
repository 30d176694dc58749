/- What must hold so that each function ends well: pure predicates, made by program. -/
import Derived.Test.YtmbdcehmeiiaoaaDoorPK
set_option linter.unusedVariables false
set_option linter.unusedSimpArgs false
namespace Go.Proofs.YtmbdcehmeiiaoaaDoor
open Go.Sy Go.RowKit
def LTurns_vc (u0 : List Frame) (K : Bool → Prop) : Prop :=
  (u0.length ≤ 140737488355328 →
    ((∀ f ∈ u0, ∀ x ∈ f.Data, 0 ≤ x ∧ x ≤ 255) ∧
    (((sendS u0).2.2.1).length ≤ 140737488355328 →
    ((u0.length * 48 ≤ 140737488355328) ∧
    ((fcloneS u0).length ≤ 140737488355328 →
    ((frevS (fcloneS u0)).length ≤ 140737488355328 →
    ((∀ f ∈ (frevS (fcloneS u0)), ∀ x ∈ f.Data, 0 ≤ x ∧ x ≤ 255) ∧
    (((sendS (frevS (fcloneS u0))).2.2.1).length ≤ 140737488355328 →
    ((((((sendS u0).2.2.2) != 0) || (((sendS (frevS (fcloneS u0))).2.2.2) != 0)) = true →
      (K ((((sendS u0).2.2.2) == 0) == (((sendS (frevS (fcloneS u0))).2.2.2) == 0)))) ∧
    (((((sendS u0).2.2.2) != 0) || (((sendS (frevS (fcloneS u0))).2.2.2) != 0)) = false →
      ((irevS ((sendS (frevS (fcloneS u0))).2.2.1)).length ≤ 140737488355328 →
      (K (((((sendS u0).1) == ((sendS (frevS (fcloneS u0))).1)) && (((sendS u0).2.1) == (w64 ((w64 ((u0.length : Int) - 1)) - ((sendS (frevS (fcloneS u0))).2.1))))) && (ieqS ((sendS u0).2.2.1) (irevS ((sendS (frevS (fcloneS u0))).2.2.1))))))))))))))))
theorem LTurns_mono {u0 : List Frame} {K K1 : Bool → Prop} (hK : ∀ r, K r → K1 r) (h : LTurns_vc u0 K) : LTurns_vc u0 K1 :=
  fun z0 => ⟨(h z0).1, fun z2 => ⟨(((h z0).2) z2).1, fun z4 => fun z5 => ⟨((((((h z0).2) z2).2) z4) z5).1, fun z7 => ⟨fun c8 => hK _ (((((((((h z0).2) z2).2) z4) z5).2) z7).1 c8), fun c8 => fun z9 => hK _ ((((((((((h z0).2) z2).2) z4) z5).2) z7).2 c8) z9)⟩⟩⟩⟩

end Go.Proofs.YtmbdcehmeiiaoaaDoor
