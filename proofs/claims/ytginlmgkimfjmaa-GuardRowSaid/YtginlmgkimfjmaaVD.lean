/- What must hold so that each function ends well: pure predicates, made by program. -/
import Derived.Test.YtginlmgkimfjmaaPC
set_option linter.unusedVariables false
set_option linter.unusedSimpArgs false
namespace Go.Proofs.Ytginlmgkimfjmaa
open Go.Sy Go.RowKit
def gsee_vc (u0 : Guard) (u1 : List Int) (u2 : Int) (K : (Guard × Int) → Prop) : Prop :=
  (u1.length ≤ 140737488355328 →
    ((((gcheck u0) != 0) = true →
      (K ((⟨0, 0, 0, 0⟩ : Guard), (gcheck u0)))) ∧
    (((gcheck u0) != 0) = false →
      ((((decide (u2 < 1)) || (decide (u2 ≥ 15))) = true →
        (K ((⟨0, 0, 0, 0⟩ : Guard), 3))) ∧
      (((decide (u2 < 1)) || (decide (u2 ≥ 15))) = false →
        (((decide ((u1.length : Int) < 2)) = true →
          (K ((⟨0, 0, 0, 0⟩ : Guard), 7))) ∧
        ((decide ((u1.length : Int) < 2)) = false →
          (((decide ((u1.length : Int) > 64)) = true →
            (K ((⟨0, 0, 0, 0⟩ : Guard), 2))) ∧
          ((decide ((u1.length : Int) > 64)) = false →
            ((0 ≤ (1 : Int) ∧ (1 : Int) < (u1.length : Int)) ∧
            (∀ q116, u1[(1 : Int).toNat]? = some q116 →
            (((decide ((w64 (bAnd .u8 q116 15)) ≥ 15)) = true →
              (K (((gbadS u0).1), (gbadS u0).2.1))) ∧
            ((decide ((w64 (bAnd .u8 q116 15)) ≥ 15)) = false →
              ((0 ≤ (0 : Int) ∧ (0 : Int) < (u1.length : Int)) ∧
              (∀ q213, u1[(0 : Int).toNat]? = some q213 →
              (((∀ x ∈ u1, 0 ≤ x ∧ x ≤ 255) ∧ 1 ≤ u1.length ∧ u1.length ≤ 1000000) ∧
              (((q213 != (gsumS u0.Key u1)) = true →
                (K (((gbadS u0).1), (gbadS u0).2.1))) ∧
              ((q213 != (gsumS u0.Key u1)) = false →
                ((((decide (u0.Last < 0)) || (((w64 ((w64 ((w64 (bAnd .u8 q116 15)) - u0.Last)) + 15)).tmod 15) == 1)) = true →
                  (K ((⟨u0.Key, w64 (bAnd .u8 q116 15), 0, 1⟩ : Guard), 0))) ∧
                (((decide (u0.Last < 0)) || (((w64 ((w64 ((w64 (bAnd .u8 q116 15)) - u0.Last)) + 15)).tmod 15) == 1)) = false →
                  (((((w64 ((w64 ((w64 (bAnd .u8 q116 15)) - u0.Last)) + 15)).tmod 15) == 0) = true →
                    (K ((⟨u0.Key, w64 (bAnd .u8 q116 15), u0.Bad, 3⟩ : Guard), 0))) ∧
                  ((((w64 ((w64 ((w64 (bAnd .u8 q116 15)) - u0.Last)) + 15)).tmod 15) == 0) = false →
                    (((decide (((w64 ((w64 ((w64 (bAnd .u8 q116 15)) - u0.Last)) + 15)).tmod 15) ≤ u2)) = true →
                      (K ((⟨u0.Key, w64 (bAnd .u8 q116 15), 0, 2⟩ : Guard), 0))) ∧
                    ((decide (((w64 ((w64 ((w64 (bAnd .u8 q116 15)) - u0.Last)) + 15)).tmod 15) ≤ u2)) = false →
                      (K (((gbadS (⟨u0.Key, w64 (bAnd .u8 q116 15), u0.Bad, u0.State⟩ : Guard)).1), (gbadS (⟨u0.Key, w64 (bAnd .u8 q116 15), u0.Bad, u0.State⟩ : Guard)).2.1))))))))))))))))))))))))))
theorem gsee_mono {u0 : Guard} {u1 : List Int} {u2 : Int} {K K1 : (Guard × Int) → Prop} (hK : ∀ r, K r → K1 r) (h : gsee_vc u0 u1 u2 K) : gsee_vc u0 u1 u2 K1 :=
  fun z0 => ⟨fun c1 => hK _ ((h z0).1 c1), fun c1 => ⟨fun c2 => hK _ (((h z0).2 c1).1 c2), fun c2 => ⟨fun c3 => hK _ ((((h z0).2 c1).2 c2).1 c3), fun c3 => ⟨fun c4 => hK _ (((((h z0).2 c1).2 c2).2 c3).1 c4), fun c4 => ⟨(((((h z0).2 c1).2 c2).2 c3).2 c4).1, fun q116 z6 => ⟨fun c7 => hK _ ((((((((h z0).2 c1).2 c2).2 c3).2 c4).2) q116 z6).1 c7), fun c7 => ⟨((((((((h z0).2 c1).2 c2).2 c3).2 c4).2) q116 z6).2 c7).1, fun q213 z9 => ⟨((((((((((h z0).2 c1).2 c2).2 c3).2 c4).2) q116 z6).2 c7).2) q213 z9).1, ⟨fun c11 => hK _ ((((((((((((h z0).2 c1).2 c2).2 c3).2 c4).2) q116 z6).2 c7).2) q213 z9).2).1 c11), fun c11 => ⟨fun c12 => hK _ (((((((((((((h z0).2 c1).2 c2).2 c3).2 c4).2) q116 z6).2 c7).2) q213 z9).2).2 c11).1 c12), fun c12 => ⟨fun c13 => hK _ ((((((((((((((h z0).2 c1).2 c2).2 c3).2 c4).2) q116 z6).2 c7).2) q213 z9).2).2 c11).2 c12).1 c13), fun c13 => ⟨fun c14 => hK _ (((((((((((((((h z0).2 c1).2 c2).2 c3).2 c4).2) q116 z6).2 c7).2) q213 z9).2).2 c11).2 c12).2 c13).1 c14), fun c14 => hK _ (((((((((((((((h z0).2 c1).2 c2).2 c3).2 c4).2) q116 z6).2 c7).2) q213 z9).2).2 c11).2 c12).2 c13).2 c14)⟩⟩⟩⟩⟩⟩⟩⟩⟩⟩⟩⟩

end Go.Proofs.Ytginlmgkimfjmaa
