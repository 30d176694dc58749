/- What must hold so that each function ends well: pure predicates, made by program. -/
import Derived.Test.YtginlmgkimfjmaaPB
set_option linter.unusedVariables false
set_option linter.unusedSimpArgs false
namespace Go.Proofs.Ytginlmgkimfjmaa
open Go.Sy Go.RowKit
def gput_vc (u0 : Int) (u1 : Int) (u2 : List Int) (K : ((List Int) × Int) → Prop) : Prop :=
  (u2.length ≤ 140737488355328 →
    ((((((decide (u0 < 0)) || (decide (u0 > 65535))) || (decide (u1 < 0))) || (decide (u1 ≥ 15))) = true →
      (K (([] : List Int), 3))) ∧
    (((((decide (u0 < 0)) || (decide (u0 > 65535))) || (decide (u1 < 0))) || (decide (u1 ≥ 15))) = false →
      (((decide ((u2.length : Int) < 2)) = true →
        (K (([] : List Int), 7))) ∧
      ((decide ((u2.length : Int) < 2)) = false →
        (((decide ((u2.length : Int) > 64)) = true →
          (K (([] : List Int), 2))) ∧
        ((decide ((u2.length : Int) > 64)) = false →
          ((u2.length ≤ 1000000) ∧
          ((bcloneS u2).length ≤ 140737488355328 →
          ((0 ≤ (1 : Int) ∧ (1 : Int) < ((bcloneS u2).length : Int)) ∧
          (∀ q115, (bcloneS u2)[(1 : Int).toNat]? = some q115 →
          ((0 ≤ (1 : Int) ∧ (1 : Int) < ((bcloneS u2).length : Int)) ∧
          (((∀ x ∈ ((bcloneS u2).set (1 : Int).toNat (bOr .u8 (bAnd .u8 q115 240) (w8 u1))), 0 ≤ x ∧ x ≤ 255) ∧ 1 ≤ ((bcloneS u2).set (1 : Int).toNat (bOr .u8 (bAnd .u8 q115 240) (w8 u1))).length ∧ ((bcloneS u2).set (1 : Int).toNat (bOr .u8 (bAnd .u8 q115 240) (w8 u1))).length ≤ 1000000) ∧
          ((0 ≤ (0 : Int) ∧ (0 : Int) < (((bcloneS u2).set (1 : Int).toNat (bOr .u8 (bAnd .u8 q115 240) (w8 u1))).length : Int)) ∧
          (K (((bcloneS u2).set (1 : Int).toNat (bOr .u8 (bAnd .u8 q115 240) (w8 u1))).set (0 : Int).toNat (gsumS u0 ((bcloneS u2).set (1 : Int).toNat (bOr .u8 (bAnd .u8 q115 240) (w8 u1)))), 0))))))))))))))))
theorem gput_mono {u0 : Int} {u1 : Int} {u2 : List Int} {K K1 : ((List Int) × Int) → Prop} (hK : ∀ r, K r → K1 r) (h : gput_vc u0 u1 u2 K) : gput_vc u0 u1 u2 K1 :=
  fun z0 => ⟨fun c1 => hK _ ((h z0).1 c1), fun c1 => ⟨fun c2 => hK _ (((h z0).2 c1).1 c2), fun c2 => ⟨fun c3 => hK _ ((((h z0).2 c1).2 c2).1 c3), fun c3 => ⟨((((h z0).2 c1).2 c2).2 c3).1, fun z5 => ⟨((((((h z0).2 c1).2 c2).2 c3).2) z5).1, fun q115 z7 => ⟨((((((((h z0).2 c1).2 c2).2 c3).2) z5).2) q115 z7).1, ⟨(((((((((h z0).2 c1).2 c2).2 c3).2) z5).2) q115 z7).2).1, ⟨((((((((((h z0).2 c1).2 c2).2 c3).2) z5).2) q115 z7).2).2).1, hK _ (((((((((((h z0).2 c1).2 c2).2 c3).2) z5).2) q115 z7).2).2).2)⟩⟩⟩⟩⟩⟩⟩⟩

def gbad_vc (u0 : Guard) (K : (Guard × Int × Guard) → Prop) : Prop :=
  (K ((⟨u0.Key, u0.Last, min (w64 (u0.Bad + 1)) 1000000, 4⟩ : Guard), 0, (⟨u0.Key, u0.Last, min (w64 (u0.Bad + 1)) 1000000, 4⟩ : Guard)))
theorem gbad_mono {u0 : Guard} {K K1 : (Guard × Int × Guard) → Prop} (hK : ∀ r, K r → K1 r) (h : gbad_vc u0 K) : gbad_vc u0 K1 :=
  hK _ h

end Go.Proofs.Ytginlmgkimfjmaa
