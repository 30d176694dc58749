/- What must hold so that each function ends well: pure predicates, made by program. -/
import Derived.Test.YtginlmgkimfjmaaPDh
set_option linter.unusedVariables false
set_option linter.unusedSimpArgs false
namespace Go.Proofs.Ytginlmgkimfjmaa
open Go.Sy Go.RowKit
def dWorst_vc (u0 : List Task) (K : ((List Stop) × Int) → Prop) : Prop :=
  (u0.length ≤ 140737488355328 →
    ((((dcheckS u0) != 0) = true →
      (K (([] : List Stop), (dcheckS u0)))) ∧
    (((dcheckS u0) != 0) = false →
      (∃ inv46 : (List Stop) → Int → Prop, ∃ mu46 : (List Stop) → Int → Nat, inv46 ([] : List Stop) 0 ∧
      (∀ (x5 : List Stop) (x16 : Int), inv46 x5 x16 →
      (((decide (x16 < (u0.length : Int))) = true →
        ((0 ≤ x16 ∧ x16 < (u0.length : Int)) ∧
        (∀ q73, u0[x16.toNat]? = some q73 →
        ((dcheckS u0 = 0 ∧ 0 ≤ x16 ∧ x16 < (u0.length : Int)) ∧
        (((x5.length + 1) * 16 ≤ 140737488355328) ∧
        (inv46 (x5 ++ [(⟨(worstS u0 x16), (decide ((worstS u0 x16) ≥ 0)) && (decide ((worstS u0 x16) ≤ q73.Late))⟩ : Stop)]) (w64 (x16 + 1)) ∧ mu46 (x5 ++ [(⟨(worstS u0 x16), (decide ((worstS u0 x16) ≥ 0)) && (decide ((worstS u0 x16) ≤ q73.Late))⟩ : Stop)]) (w64 (x16 + 1)) < mu46 x5 x16)))))) ∧
      ((decide (x16 < (u0.length : Int))) = false →
        (K (x5, 0)))))))))
theorem dWorst_mono {u0 : List Task} {K K1 : ((List Stop) × Int) → Prop} (hK : ∀ r, K r → K1 r) (h : dWorst_vc u0 K) : dWorst_vc u0 K1 :=
  fun z0 => ⟨fun c1 => hK _ ((h z0).1 c1), fun c1 => (Exists.elim ((h z0).2 c1) fun i2 e2 => Exists.elim e2 fun m2 g2 => ⟨i2, m2, g2.1, fun x5 x16 z2 => ⟨fun c3 => ⟨((g2.2 x5 x16 z2).1 c3).1, fun q73 z5 => ⟨((((g2.2 x5 x16 z2).1 c3).2) q73 z5).1, ⟨(((((g2.2 x5 x16 z2).1 c3).2) q73 z5).2).1, (((((g2.2 x5 x16 z2).1 c3).2) q73 z5).2).2⟩⟩⟩, fun c3 => hK _ ((g2.2 x5 x16 z2).2 c3)⟩⟩)⟩

def dtasks_vc  (K : (List Task) → Prop) : Prop :=
  (K ([(⟨1, 8, 1000, 1000, 0⟩ : Task), (⟨2, 8, 1000, 1000, 0⟩ : Task)] : List Task))
theorem dtasks_mono  {K K1 : (List Task) → Prop} (hK : ∀ r, K r → K1 r) (h : dtasks_vc  K) : dtasks_vc  K1 :=
  hK _ h

def stopeq_vc (u0 : List Stop) (u1 : List Stop) (K : Bool → Prop) : Prop :=
  (u0.length ≤ 140737488355328 →
    (u1.length ≤ 140737488355328 →
    ((((u0.length : Int) != (u1.length : Int)) = true →
      (K false)) ∧
    (((u0.length : Int) != (u1.length : Int)) = false →
      (∃ inv37 : Int → Prop, ∃ mu37 : Int → Nat, inv37 0 ∧
      (∀ (x13 : Int), inv37 x13 →
      (((decide (x13 < (u0.length : Int))) = true →
        ((0 ≤ x13 ∧ x13 < (u0.length : Int)) ∧
        (∀ q74, u0[x13.toNat]? = some q74 →
        ((0 ≤ x13 ∧ x13 < (u1.length : Int)) ∧
        (∀ q96, u1[x13.toNat]? = some q96 →
        (((!((q74.Wait == q96.Wait) && ((q74.Fits == q96.Fits) && true))) = true →
          (K false)) ∧
        ((!((q74.Wait == q96.Wait) && ((q74.Fits == q96.Fits) && true))) = false →
          (inv37 (w64 (x13 + 1)) ∧ mu37 (w64 (x13 + 1)) < mu37 x13)))))))) ∧
      ((decide (x13 < (u0.length : Int))) = false →
        (K true)))))))))
theorem stopeq_mono {u0 : List Stop} {u1 : List Stop} {K K1 : Bool → Prop} (hK : ∀ r, K r → K1 r) (h : stopeq_vc u0 u1 K) : stopeq_vc u0 u1 K1 :=
  fun z0 => fun z1 => ⟨fun c2 => hK _ (((h z0) z1).1 c2), fun c2 => (Exists.elim (((h z0) z1).2 c2) fun i3 e3 => Exists.elim e3 fun m3 g3 => ⟨i3, m3, g3.1, fun x13 z3 => ⟨fun c4 => ⟨((g3.2 x13 z3).1 c4).1, fun q74 z6 => ⟨((((g3.2 x13 z3).1 c4).2) q74 z6).1, fun q96 z8 => ⟨fun c9 => hK _ (((((((g3.2 x13 z3).1 c4).2) q74 z6).2) q96 z8).1 c9), fun c9 => (((((((g3.2 x13 z3).1 c4).2) q74 z6).2) q96 z8).2 c9)⟩⟩⟩, fun c4 => hK _ ((g3.2 x13 z3).2 c4)⟩⟩)⟩

end Go.Proofs.Ytginlmgkimfjmaa
