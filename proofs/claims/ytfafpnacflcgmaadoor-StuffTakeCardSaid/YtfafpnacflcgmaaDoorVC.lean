/- What must hold so that each function ends well: pure predicates, made by program. -/
import Derived.Test.YtfafpnacflcgmaaDoorPB
set_option linter.unusedVariables false
set_option linter.unusedSimpArgs false
namespace Go.Proofs.YtfafpnacflcgmaaDoor
open Go.Sy Go.RowKit
def stake_vc (u0 : List UInt8) (u1 : Int) (K : ((List UInt8) × Int × Int) → Prop) : Prop :=
  ((((bcheckS u0) != 0) = true →
      (K ([], 0, (bcheckS u0)))) ∧
    (((bcheckS u0) != 0) = false →
      ((((decide (u1 < 0)) || (decide (u1 > 1000))) = true →
        (K ([], 0, 3))) ∧
      (((decide (u1 < 0)) || (decide (u1 > 1000))) = false →
        ((Rok (⟨u0, 0, 0, (⟨0, 0⟩ : Counter)⟩ : Reader) ∧ u1 ≤ 9223372036854775807) ∧
        (∀ r82, (rtakeS (⟨u0, 0, 0, (⟨0, 0⟩ : Counter)⟩ : Reader) u1) = r82 →
        (((r82.2.Code != 0) = true →
          (K ([], 0, r82.2.Code))) ∧
        ((r82.2.Code != 0) = false →
          (K (r82.1, r82.2.At, 0))))))))))
theorem stake_mono {u0 : List UInt8} {u1 : Int} {K K1 : ((List UInt8) × Int × Int) → Prop} (hK : ∀ r, K r → K1 r) (h : stake_vc u0 u1 K) : stake_vc u0 u1 K1 :=
  ⟨fun c0 => hK _ (h.1 c0), fun c0 => ⟨fun c1 => hK _ ((h.2 c0).1 c1), fun c1 => ⟨((h.2 c0).2 c1).1, fun r82 z3 => ⟨fun c4 => hK _ (((((h.2 c0).2 c1).2) r82 z3).1 c4), fun c4 => hK _ (((((h.2 c0).2 c1).2) r82 z3).2 c4)⟩⟩⟩⟩

def rowed_vc  (K : Bool → Prop) : Prop :=
  (((10 : Int) ≤ 9223372036854775807) ∧
    (K ((((((bnumberS ([49, 48, 49, 48] : List UInt8)).2) == 0) && (((browS 10 5).2) == 0)) && (((bnumberS ([49, 48, 49, 48] : List UInt8)).1) == 10)) && (((browS 10 5).1) == ([48, 49, 48, 49, 48] : List UInt8)))))
theorem rowed_mono  {K K1 : Bool → Prop} (hK : ∀ r, K r → K1 r) (h : rowed_vc  K) : rowed_vc  K1 :=
  ⟨h.1, hK _ h.2⟩

def bbytes_vc (u0 : List UInt8) (K : ((List Int) × Int) → Prop) : Prop :=
  ((((bcheckS u0) != 0) = true →
      (K (([] : List Int), (bcheckS u0)))) ∧
    (((bcheckS u0) != 0) = false →
      (((((u0.length : Int).tmod 8) != 0) = true →
        (K (([] : List Int), 4))) ∧
      ((((u0.length : Int).tmod 8) != 0) = false →
        (∃ inv53 : (List UInt8) → (List Int) → Prop, ∃ mu53 : (List UInt8) → (List Int) → Nat, inv53 u0 ([] : List Int) ∧
        (∀ (x0 : List UInt8) (x5 : List Int), inv53 x0 x5 →
        (((decide ((x0.length : Int) > 0)) = true →
          ((0 ≤ (8 : Int) ∧ (8 : Int) ≤ (x0.length : Int)) ∧
          (((x0.take (8 : Int).toNat).length ≤ 62 ∧ isRow (x0.take (8 : Int).toNat) = true) ∧
          (((x5.length + 1) * 1 ≤ 140737488355328) ∧
          ((0 ≤ (8 : Int) ∧ (8 : Int) ≤ (x0.length : Int)) ∧
          (inv53 (x0.drop (8 : Int).toNat) (x5 ++ [w8 (breadS (x0.take (8 : Int).toNat))]) ∧ mu53 (x0.drop (8 : Int).toNat) (x5 ++ [w8 (breadS (x0.take (8 : Int).toNat))]) < mu53 x0 x5)))))) ∧
        ((decide ((x0.length : Int) > 0)) = false →
          (K (x5, 0))))))))))
theorem bbytes_mono {u0 : List UInt8} {K K1 : ((List Int) × Int) → Prop} (hK : ∀ r, K r → K1 r) (h : bbytes_vc u0 K) : bbytes_vc u0 K1 :=
  ⟨fun c0 => hK _ (h.1 c0), fun c0 => ⟨fun c1 => hK _ ((h.2 c0).1 c1), fun c1 => (Exists.elim ((h.2 c0).2 c1) fun i2 e2 => Exists.elim e2 fun m2 g2 => ⟨i2, m2, g2.1, fun x0 x5 z2 => ⟨fun c3 => ⟨((g2.2 x0 x5 z2).1 c3).1, ⟨(((g2.2 x0 x5 z2).1 c3).2).1, ⟨((((g2.2 x0 x5 z2).1 c3).2).2).1, ⟨(((((g2.2 x0 x5 z2).1 c3).2).2).2).1, (((((g2.2 x0 x5 z2).1 c3).2).2).2).2⟩⟩⟩⟩, fun c3 => hK _ ((g2.2 x0 x5 z2).2 c3)⟩⟩)⟩⟩

end Go.Proofs.YtfafpnacflcgmaaDoor
