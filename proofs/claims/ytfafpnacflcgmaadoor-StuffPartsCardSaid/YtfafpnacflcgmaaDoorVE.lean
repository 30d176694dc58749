/- What must hold so that each function ends well: pure predicates, made by program. -/
import Derived.Test.YtfafpnacflcgmaaDoorPD
set_option linter.unusedVariables false
set_option linter.unusedSimpArgs false
namespace Go.Proofs.YtfafpnacflcgmaaDoor
open Go.Sy Go.RowKit
def LJoin_vc (u0 : List UInt8) (u1 : List UInt8) (K : Bool → Prop) : Prop :=
  (((((((bnumberS u0).2) != 0) || (((bnumberS u1).2) != 0)) || (decide ((w64 ((u0.length : Int) + (u1.length : Int))) > 62))) = true →
      (K true)) ∧
    ((((((bnumberS u0).2) != 0) || (((bnumberS u1).2) != 0)) || (decide ((w64 ((u0.length : Int) + (u1.length : Int))) > 62))) = false →
      (((u0.length : Int) + (u1.length : Int) ≤ 9223372036854775807) ∧
      (((((bnumberS (u0 ++ u1)).2) == 0) = true →
        ((0 ≤ (u1.length : Int)) ∧
        (K (((bnumberS (u0 ++ u1)).1) == (w64 ((bShl .i64 ((bnumberS u0).1) (u1.length : Int)) + ((bnumberS u1).1))))))) ∧
      ((((bnumberS (u0 ++ u1)).2) == 0) = false →
        (K false))))))
theorem LJoin_mono {u0 : List UInt8} {u1 : List UInt8} {K K1 : Bool → Prop} (hK : ∀ r, K r → K1 r) (h : LJoin_vc u0 u1 K) : LJoin_vc u0 u1 K1 :=
  ⟨fun c0 => hK _ (h.1 c0), fun c0 => ⟨(h.2 c0).1, ⟨fun c2 => ⟨(((h.2 c0).2).1 c2).1, hK _ ((((h.2 c0).2).1 c2).2)⟩, fun c2 => hK _ (((h.2 c0).2).2 c2)⟩⟩⟩

def LParts_vc (u0 : List UInt8) (u1 : Int) (u2 : Int) (K : Bool → Prop) : Prop :=
  ((u1 ≤ 9223372036854775807) ∧
    ((u2 ≤ 9223372036854775807) ∧
    (((((decide (u1 > u2)) || (((stakeS u0 u1).2.2) != 0)) || (((stakeS u0 u2).2.2) != 0)) = true →
      (K ((((decide (u1 > u2)) || (decide (u1 < 0))) || (((stakeS u0 u2).2.2) != 0)) || (((stakeS u0 u1).2.2) == 0)))) ∧
    ((((decide (u1 > u2)) || (((stakeS u0 u1).2.2) != 0)) || (((stakeS u0 u2).2.2) != 0)) = false →
      (K (((hasprefix ((stakeS u0 u2).1) ((stakeS u0 u1).1)) && (decide (((stakeS u0 u1).2.1) ≤ ((stakeS u0 u2).2.1)))) && ((((stakeS u0 u1).1).length : Int) == u1)))))))
theorem LParts_mono {u0 : List UInt8} {u1 : Int} {u2 : Int} {K K1 : Bool → Prop} (hK : ∀ r, K r → K1 r) (h : LParts_vc u0 u1 u2 K) : LParts_vc u0 u1 u2 K1 :=
  ⟨h.1, ⟨h.2.1, ⟨fun c2 => hK _ (h.2.2.1 c2), fun c2 => hK _ (h.2.2.2 c2)⟩⟩⟩

def LBack_vc (u0 : List UInt8) (u1 : List UInt8) (K : Bool → Prop) : Prop :=
  (((((((sputS u0).2) != 0) || ((bcheckS u1) != 0)) || (decide ((w64 ((((sputS u0).1).length : Int) + (u1.length : Int))) > 1000))) = true →
      (K true)) ∧
    ((((((sputS u0).2) != 0) || ((bcheckS u1) != 0)) || (decide ((w64 ((((sputS u0).1).length : Int) + (u1.length : Int))) > 1000))) = false →
      (((((sputS u0).1).length : Int) + (u1.length : Int) ≤ 9223372036854775807) ∧
      (((u0.length : Int) ≤ 9223372036854775807) ∧
      (K (((((((((stakeS (((sputS u0).1) ++ u1) (u0.length : Int)).2.2) == 0) && (((smost (u0.length : Int)).2) == 0)) && (((brunS ((sputS u0).1)).2) == 0)) && (((stakeS (((sputS u0).1) ++ u1) (u0.length : Int)).1) == u0)) && (((stakeS (((sputS u0).1) ++ u1) (u0.length : Int)).2.1) == (((sputS u0).1).length : Int))) && (decide ((((sputS u0).1).length : Int) ≤ ((smost (u0.length : Int)).1)))) && (decide (((brunS ((sputS u0).1)).1) < 6))))))))
theorem LBack_mono {u0 : List UInt8} {u1 : List UInt8} {K K1 : Bool → Prop} (hK : ∀ r, K r → K1 r) (h : LBack_vc u0 u1 K) : LBack_vc u0 u1 K1 :=
  ⟨fun c0 => hK _ (h.1 c0), fun c0 => ⟨(h.2 c0).1, ⟨((h.2 c0).2).1, hK _ (((h.2 c0).2).2)⟩⟩⟩

def LPut_vc (u0 : List UInt8) (K : Bool → Prop) : Prop :=
  ((((bcheckS u0) != 0) = true →
      (K ((((sputS u0).2) == (bcheckS u0)) && (((sputS u0).1) == [])))) ∧
    (((bcheckS u0) != 0) = false →
      (((((sputS u0).2) == 0) = true →
        ((isRow u0 = true ∧ u0.length ≤ 1000) ∧
        (K (((sputS u0).1) == (putbitsS u0))))) ∧
      ((((sputS u0).2) == 0) = false →
        (K false)))))
theorem LPut_mono {u0 : List UInt8} {K K1 : Bool → Prop} (hK : ∀ r, K r → K1 r) (h : LPut_vc u0 K) : LPut_vc u0 K1 :=
  ⟨fun c0 => hK _ (h.1 c0), fun c0 => ⟨fun c1 => ⟨((h.2 c0).1 c1).1, hK _ (((h.2 c0).1 c1).2)⟩, fun c1 => hK _ ((h.2 c0).2 c1)⟩⟩

def LTake_vc (u0 : List UInt8) (u1 : Int) (K : Bool → Prop) : Prop :=
  ((u1 ≤ 9223372036854775807) ∧
    (((((bcheckS u0) == 0) && ((decide (u1 < 0)) || (decide (u1 > 1000)))) = true →
      (K (((((stakeS u0 u1).2.2) == 3) && (((stakeS u0 u1).1) == [])) && (((stakeS u0 u1).2.1) == 0)))) ∧
    ((((bcheckS u0) == 0) && ((decide (u1 < 0)) || (decide (u1 > 1000)))) = false →
      ((((bcheckS u0) != 0) = true →
        (K (((((stakeS u0 u1).2.2) == (bcheckS u0)) && (((stakeS u0 u1).1) == [])) && (((stakeS u0 u1).2.1) == 0)))) ∧
      (((bcheckS u0) != 0) = false →
        ((isRow u0 = true ∧ u0.length ≤ 1000 ∧ 0 ≤ u1 ∧ u1 ≤ 1000) ∧
        (K (((((stakeS u0 u1).2.2) == ((takebitsS u0 u1).2.2)) && (((stakeS u0 u1).1) == ((takebitsS u0 u1).1))) && (((stakeS u0 u1).2.1) == ((takebitsS u0 u1).2.1))))))))))
theorem LTake_mono {u0 : List UInt8} {u1 : Int} {K K1 : Bool → Prop} (hK : ∀ r, K r → K1 r) (h : LTake_vc u0 u1 K) : LTake_vc u0 u1 K1 :=
  ⟨h.1, ⟨fun c1 => hK _ (h.2.1 c1), fun c1 => ⟨fun c2 => hK _ ((h.2.2 c1).1 c2), fun c2 => ⟨((h.2.2 c1).2 c2).1, hK _ (((h.2.2 c1).2 c2).2)⟩⟩⟩⟩

def LFixed_vc (u0 : List UInt8) (u1 : Int) (u2 : Int) (K : Bool → Prop) : Prop :=
  ((((decide (u2 < 0)) || (decide (u2 > 1000))) = true →
      ((((((smost u2).2) != 3) || (((smost u2).1) != 0)) = true →
        (K false)) ∧
      (((((smost u2).2) != 3) || (((smost u2).1) != 0)) = false →
        ((((((bcheckS u0) == 0) && (u1 != 48)) && (u1 != 49)) = true →
          (K ((((sfixedS u0 u1).2) == 3) && (((sfixedS u0 u1).1) == [])))) ∧
        (((((bcheckS u0) == 0) && (u1 != 48)) && (u1 != 49)) = false →
          ((((bcheckS u0) != 0) = true →
            (K ((((sfixedS u0 u1).2) == (bcheckS u0)) && (((sfixedS u0 u1).1) == [])))) ∧
          (((bcheckS u0) != 0) = false →
            (((((sfixedS u0 u1).2) == 0) = true →
              ((isRow u0 = true ∧ u0.length ≤ 1000 ∧ (u1 = 48 ∨ u1 = 49)) ∧
              (K (((sfixedS u0 u1).1) == (fixbitsS u0 u1))))) ∧
            ((((sfixedS u0 u1).2) == 0) = false →
              (K false)))))))))) ∧
    (((decide (u2 < 0)) || (decide (u2 > 1000))) = false →
      ((((((smost u2).2) != 0) || (((smost u2).1) != (w64 (u2 + (w64 ((max (w64 (u2 - 1)) 0).tdiv 4)))))) = true →
        (K false)) ∧
      (((((smost u2).2) != 0) || (((smost u2).1) != (w64 (u2 + (w64 ((max (w64 (u2 - 1)) 0).tdiv 4)))))) = false →
        ((((((bcheckS u0) == 0) && (u1 != 48)) && (u1 != 49)) = true →
          (K ((((sfixedS u0 u1).2) == 3) && (((sfixedS u0 u1).1) == [])))) ∧
        (((((bcheckS u0) == 0) && (u1 != 48)) && (u1 != 49)) = false →
          ((((bcheckS u0) != 0) = true →
            (K ((((sfixedS u0 u1).2) == (bcheckS u0)) && (((sfixedS u0 u1).1) == [])))) ∧
          (((bcheckS u0) != 0) = false →
            (((((sfixedS u0 u1).2) == 0) = true →
              ((isRow u0 = true ∧ u0.length ≤ 1000 ∧ (u1 = 48 ∨ u1 = 49)) ∧
              (K (((sfixedS u0 u1).1) == (fixbitsS u0 u1))))) ∧
            ((((sfixedS u0 u1).2) == 0) = false →
              (K false)))))))))))
theorem LFixed_mono {u0 : List UInt8} {u1 : Int} {u2 : Int} {K K1 : Bool → Prop} (hK : ∀ r, K r → K1 r) (h : LFixed_vc u0 u1 u2 K) : LFixed_vc u0 u1 u2 K1 :=
  ⟨fun c0 => ⟨fun c1 => hK _ ((h.1 c0).1 c1), fun c1 => ⟨fun c2 => hK _ (((h.1 c0).2 c1).1 c2), fun c2 => ⟨fun c3 => hK _ ((((h.1 c0).2 c1).2 c2).1 c3), fun c3 => ⟨fun c4 => ⟨(((((h.1 c0).2 c1).2 c2).2 c3).1 c4).1, hK _ ((((((h.1 c0).2 c1).2 c2).2 c3).1 c4).2)⟩, fun c4 => hK _ (((((h.1 c0).2 c1).2 c2).2 c3).2 c4)⟩⟩⟩⟩, fun c0 => ⟨fun c1 => hK _ ((h.2 c0).1 c1), fun c1 => ⟨fun c2 => hK _ (((h.2 c0).2 c1).1 c2), fun c2 => ⟨fun c3 => hK _ ((((h.2 c0).2 c1).2 c2).1 c3), fun c3 => ⟨fun c4 => ⟨(((((h.2 c0).2 c1).2 c2).2 c3).1 c4).1, hK _ ((((((h.2 c0).2 c1).2 c2).2 c3).1 c4).2)⟩, fun c4 => hK _ (((((h.2 c0).2 c1).2 c2).2 c3).2 c4)⟩⟩⟩⟩⟩

end Go.Proofs.YtfafpnacflcgmaaDoor
