/- What must hold so that each function ends well: pure predicates, made by program. -/
import Derived.Test.YtmbdcehmeiiaoaaDoorPG
set_option linter.unusedVariables false
set_option linter.unusedSimpArgs false
namespace Go.Proofs.YtmbdcehmeiiaoaaDoor
open Go.Sy Go.RowKit
def LNames_vc (u0 : Frame) (u1 : Frame) (K : Bool → Prop) : Prop :=
  (u0.Data.length ≤ 140737488355328 →
    (u1.Data.length ≤ 140737488355328 →
    ((((((fNameS u0).2) != 0) || (((fNameS u1).2) != 0)) = true →
      (K true)) ∧
    (((((fNameS u0).2) != 0) || (((fNameS u1).2) != 0)) = false →
      (((u0.Long == u1.Long) = true →
        (K (((((fNameS u0).1) == ((fNameS u1).1)) == ((u0.ID == u1.ID) && (u0.Remote == u1.Remote))) && ((strc .gtr ((fNameS u0).1) ((fNameS u1).1)) || (decide (u0.ID ≤ u1.ID)))))) ∧
      ((u0.Long == u1.Long) = false →
        (K (((((fNameS u0).1) != ((fNameS u1).1)) && (!(hasprefix ((fNameS u0).1) ((fNameS u1).1)))) && (!(hasprefix ((fNameS u1).1) ((fNameS u0).1)))))))))))

def LApart_vc (u0 : Frame) (u1 : Frame) (K : Bool → Prop) : Prop :=
  (u0.Data.length ≤ 140737488355328 →
    (u1.Data.length ≤ 140737488355328 →
    ((∀ x ∈ u0.Data, 0 ≤ x ∧ x ≤ 255) ∧
    ((∀ x ∈ u1.Data, 0 ≤ x ∧ x ≤ 255) ∧
    ((((((BitsS u0).2) != 0) || (((BitsS u1).2) != 0)) = true →
      (K true)) ∧
    (((((BitsS u0).2) != 0) || (((BitsS u1).2) != 0)) = false →
      (K (((hasprefix ((BitsS u0).1) ((BitsS u1).1)) == (sameS u0 u1)) && ((((BitsS u0).1) == ((BitsS u1).1)) == (sameS u0 u1))))))))))

def LHeard_vc (u0 : Frame) (K : Bool → Prop) : Prop :=
  (u0.Data.length ≤ 140737488355328 →
    ((∀ x ∈ u0.Data, 0 ≤ x ∧ x ≤ 255) ∧
    ((((((BitsS u0).2) != 0) || (decide ((((BitsS u0).1).length : Int) < 10))) = true →
      (K true)) ∧
    (((((BitsS u0).2) != 0) || (decide ((((BitsS u0).1).length : Int) < 10))) = false →
      ((0 ≤ w64 ((((BitsS u0).1).length : Int) - 9) ∧ w64 ((((BitsS u0).1).length : Int) - 9) ≤ (((BitsS u0).1).length : Int)) ∧
      ((((((BitsS u0).1).take (w64 ((((BitsS u0).1).length : Int) - 9)).toNat).length : Int) + (([48] : List UInt8).length : Int) ≤ 9223372036854775807) ∧
      ((0 ≤ w64 ((w64 ((((BitsS u0).1).length : Int) - 9)) + 1) ∧ w64 ((w64 ((((BitsS u0).1).length : Int) - 9)) + 1) ≤ (((BitsS u0).1).length : Int)) ∧
      (((((((BitsS u0).1).take (w64 ((((BitsS u0).1).length : Int) - 9)).toNat) ++ ([48] : List UInt8)).length : Int) + ((((BitsS u0).1).drop (w64 ((w64 ((((BitsS u0).1).length : Int) - 9)) + 1)).toNat).length : Int) ≤ 9223372036854775807) ∧
      (K (((((readS (((((BitsS u0).1).take (w64 ((((BitsS u0).1).length : Int) - 9)).toNat) ++ ([48] : List UInt8)) ++ (((BitsS u0).1).drop (w64 ((w64 ((((BitsS u0).1).length : Int) - 9)) + 1)).toNat))).2.2) == 0) && (((readS (((((BitsS u0).1).take (w64 ((((BitsS u0).1).length : Int) - 9)).toNat) ++ ([48] : List UInt8)) ++ (((BitsS u0).1).drop (w64 ((w64 ((((BitsS u0).1).length : Int) - 9)) + 1)).toNat))).2.1) == (((BitsS u0).1).length : Int))) && (sameS u0 ((readS (((((BitsS u0).1).take (w64 ((((BitsS u0).1).length : Int) - 9)).toNat) ++ ([48] : List UInt8)) ++ (((BitsS u0).1).drop (w64 ((w64 ((((BitsS u0).1).length : Int) - 9)) + 1)).toNat))).1))))))))))))

def LBack_vc (u0 : Frame) (u1 : List UInt8) (K : Bool → Prop) : Prop :=
  (u0.Data.length ≤ 140737488355328 →
    ((∀ x ∈ u0.Data, 0 ≤ x ∧ x ≤ 255) ∧
    (((((((BitsS u0).2) != 0) || ((bcheckS u1) != 0)) || (decide ((w64 ((((BitsS u0).1).length : Int) + (u1.length : Int))) > 1000))) = true →
      (K true)) ∧
    ((((((BitsS u0).2) != 0) || ((bcheckS u1) != 0)) || (decide ((w64 ((((BitsS u0).1).length : Int) + (u1.length : Int))) > 1000))) = false →
      (((((BitsS u0).1).length : Int) + (u1.length : Int) ≤ 9223372036854775807) ∧
      ((((readS (((BitsS u0).1) ++ u1)).1).Data).length ≤ 140737488355328 →
      (K (((((((readS (((BitsS u0).1) ++ u1)).2.2) == 0) && (((flongestS u0.Long u0.Fast (u0.Data.length : Int)).2) == 0)) && (((readS (((BitsS u0).1) ++ u1)).2.1) == (((BitsS u0).1).length : Int))) && (sameS u0 ((readS (((BitsS u0).1) ++ u1)).1))) && (decide ((((BitsS u0).1).length : Int) ≤ ((flongestS u0.Long u0.Fast (u0.Data.length : Int)).1)))))))))))

end Go.Proofs.YtmbdcehmeiiaoaaDoor
