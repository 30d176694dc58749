/- What must hold so that each function ends well: pure predicates, made by program. -/
import Derived.Test.YtkogkombalcgeaaPO
set_option linter.unusedVariables false
set_option linter.unusedSimpArgs false
namespace Go.Proofs.Ytkogkombalcgeaa
open Go.Sy Go.RowKit
def LPSplit_vc (u0 : List Int) (K : Bool → Prop) : Prop :=
  (u0.length ≤ 140737488355328 →
    (((psplitS u0).1).length ≤ 140737488355328 →
    ((((pbeginS u0).1).Data).length ≤ 140737488355328 →
    (((pbeginS u0).2.1).length ≤ 140737488355328 →
    ((((pbad u0) != 0) = true →
      (K (((((((psplitS u0).2) == (pbad u0)) && (((pbeginS u0).2.2) == (pbad u0))) && ((((psplitS u0).1).length : Int) == 0)) && ((((pbeginS u0).2.1).length : Int) == 0)) && (psames ((pbeginS u0).1) (⟨[], 0, 0, 0, false⟩ : Sender))))) ∧
    (((pbad u0) != 0) = false →
      ((u0.length ≤ 300) ∧
      ((ppartsofS u0).length ≤ 140737488355328 →
      (((((ppartsofS u0).length : Int) == 1) = true →
        (((((((psplitS u0).2) == 0) && (((pbeginS u0).2.2) == 0)) && (psamep ((psplitS u0).1) (ppartsofS u0))) = true →
          ((0 ≤ (0 : Int) ∧ (0 : Int) < ((ppartsofS u0).length : Int)) ∧
          (∀ q266, (ppartsofS u0)[(0 : Int).toNat]? = some q266 →
          (q266.length ≤ 140737488355328 →
          (K ((beqS ((pbeginS u0).2.1) q266) && (psames ((pbeginS u0).1) (⟨u0, (u0.length : Int), 1, 0, true⟩ : Sender)))))))) ∧
        ((((((psplitS u0).2) == 0) && (((pbeginS u0).2.2) == 0)) && (psamep ((psplitS u0).1) (ppartsofS u0))) = false →
          (K false)))) ∧
      ((((ppartsofS u0).length : Int) == 1) = false →
        (((((((psplitS u0).2) == 0) && (((pbeginS u0).2.2) == 0)) && (psamep ((psplitS u0).1) (ppartsofS u0))) = true →
          ((0 ≤ (0 : Int) ∧ (0 : Int) < ((ppartsofS u0).length : Int)) ∧
          (∀ q379, (ppartsofS u0)[(0 : Int).toNat]? = some q379 →
          (q379.length ≤ 140737488355328 →
          (K ((beqS ((pbeginS u0).2.1) q379) && (psames ((pbeginS u0).1) (⟨u0, 6, 1, -1, false⟩ : Sender)))))))) ∧
        ((((((psplitS u0).2) == 0) && (((pbeginS u0).2.2) == 0)) && (psamep ((psplitS u0).1) (ppartsofS u0))) = false →
          (K false)))))))))))))
theorem LPSplit_mono {u0 : List Int} {K K1 : Bool → Prop} (hK : ∀ r, K r → K1 r) (h : LPSplit_vc u0 K) : LPSplit_vc u0 K1 :=
  fun z0 => fun z1 => fun z2 => fun z3 => ⟨fun c4 => hK _ (((((h z0) z1) z2) z3).1 c4), fun c4 => ⟨(((((h z0) z1) z2) z3).2 c4).1, fun z6 => ⟨fun c7 => ⟨fun c8 => ⟨(((((((((h z0) z1) z2) z3).2 c4).2) z6).1 c7).1 c8).1, fun q266 z10 => fun z11 => hK _ ((((((((((((h z0) z1) z2) z3).2 c4).2) z6).1 c7).1 c8).2) q266 z10) z11)⟩, fun c8 => hK _ (((((((((h z0) z1) z2) z3).2 c4).2) z6).1 c7).2 c8)⟩, fun c7 => ⟨fun c8 => ⟨(((((((((h z0) z1) z2) z3).2 c4).2) z6).2 c7).1 c8).1, fun q379 z10 => fun z11 => hK _ ((((((((((((h z0) z1) z2) z3).2 c4).2) z6).2 c7).1 c8).2) q379 z10) z11)⟩, fun c8 => hK _ (((((((((h z0) z1) z2) z3).2 c4).2) z6).2 c7).2 c8)⟩⟩⟩⟩

def LPTold_vc (u0 : Sender) (u1 : List Int) (K : Bool → Prop) : Prop :=
  (u0.Data.length ≤ 140737488355328 →
    (u1.length ≤ 140737488355328 →
    ((((ptold u0 u1).1).Data).length ≤ 140737488355328 →
    (((pnext u0).2.1).length ≤ 140737488355328 →
    ((((pnext u0).1).Data).length ≤ 140737488355328 →
    ((((pchecks u0) != (pchecks u0)) = true →
      (K false)) ∧
    (((pchecks u0) != (pchecks u0)) = false →
      ((((pchecks u0) != 0) = true →
        (K (((((((ptold u0 u1).2) == (pchecks u0)) && (((pnext u0).2.2) == (pchecks u0))) && (psames ((ptold u0 u1).1) (⟨[], 0, 0, 0, false⟩ : Sender))) && (psames ((pnext u0).1) (⟨[], 0, 0, 0, false⟩ : Sender))) && ((((pnext u0).2.1).length : Int) == 0)))) ∧
      (((pchecks u0) != 0) = false →
        ((((u1.length : Int) != 3) = true →
          (((((((ptold u0 u1).2) != 4) || (!(psames ((ptold u0 u1).1) (⟨[], 0, 0, 0, false⟩ : Sender)))) || false) = true →
            (K false)) ∧
          ((((((ptold u0 u1).2) != 4) || (!(psames ((ptold u0 u1).1) (⟨[], 0, 0, 0, false⟩ : Sender)))) || false) = false →
            (((u0.Done || (u0.Left == (-1))) = true →
              (K (((((pnext u0).2.2) == 12) && (psames ((pnext u0).1) (⟨[], 0, 0, 0, false⟩ : Sender))) && ((((pnext u0).2.1).length : Int) == 0)))) ∧
            ((u0.Done || (u0.Left == (-1))) = false →
              ((u0.Data.length ≤ 300) ∧
              ((ppartsofS u0.Data).length ≤ 140737488355328 →
              ((((min (w64 (u0.At + 7)) (u0.Data.length : Int)) == (u0.Data.length : Int)) = true →
                (((((pnext u0).2.2) == 0) = true →
                  ((0 ≤ w64 ((w64 ((w64 (u0.At - 6)).tdiv 7)) + 1) ∧ w64 ((w64 ((w64 (u0.At - 6)).tdiv 7)) + 1) < ((ppartsofS u0.Data).length : Int)) ∧
                  (∀ q490, (ppartsofS u0.Data)[(w64 ((w64 ((w64 (u0.At - 6)).tdiv 7)) + 1)).toNat]? = some q490 →
                  (q490.length ≤ 140737488355328 →
                  (K ((beqS ((pnext u0).2.1) q490) && (psames ((pnext u0).1) (⟨u0.Data, min (w64 (u0.At + 7)) (u0.Data.length : Int), (w64 (u0.Next + 1)).tmod 16, 0, (min (w64 (u0.At + 7)) (u0.Data.length : Int)) == (u0.Data.length : Int)⟩ : Sender)))))))) ∧
                ((((pnext u0).2.2) == 0) = false →
                  (K false)))) ∧
              (((min (w64 (u0.At + 7)) (u0.Data.length : Int)) == (u0.Data.length : Int)) = false →
                (((u0.Left == 1) = true →
                  (((((pnext u0).2.2) == 0) = true →
                    ((0 ≤ w64 ((w64 ((w64 (u0.At - 6)).tdiv 7)) + 1) ∧ w64 ((w64 ((w64 (u0.At - 6)).tdiv 7)) + 1) < ((ppartsofS u0.Data).length : Int)) ∧
                    (∀ q598, (ppartsofS u0.Data)[(w64 ((w64 ((w64 (u0.At - 6)).tdiv 7)) + 1)).toNat]? = some q598 →
                    (q598.length ≤ 140737488355328 →
                    (K ((beqS ((pnext u0).2.1) q598) && (psames ((pnext u0).1) (⟨u0.Data, min (w64 (u0.At + 7)) (u0.Data.length : Int), (w64 (u0.Next + 1)).tmod 16, -1, (min (w64 (u0.At + 7)) (u0.Data.length : Int)) == (u0.Data.length : Int)⟩ : Sender)))))))) ∧
                  ((((pnext u0).2.2) == 0) = false →
                    (K false)))) ∧
                ((u0.Left == 1) = false →
                  (((decide (u0.Left > 1)) = true →
                    (((((pnext u0).2.2) == 0) = true →
                      ((0 ≤ w64 ((w64 ((w64 (u0.At - 6)).tdiv 7)) + 1) ∧ w64 ((w64 ((w64 (u0.At - 6)).tdiv 7)) + 1) < ((ppartsofS u0.Data).length : Int)) ∧
                      (∀ q711, (ppartsofS u0.Data)[(w64 ((w64 ((w64 (u0.At - 6)).tdiv 7)) + 1)).toNat]? = some q711 →
                      (q711.length ≤ 140737488355328 →
                      (K ((beqS ((pnext u0).2.1) q711) && (psames ((pnext u0).1) (⟨u0.Data, min (w64 (u0.At + 7)) (u0.Data.length : Int), (w64 (u0.Next + 1)).tmod 16, w64 (u0.Left - 1), (min (w64 (u0.At + 7)) (u0.Data.length : Int)) == (u0.Data.length : Int)⟩ : Sender)))))))) ∧
                    ((((pnext u0).2.2) == 0) = false →
                      (K false)))) ∧
                  ((decide (u0.Left > 1)) = false →
                    (((((pnext u0).2.2) == 0) = true →
                      ((0 ≤ w64 ((w64 ((w64 (u0.At - 6)).tdiv 7)) + 1) ∧ w64 ((w64 ((w64 (u0.At - 6)).tdiv 7)) + 1) < ((ppartsofS u0.Data).length : Int)) ∧
                      (∀ q803, (ppartsofS u0.Data)[(w64 ((w64 ((w64 (u0.At - 6)).tdiv 7)) + 1)).toNat]? = some q803 →
                      (q803.length ≤ 140737488355328 →
                      (K ((beqS ((pnext u0).2.1) q803) && (psames ((pnext u0).1) (⟨u0.Data, min (w64 (u0.At + 7)) (u0.Data.length : Int), (w64 (u0.Next + 1)).tmod 16, u0.Left, (min (w64 (u0.At + 7)) (u0.Data.length : Int)) == (u0.Data.length : Int)⟩ : Sender)))))))) ∧
                    ((((pnext u0).2.2) == 0) = false →
                      (K false)))))))))))))))) ∧
        (((u1.length : Int) != 3) = false →
          ((0 ≤ (0 : Int) ∧ (0 : Int) < (u1.length : Int)) ∧
          (∀ q874, u1[(0 : Int).toNat]? = some q874 →
          (((decide (q874 < 48)) = true →
            (((((((ptold u0 u1).2) != 4) || (!(psames ((ptold u0 u1).1) (⟨[], 0, 0, 0, false⟩ : Sender)))) || false) = true →
              (K false)) ∧
            ((((((ptold u0 u1).2) != 4) || (!(psames ((ptold u0 u1).1) (⟨[], 0, 0, 0, false⟩ : Sender)))) || false) = false →
              (((u0.Done || (u0.Left == (-1))) = true →
                (K (((((pnext u0).2.2) == 12) && (psames ((pnext u0).1) (⟨[], 0, 0, 0, false⟩ : Sender))) && ((((pnext u0).2.1).length : Int) == 0)))) ∧
              ((u0.Done || (u0.Left == (-1))) = false →
                ((u0.Data.length ≤ 300) ∧
                ((ppartsofS u0.Data).length ≤ 140737488355328 →
                ((((min (w64 (u0.At + 7)) (u0.Data.length : Int)) == (u0.Data.length : Int)) = true →
                  (((((pnext u0).2.2) == 0) = true →
                    ((0 ≤ w64 ((w64 ((w64 (u0.At - 6)).tdiv 7)) + 1) ∧ w64 ((w64 ((w64 (u0.At - 6)).tdiv 7)) + 1) < ((ppartsofS u0.Data).length : Int)) ∧
                    (∀ q1158, (ppartsofS u0.Data)[(w64 ((w64 ((w64 (u0.At - 6)).tdiv 7)) + 1)).toNat]? = some q1158 →
                    (q1158.length ≤ 140737488355328 →
                    (K ((beqS ((pnext u0).2.1) q1158) && (psames ((pnext u0).1) (⟨u0.Data, min (w64 (u0.At + 7)) (u0.Data.length : Int), (w64 (u0.Next + 1)).tmod 16, 0, (min (w64 (u0.At + 7)) (u0.Data.length : Int)) == (u0.Data.length : Int)⟩ : Sender)))))))) ∧
                  ((((pnext u0).2.2) == 0) = false →
                    (K false)))) ∧
                (((min (w64 (u0.At + 7)) (u0.Data.length : Int)) == (u0.Data.length : Int)) = false →
                  (((u0.Left == 1) = true →
                    (((((pnext u0).2.2) == 0) = true →
                      ((0 ≤ w64 ((w64 ((w64 (u0.At - 6)).tdiv 7)) + 1) ∧ w64 ((w64 ((w64 (u0.At - 6)).tdiv 7)) + 1) < ((ppartsofS u0.Data).length : Int)) ∧
                      (∀ q1266, (ppartsofS u0.Data)[(w64 ((w64 ((w64 (u0.At - 6)).tdiv 7)) + 1)).toNat]? = some q1266 →
                      (q1266.length ≤ 140737488355328 →
                      (K ((beqS ((pnext u0).2.1) q1266) && (psames ((pnext u0).1) (⟨u0.Data, min (w64 (u0.At + 7)) (u0.Data.length : Int), (w64 (u0.Next + 1)).tmod 16, -1, (min (w64 (u0.At + 7)) (u0.Data.length : Int)) == (u0.Data.length : Int)⟩ : Sender)))))))) ∧
                    ((((pnext u0).2.2) == 0) = false →
                      (K false)))) ∧
                  ((u0.Left == 1) = false →
                    (((decide (u0.Left > 1)) = true →
                      (((((pnext u0).2.2) == 0) = true →
                        ((0 ≤ w64 ((w64 ((w64 (u0.At - 6)).tdiv 7)) + 1) ∧ w64 ((w64 ((w64 (u0.At - 6)).tdiv 7)) + 1) < ((ppartsofS u0.Data).length : Int)) ∧
                        (∀ q1379, (ppartsofS u0.Data)[(w64 ((w64 ((w64 (u0.At - 6)).tdiv 7)) + 1)).toNat]? = some q1379 →
                        (q1379.length ≤ 140737488355328 →
                        (K ((beqS ((pnext u0).2.1) q1379) && (psames ((pnext u0).1) (⟨u0.Data, min (w64 (u0.At + 7)) (u0.Data.length : Int), (w64 (u0.Next + 1)).tmod 16, w64 (u0.Left - 1), (min (w64 (u0.At + 7)) (u0.Data.length : Int)) == (u0.Data.length : Int)⟩ : Sender)))))))) ∧
                      ((((pnext u0).2.2) == 0) = false →
                        (K false)))) ∧
                    ((decide (u0.Left > 1)) = false →
                      (((((pnext u0).2.2) == 0) = true →
                        ((0 ≤ w64 ((w64 ((w64 (u0.At - 6)).tdiv 7)) + 1) ∧ w64 ((w64 ((w64 (u0.At - 6)).tdiv 7)) + 1) < ((ppartsofS u0.Data).length : Int)) ∧
                        (∀ q1471, (ppartsofS u0.Data)[(w64 ((w64 ((w64 (u0.At - 6)).tdiv 7)) + 1)).toNat]? = some q1471 →
                        (q1471.length ≤ 140737488355328 →
                        (K ((beqS ((pnext u0).2.1) q1471) && (psames ((pnext u0).1) (⟨u0.Data, min (w64 (u0.At + 7)) (u0.Data.length : Int), (w64 (u0.Next + 1)).tmod 16, u0.Left, (min (w64 (u0.At + 7)) (u0.Data.length : Int)) == (u0.Data.length : Int)⟩ : Sender)))))))) ∧
                      ((((pnext u0).2.2) == 0) = false →
                        (K false)))))))))))))))) ∧
          ((decide (q874 < 48)) = false →
            ((0 ≤ (0 : Int) ∧ (0 : Int) < (u1.length : Int)) ∧
            (∀ q1542, u1[(0 : Int).toNat]? = some q1542 →
            (((decide (q1542 > 50)) = true →
              (((((((ptold u0 u1).2) != 4) || (!(psames ((ptold u0 u1).1) (⟨[], 0, 0, 0, false⟩ : Sender)))) || false) = true →
                (K false)) ∧
              ((((((ptold u0 u1).2) != 4) || (!(psames ((ptold u0 u1).1) (⟨[], 0, 0, 0, false⟩ : Sender)))) || false) = false →
                (((u0.Done || (u0.Left == (-1))) = true →
                  (K (((((pnext u0).2.2) == 12) && (psames ((pnext u0).1) (⟨[], 0, 0, 0, false⟩ : Sender))) && ((((pnext u0).2.1).length : Int) == 0)))) ∧
                ((u0.Done || (u0.Left == (-1))) = false →
                  ((u0.Data.length ≤ 300) ∧
                  ((ppartsofS u0.Data).length ≤ 140737488355328 →
                  ((((min (w64 (u0.At + 7)) (u0.Data.length : Int)) == (u0.Data.length : Int)) = true →
                    (((((pnext u0).2.2) == 0) = true →
                      ((0 ≤ w64 ((w64 ((w64 (u0.At - 6)).tdiv 7)) + 1) ∧ w64 ((w64 ((w64 (u0.At - 6)).tdiv 7)) + 1) < ((ppartsofS u0.Data).length : Int)) ∧
                      (∀ q1811, (ppartsofS u0.Data)[(w64 ((w64 ((w64 (u0.At - 6)).tdiv 7)) + 1)).toNat]? = some q1811 →
                      (q1811.length ≤ 140737488355328 →
                      (K ((beqS ((pnext u0).2.1) q1811) && (psames ((pnext u0).1) (⟨u0.Data, min (w64 (u0.At + 7)) (u0.Data.length : Int), (w64 (u0.Next + 1)).tmod 16, 0, (min (w64 (u0.At + 7)) (u0.Data.length : Int)) == (u0.Data.length : Int)⟩ : Sender)))))))) ∧
                    ((((pnext u0).2.2) == 0) = false →
                      (K false)))) ∧
                  (((min (w64 (u0.At + 7)) (u0.Data.length : Int)) == (u0.Data.length : Int)) = false →
                    (((u0.Left == 1) = true →
                      (((((pnext u0).2.2) == 0) = true →
                        ((0 ≤ w64 ((w64 ((w64 (u0.At - 6)).tdiv 7)) + 1) ∧ w64 ((w64 ((w64 (u0.At - 6)).tdiv 7)) + 1) < ((ppartsofS u0.Data).length : Int)) ∧
                        (∀ q1919, (ppartsofS u0.Data)[(w64 ((w64 ((w64 (u0.At - 6)).tdiv 7)) + 1)).toNat]? = some q1919 →
                        (q1919.length ≤ 140737488355328 →
                        (K ((beqS ((pnext u0).2.1) q1919) && (psames ((pnext u0).1) (⟨u0.Data, min (w64 (u0.At + 7)) (u0.Data.length : Int), (w64 (u0.Next + 1)).tmod 16, -1, (min (w64 (u0.At + 7)) (u0.Data.length : Int)) == (u0.Data.length : Int)⟩ : Sender)))))))) ∧
                      ((((pnext u0).2.2) == 0) = false →
                        (K false)))) ∧
                    ((u0.Left == 1) = false →
                      (((decide (u0.Left > 1)) = true →
                        (((((pnext u0).2.2) == 0) = true →
                          ((0 ≤ w64 ((w64 ((w64 (u0.At - 6)).tdiv 7)) + 1) ∧ w64 ((w64 ((w64 (u0.At - 6)).tdiv 7)) + 1) < ((ppartsofS u0.Data).length : Int)) ∧
                          (∀ q2032, (ppartsofS u0.Data)[(w64 ((w64 ((w64 (u0.At - 6)).tdiv 7)) + 1)).toNat]? = some q2032 →
                          (q2032.length ≤ 140737488355328 →
                          (K ((beqS ((pnext u0).2.1) q2032) && (psames ((pnext u0).1) (⟨u0.Data, min (w64 (u0.At + 7)) (u0.Data.length : Int), (w64 (u0.Next + 1)).tmod 16, w64 (u0.Left - 1), (min (w64 (u0.At + 7)) (u0.Data.length : Int)) == (u0.Data.length : Int)⟩ : Sender)))))))) ∧
                        ((((pnext u0).2.2) == 0) = false →
                          (K false)))) ∧
                      ((decide (u0.Left > 1)) = false →
                        (((((pnext u0).2.2) == 0) = true →
                          ((0 ≤ w64 ((w64 ((w64 (u0.At - 6)).tdiv 7)) + 1) ∧ w64 ((w64 ((w64 (u0.At - 6)).tdiv 7)) + 1) < ((ppartsofS u0.Data).length : Int)) ∧
                          (∀ q2124, (ppartsofS u0.Data)[(w64 ((w64 ((w64 (u0.At - 6)).tdiv 7)) + 1)).toNat]? = some q2124 →
                          (q2124.length ≤ 140737488355328 →
                          (K ((beqS ((pnext u0).2.1) q2124) && (psames ((pnext u0).1) (⟨u0.Data, min (w64 (u0.At + 7)) (u0.Data.length : Int), (w64 (u0.Next + 1)).tmod 16, u0.Left, (min (w64 (u0.At + 7)) (u0.Data.length : Int)) == (u0.Data.length : Int)⟩ : Sender)))))))) ∧
                        ((((pnext u0).2.2) == 0) = false →
                          (K false)))))))))))))))) ∧
            ((decide (q1542 > 50)) = false →
              (((u0.Done || (u0.Left != (-1))) = true →
                (((((((ptold u0 u1).2) != 12) || (!(psames ((ptold u0 u1).1) (⟨[], 0, 0, 0, false⟩ : Sender)))) || false) = true →
                  (K false)) ∧
                ((((((ptold u0 u1).2) != 12) || (!(psames ((ptold u0 u1).1) (⟨[], 0, 0, 0, false⟩ : Sender)))) || false) = false →
                  (((u0.Done || (u0.Left == (-1))) = true →
                    (K (((((pnext u0).2.2) == 12) && (psames ((pnext u0).1) (⟨[], 0, 0, 0, false⟩ : Sender))) && ((((pnext u0).2.1).length : Int) == 0)))) ∧
                  ((u0.Done || (u0.Left == (-1))) = false →
                    ((u0.Data.length ≤ 300) ∧
                    ((ppartsofS u0.Data).length ≤ 140737488355328 →
                    ((((min (w64 (u0.At + 7)) (u0.Data.length : Int)) == (u0.Data.length : Int)) = true →
                      (((((pnext u0).2.2) == 0) = true →
                        ((0 ≤ w64 ((w64 ((w64 (u0.At - 6)).tdiv 7)) + 1) ∧ w64 ((w64 ((w64 (u0.At - 6)).tdiv 7)) + 1) < ((ppartsofS u0.Data).length : Int)) ∧
                        (∀ q2461, (ppartsofS u0.Data)[(w64 ((w64 ((w64 (u0.At - 6)).tdiv 7)) + 1)).toNat]? = some q2461 →
                        (q2461.length ≤ 140737488355328 →
                        (K ((beqS ((pnext u0).2.1) q2461) && (psames ((pnext u0).1) (⟨u0.Data, min (w64 (u0.At + 7)) (u0.Data.length : Int), (w64 (u0.Next + 1)).tmod 16, 0, (min (w64 (u0.At + 7)) (u0.Data.length : Int)) == (u0.Data.length : Int)⟩ : Sender)))))))) ∧
                      ((((pnext u0).2.2) == 0) = false →
                        (K false)))) ∧
                    (((min (w64 (u0.At + 7)) (u0.Data.length : Int)) == (u0.Data.length : Int)) = false →
                      (((u0.Left == 1) = true →
                        (((((pnext u0).2.2) == 0) = true →
                          ((0 ≤ w64 ((w64 ((w64 (u0.At - 6)).tdiv 7)) + 1) ∧ w64 ((w64 ((w64 (u0.At - 6)).tdiv 7)) + 1) < ((ppartsofS u0.Data).length : Int)) ∧
                          (∀ q2569, (ppartsofS u0.Data)[(w64 ((w64 ((w64 (u0.At - 6)).tdiv 7)) + 1)).toNat]? = some q2569 →
                          (q2569.length ≤ 140737488355328 →
                          (K ((beqS ((pnext u0).2.1) q2569) && (psames ((pnext u0).1) (⟨u0.Data, min (w64 (u0.At + 7)) (u0.Data.length : Int), (w64 (u0.Next + 1)).tmod 16, -1, (min (w64 (u0.At + 7)) (u0.Data.length : Int)) == (u0.Data.length : Int)⟩ : Sender)))))))) ∧
                        ((((pnext u0).2.2) == 0) = false →
                          (K false)))) ∧
                      ((u0.Left == 1) = false →
                        (((decide (u0.Left > 1)) = true →
                          (((((pnext u0).2.2) == 0) = true →
                            ((0 ≤ w64 ((w64 ((w64 (u0.At - 6)).tdiv 7)) + 1) ∧ w64 ((w64 ((w64 (u0.At - 6)).tdiv 7)) + 1) < ((ppartsofS u0.Data).length : Int)) ∧
                            (∀ q2682, (ppartsofS u0.Data)[(w64 ((w64 ((w64 (u0.At - 6)).tdiv 7)) + 1)).toNat]? = some q2682 →
                            (q2682.length ≤ 140737488355328 →
                            (K ((beqS ((pnext u0).2.1) q2682) && (psames ((pnext u0).1) (⟨u0.Data, min (w64 (u0.At + 7)) (u0.Data.length : Int), (w64 (u0.Next + 1)).tmod 16, w64 (u0.Left - 1), (min (w64 (u0.At + 7)) (u0.Data.length : Int)) == (u0.Data.length : Int)⟩ : Sender)))))))) ∧
                          ((((pnext u0).2.2) == 0) = false →
                            (K false)))) ∧
                        ((decide (u0.Left > 1)) = false →
                          (((((pnext u0).2.2) == 0) = true →
                            ((0 ≤ w64 ((w64 ((w64 (u0.At - 6)).tdiv 7)) + 1) ∧ w64 ((w64 ((w64 (u0.At - 6)).tdiv 7)) + 1) < ((ppartsofS u0.Data).length : Int)) ∧
                            (∀ q2774, (ppartsofS u0.Data)[(w64 ((w64 ((w64 (u0.At - 6)).tdiv 7)) + 1)).toNat]? = some q2774 →
                            (q2774.length ≤ 140737488355328 →
                            (K ((beqS ((pnext u0).2.1) q2774) && (psames ((pnext u0).1) (⟨u0.Data, min (w64 (u0.At + 7)) (u0.Data.length : Int), (w64 (u0.Next + 1)).tmod 16, u0.Left, (min (w64 (u0.At + 7)) (u0.Data.length : Int)) == (u0.Data.length : Int)⟩ : Sender)))))))) ∧
                          ((((pnext u0).2.2) == 0) = false →
                            (K false)))))))))))))))) ∧
              ((u0.Done || (u0.Left != (-1))) = false →
                ((0 ≤ (0 : Int) ∧ (0 : Int) < (u1.length : Int)) ∧
                (∀ q2847, u1[(0 : Int).toNat]? = some q2847 →
                (((q2847 == 50) = true →
                  (((((((ptold u0 u1).2) != 11) || (!(psames ((ptold u0 u1).1) (⟨[], 0, 0, 0, false⟩ : Sender)))) || false) = true →
                    (K false)) ∧
                  ((((((ptold u0 u1).2) != 11) || (!(psames ((ptold u0 u1).1) (⟨[], 0, 0, 0, false⟩ : Sender)))) || false) = false →
                    (((u0.Done || (u0.Left == (-1))) = true →
                      (K (((((pnext u0).2.2) == 12) && (psames ((pnext u0).1) (⟨[], 0, 0, 0, false⟩ : Sender))) && ((((pnext u0).2.1).length : Int) == 0)))) ∧
                    ((u0.Done || (u0.Left == (-1))) = false →
                      ((u0.Data.length ≤ 300) ∧
                      ((ppartsofS u0.Data).length ≤ 140737488355328 →
                      ((((min (w64 (u0.At + 7)) (u0.Data.length : Int)) == (u0.Data.length : Int)) = true →
                        (((((pnext u0).2.2) == 0) = true →
                          ((0 ≤ w64 ((w64 ((w64 (u0.At - 6)).tdiv 7)) + 1) ∧ w64 ((w64 ((w64 (u0.At - 6)).tdiv 7)) + 1) < ((ppartsofS u0.Data).length : Int)) ∧
                          (∀ q3113, (ppartsofS u0.Data)[(w64 ((w64 ((w64 (u0.At - 6)).tdiv 7)) + 1)).toNat]? = some q3113 →
                          (q3113.length ≤ 140737488355328 →
                          (K ((beqS ((pnext u0).2.1) q3113) && (psames ((pnext u0).1) (⟨u0.Data, min (w64 (u0.At + 7)) (u0.Data.length : Int), (w64 (u0.Next + 1)).tmod 16, 0, (min (w64 (u0.At + 7)) (u0.Data.length : Int)) == (u0.Data.length : Int)⟩ : Sender)))))))) ∧
                        ((((pnext u0).2.2) == 0) = false →
                          (K false)))) ∧
                      (((min (w64 (u0.At + 7)) (u0.Data.length : Int)) == (u0.Data.length : Int)) = false →
                        (((u0.Left == 1) = true →
                          (((((pnext u0).2.2) == 0) = true →
                            ((0 ≤ w64 ((w64 ((w64 (u0.At - 6)).tdiv 7)) + 1) ∧ w64 ((w64 ((w64 (u0.At - 6)).tdiv 7)) + 1) < ((ppartsofS u0.Data).length : Int)) ∧
                            (∀ q3221, (ppartsofS u0.Data)[(w64 ((w64 ((w64 (u0.At - 6)).tdiv 7)) + 1)).toNat]? = some q3221 →
                            (q3221.length ≤ 140737488355328 →
                            (K ((beqS ((pnext u0).2.1) q3221) && (psames ((pnext u0).1) (⟨u0.Data, min (w64 (u0.At + 7)) (u0.Data.length : Int), (w64 (u0.Next + 1)).tmod 16, -1, (min (w64 (u0.At + 7)) (u0.Data.length : Int)) == (u0.Data.length : Int)⟩ : Sender)))))))) ∧
                          ((((pnext u0).2.2) == 0) = false →
                            (K false)))) ∧
                        ((u0.Left == 1) = false →
                          (((decide (u0.Left > 1)) = true →
                            (((((pnext u0).2.2) == 0) = true →
                              ((0 ≤ w64 ((w64 ((w64 (u0.At - 6)).tdiv 7)) + 1) ∧ w64 ((w64 ((w64 (u0.At - 6)).tdiv 7)) + 1) < ((ppartsofS u0.Data).length : Int)) ∧
                              (∀ q3334, (ppartsofS u0.Data)[(w64 ((w64 ((w64 (u0.At - 6)).tdiv 7)) + 1)).toNat]? = some q3334 →
                              (q3334.length ≤ 140737488355328 →
                              (K ((beqS ((pnext u0).2.1) q3334) && (psames ((pnext u0).1) (⟨u0.Data, min (w64 (u0.At + 7)) (u0.Data.length : Int), (w64 (u0.Next + 1)).tmod 16, w64 (u0.Left - 1), (min (w64 (u0.At + 7)) (u0.Data.length : Int)) == (u0.Data.length : Int)⟩ : Sender)))))))) ∧
                            ((((pnext u0).2.2) == 0) = false →
                              (K false)))) ∧
                          ((decide (u0.Left > 1)) = false →
                            (((((pnext u0).2.2) == 0) = true →
                              ((0 ≤ w64 ((w64 ((w64 (u0.At - 6)).tdiv 7)) + 1) ∧ w64 ((w64 ((w64 (u0.At - 6)).tdiv 7)) + 1) < ((ppartsofS u0.Data).length : Int)) ∧
                              (∀ q3426, (ppartsofS u0.Data)[(w64 ((w64 ((w64 (u0.At - 6)).tdiv 7)) + 1)).toNat]? = some q3426 →
                              (q3426.length ≤ 140737488355328 →
                              (K ((beqS ((pnext u0).2.1) q3426) && (psames ((pnext u0).1) (⟨u0.Data, min (w64 (u0.At + 7)) (u0.Data.length : Int), (w64 (u0.Next + 1)).tmod 16, u0.Left, (min (w64 (u0.At + 7)) (u0.Data.length : Int)) == (u0.Data.length : Int)⟩ : Sender)))))))) ∧
                            ((((pnext u0).2.2) == 0) = false →
                              (K false)))))))))))))))) ∧
                ((q2847 == 50) = false →
                  ((0 ≤ (0 : Int) ∧ (0 : Int) < (u1.length : Int)) ∧
                  (∀ q3498, u1[(0 : Int).toNat]? = some q3498 →
                  (((q3498 == 48) = true →
                    ((0 ≤ (1 : Int) ∧ (1 : Int) < (u1.length : Int)) ∧
                    (∀ q3521, u1[(1 : Int).toNat]? = some q3521 →
                    (((((((ptold u0 u1).2) != (pchecks u0)) || (((pchecks u0) != 0) && (!(psames ((ptold u0 u1).1) (⟨[], 0, 0, 0, false⟩ : Sender))))) || (((pchecks u0) == 0) && (!(psames ((ptold u0 u1).1) (⟨u0.Data, u0.At, u0.Next, w64 q3521, u0.Done⟩ : Sender))))) = true →
                      (K false)) ∧
                    ((((((ptold u0 u1).2) != (pchecks u0)) || (((pchecks u0) != 0) && (!(psames ((ptold u0 u1).1) (⟨[], 0, 0, 0, false⟩ : Sender))))) || (((pchecks u0) == 0) && (!(psames ((ptold u0 u1).1) (⟨u0.Data, u0.At, u0.Next, w64 q3521, u0.Done⟩ : Sender))))) = false →
                      (((u0.Done || (u0.Left == (-1))) = true →
                        (K (((((pnext u0).2.2) == 12) && (psames ((pnext u0).1) (⟨[], 0, 0, 0, false⟩ : Sender))) && ((((pnext u0).2.1).length : Int) == 0)))) ∧
                      ((u0.Done || (u0.Left == (-1))) = false →
                        ((u0.Data.length ≤ 300) ∧
                        ((ppartsofS u0.Data).length ≤ 140737488355328 →
                        ((((min (w64 (u0.At + 7)) (u0.Data.length : Int)) == (u0.Data.length : Int)) = true →
                          (((((pnext u0).2.2) == 0) = true →
                            ((0 ≤ w64 ((w64 ((w64 (u0.At - 6)).tdiv 7)) + 1) ∧ w64 ((w64 ((w64 (u0.At - 6)).tdiv 7)) + 1) < ((ppartsofS u0.Data).length : Int)) ∧
                            (∀ q3786, (ppartsofS u0.Data)[(w64 ((w64 ((w64 (u0.At - 6)).tdiv 7)) + 1)).toNat]? = some q3786 →
                            (q3786.length ≤ 140737488355328 →
                            (K ((beqS ((pnext u0).2.1) q3786) && (psames ((pnext u0).1) (⟨u0.Data, min (w64 (u0.At + 7)) (u0.Data.length : Int), (w64 (u0.Next + 1)).tmod 16, 0, (min (w64 (u0.At + 7)) (u0.Data.length : Int)) == (u0.Data.length : Int)⟩ : Sender)))))))) ∧
                          ((((pnext u0).2.2) == 0) = false →
                            (K false)))) ∧
                        (((min (w64 (u0.At + 7)) (u0.Data.length : Int)) == (u0.Data.length : Int)) = false →
                          (((u0.Left == 1) = true →
                            (((((pnext u0).2.2) == 0) = true →
                              ((0 ≤ w64 ((w64 ((w64 (u0.At - 6)).tdiv 7)) + 1) ∧ w64 ((w64 ((w64 (u0.At - 6)).tdiv 7)) + 1) < ((ppartsofS u0.Data).length : Int)) ∧
                              (∀ q3894, (ppartsofS u0.Data)[(w64 ((w64 ((w64 (u0.At - 6)).tdiv 7)) + 1)).toNat]? = some q3894 →
                              (q3894.length ≤ 140737488355328 →
                              (K ((beqS ((pnext u0).2.1) q3894) && (psames ((pnext u0).1) (⟨u0.Data, min (w64 (u0.At + 7)) (u0.Data.length : Int), (w64 (u0.Next + 1)).tmod 16, -1, (min (w64 (u0.At + 7)) (u0.Data.length : Int)) == (u0.Data.length : Int)⟩ : Sender)))))))) ∧
                            ((((pnext u0).2.2) == 0) = false →
                              (K false)))) ∧
                          ((u0.Left == 1) = false →
                            (((decide (u0.Left > 1)) = true →
                              (((((pnext u0).2.2) == 0) = true →
                                ((0 ≤ w64 ((w64 ((w64 (u0.At - 6)).tdiv 7)) + 1) ∧ w64 ((w64 ((w64 (u0.At - 6)).tdiv 7)) + 1) < ((ppartsofS u0.Data).length : Int)) ∧
                                (∀ q4007, (ppartsofS u0.Data)[(w64 ((w64 ((w64 (u0.At - 6)).tdiv 7)) + 1)).toNat]? = some q4007 →
                                (q4007.length ≤ 140737488355328 →
                                (K ((beqS ((pnext u0).2.1) q4007) && (psames ((pnext u0).1) (⟨u0.Data, min (w64 (u0.At + 7)) (u0.Data.length : Int), (w64 (u0.Next + 1)).tmod 16, w64 (u0.Left - 1), (min (w64 (u0.At + 7)) (u0.Data.length : Int)) == (u0.Data.length : Int)⟩ : Sender)))))))) ∧
                              ((((pnext u0).2.2) == 0) = false →
                                (K false)))) ∧
                            ((decide (u0.Left > 1)) = false →
                              (((((pnext u0).2.2) == 0) = true →
                                ((0 ≤ w64 ((w64 ((w64 (u0.At - 6)).tdiv 7)) + 1) ∧ w64 ((w64 ((w64 (u0.At - 6)).tdiv 7)) + 1) < ((ppartsofS u0.Data).length : Int)) ∧
                                (∀ q4099, (ppartsofS u0.Data)[(w64 ((w64 ((w64 (u0.At - 6)).tdiv 7)) + 1)).toNat]? = some q4099 →
                                (q4099.length ≤ 140737488355328 →
                                (K ((beqS ((pnext u0).2.1) q4099) && (psames ((pnext u0).1) (⟨u0.Data, min (w64 (u0.At + 7)) (u0.Data.length : Int), (w64 (u0.Next + 1)).tmod 16, u0.Left, (min (w64 (u0.At + 7)) (u0.Data.length : Int)) == (u0.Data.length : Int)⟩ : Sender)))))))) ∧
                              ((((pnext u0).2.2) == 0) = false →
                                (K false)))))))))))))))))) ∧
                  ((q3498 == 48) = false →
                    (((((((ptold u0 u1).2) != (pchecks u0)) || (((pchecks u0) != 0) && (!(psames ((ptold u0 u1).1) (⟨[], 0, 0, 0, false⟩ : Sender))))) || (((pchecks u0) == 0) && (!(psames ((ptold u0 u1).1) u0)))) = true →
                      (K false)) ∧
                    ((((((ptold u0 u1).2) != (pchecks u0)) || (((pchecks u0) != 0) && (!(psames ((ptold u0 u1).1) (⟨[], 0, 0, 0, false⟩ : Sender))))) || (((pchecks u0) == 0) && (!(psames ((ptold u0 u1).1) u0)))) = false →
                      (((u0.Done || (u0.Left == (-1))) = true →
                        (K (((((pnext u0).2.2) == 12) && (psames ((pnext u0).1) (⟨[], 0, 0, 0, false⟩ : Sender))) && ((((pnext u0).2.1).length : Int) == 0)))) ∧
                      ((u0.Done || (u0.Left == (-1))) = false →
                        ((u0.Data.length ≤ 300) ∧
                        ((ppartsofS u0.Data).length ≤ 140737488355328 →
                        ((((min (w64 (u0.At + 7)) (u0.Data.length : Int)) == (u0.Data.length : Int)) = true →
                          (((((pnext u0).2.2) == 0) = true →
                            ((0 ≤ w64 ((w64 ((w64 (u0.At - 6)).tdiv 7)) + 1) ∧ w64 ((w64 ((w64 (u0.At - 6)).tdiv 7)) + 1) < ((ppartsofS u0.Data).length : Int)) ∧
                            (∀ q4411, (ppartsofS u0.Data)[(w64 ((w64 ((w64 (u0.At - 6)).tdiv 7)) + 1)).toNat]? = some q4411 →
                            (q4411.length ≤ 140737488355328 →
                            (K ((beqS ((pnext u0).2.1) q4411) && (psames ((pnext u0).1) (⟨u0.Data, min (w64 (u0.At + 7)) (u0.Data.length : Int), (w64 (u0.Next + 1)).tmod 16, 0, (min (w64 (u0.At + 7)) (u0.Data.length : Int)) == (u0.Data.length : Int)⟩ : Sender)))))))) ∧
                          ((((pnext u0).2.2) == 0) = false →
                            (K false)))) ∧
                        (((min (w64 (u0.At + 7)) (u0.Data.length : Int)) == (u0.Data.length : Int)) = false →
                          (((u0.Left == 1) = true →
                            (((((pnext u0).2.2) == 0) = true →
                              ((0 ≤ w64 ((w64 ((w64 (u0.At - 6)).tdiv 7)) + 1) ∧ w64 ((w64 ((w64 (u0.At - 6)).tdiv 7)) + 1) < ((ppartsofS u0.Data).length : Int)) ∧
                              (∀ q4519, (ppartsofS u0.Data)[(w64 ((w64 ((w64 (u0.At - 6)).tdiv 7)) + 1)).toNat]? = some q4519 →
                              (q4519.length ≤ 140737488355328 →
                              (K ((beqS ((pnext u0).2.1) q4519) && (psames ((pnext u0).1) (⟨u0.Data, min (w64 (u0.At + 7)) (u0.Data.length : Int), (w64 (u0.Next + 1)).tmod 16, -1, (min (w64 (u0.At + 7)) (u0.Data.length : Int)) == (u0.Data.length : Int)⟩ : Sender)))))))) ∧
                            ((((pnext u0).2.2) == 0) = false →
                              (K false)))) ∧
                          ((u0.Left == 1) = false →
                            (((decide (u0.Left > 1)) = true →
                              (((((pnext u0).2.2) == 0) = true →
                                ((0 ≤ w64 ((w64 ((w64 (u0.At - 6)).tdiv 7)) + 1) ∧ w64 ((w64 ((w64 (u0.At - 6)).tdiv 7)) + 1) < ((ppartsofS u0.Data).length : Int)) ∧
                                (∀ q4632, (ppartsofS u0.Data)[(w64 ((w64 ((w64 (u0.At - 6)).tdiv 7)) + 1)).toNat]? = some q4632 →
                                (q4632.length ≤ 140737488355328 →
                                (K ((beqS ((pnext u0).2.1) q4632) && (psames ((pnext u0).1) (⟨u0.Data, min (w64 (u0.At + 7)) (u0.Data.length : Int), (w64 (u0.Next + 1)).tmod 16, w64 (u0.Left - 1), (min (w64 (u0.At + 7)) (u0.Data.length : Int)) == (u0.Data.length : Int)⟩ : Sender)))))))) ∧
                              ((((pnext u0).2.2) == 0) = false →
                                (K false)))) ∧
                            ((decide (u0.Left > 1)) = false →
                              (((((pnext u0).2.2) == 0) = true →
                                ((0 ≤ w64 ((w64 ((w64 (u0.At - 6)).tdiv 7)) + 1) ∧ w64 ((w64 ((w64 (u0.At - 6)).tdiv 7)) + 1) < ((ppartsofS u0.Data).length : Int)) ∧
                                (∀ q4724, (ppartsofS u0.Data)[(w64 ((w64 ((w64 (u0.At - 6)).tdiv 7)) + 1)).toNat]? = some q4724 →
                                (q4724.length ≤ 140737488355328 →
                                (K ((beqS ((pnext u0).2.1) q4724) && (psames ((pnext u0).1) (⟨u0.Data, min (w64 (u0.At + 7)) (u0.Data.length : Int), (w64 (u0.Next + 1)).tmod 16, u0.Left, (min (w64 (u0.At + 7)) (u0.Data.length : Int)) == (u0.Data.length : Int)⟩ : Sender)))))))) ∧
                              ((((pnext u0).2.2) == 0) = false →
                                (K false))))))))))))))))))))))))))))))))))))))))))))
theorem LPTold_mono {u0 : Sender} {u1 : List Int} {K K1 : Bool → Prop} (hK : ∀ r, K r → K1 r) (h : LPTold_vc u0 u1 K) : LPTold_vc u0 u1 K1 :=
  fun z0 => fun z1 => fun z2 => fun z3 => fun z4 => ⟨fun c5 => hK _ ((((((h z0) z1) z2) z3) z4).1 c5), fun c5 => ⟨fun c6 => hK _ (((((((h z0) z1) z2) z3) z4).2 c5).1 c6), fun c6 => ⟨fun c7 => ⟨fun c8 => hK _ (((((((((h z0) z1) z2) z3) z4).2 c5).2 c6).1 c7).1 c8), fun c8 => ⟨fun c9 => hK _ ((((((((((h z0) z1) z2) z3) z4).2 c5).2 c6).1 c7).2 c8).1 c9), fun c9 => ⟨((((((((((h z0) z1) z2) z3) z4).2 c5).2 c6).1 c7).2 c8).2 c9).1, fun z11 => ⟨fun c12 => ⟨fun c13 => ⟨((((((((((((((h z0) z1) z2) z3) z4).2 c5).2 c6).1 c7).2 c8).2 c9).2) z11).1 c12).1 c13).1, fun q490 z15 => fun z16 => hK _ (((((((((((((((((h z0) z1) z2) z3) z4).2 c5).2 c6).1 c7).2 c8).2 c9).2) z11).1 c12).1 c13).2) q490 z15) z16)⟩, fun c13 => hK _ ((((((((((((((h z0) z1) z2) z3) z4).2 c5).2 c6).1 c7).2 c8).2 c9).2) z11).1 c12).2 c13)⟩, fun c12 => ⟨fun c13 => ⟨fun c14 => ⟨(((((((((((((((h z0) z1) z2) z3) z4).2 c5).2 c6).1 c7).2 c8).2 c9).2) z11).2 c12).1 c13).1 c14).1, fun q598 z16 => fun z17 => hK _ ((((((((((((((((((h z0) z1) z2) z3) z4).2 c5).2 c6).1 c7).2 c8).2 c9).2) z11).2 c12).1 c13).1 c14).2) q598 z16) z17)⟩, fun c14 => hK _ (((((((((((((((h z0) z1) z2) z3) z4).2 c5).2 c6).1 c7).2 c8).2 c9).2) z11).2 c12).1 c13).2 c14)⟩, fun c13 => ⟨fun c14 => ⟨fun c15 => ⟨((((((((((((((((h z0) z1) z2) z3) z4).2 c5).2 c6).1 c7).2 c8).2 c9).2) z11).2 c12).2 c13).1 c14).1 c15).1, fun q711 z17 => fun z18 => hK _ (((((((((((((((((((h z0) z1) z2) z3) z4).2 c5).2 c6).1 c7).2 c8).2 c9).2) z11).2 c12).2 c13).1 c14).1 c15).2) q711 z17) z18)⟩, fun c15 => hK _ ((((((((((((((((h z0) z1) z2) z3) z4).2 c5).2 c6).1 c7).2 c8).2 c9).2) z11).2 c12).2 c13).1 c14).2 c15)⟩, fun c14 => ⟨fun c15 => ⟨((((((((((((((((h z0) z1) z2) z3) z4).2 c5).2 c6).1 c7).2 c8).2 c9).2) z11).2 c12).2 c13).2 c14).1 c15).1, fun q803 z17 => fun z18 => hK _ (((((((((((((((((((h z0) z1) z2) z3) z4).2 c5).2 c6).1 c7).2 c8).2 c9).2) z11).2 c12).2 c13).2 c14).1 c15).2) q803 z17) z18)⟩, fun c15 => hK _ ((((((((((((((((h z0) z1) z2) z3) z4).2 c5).2 c6).1 c7).2 c8).2 c9).2) z11).2 c12).2 c13).2 c14).2 c15)⟩⟩⟩⟩⟩⟩⟩, fun c7 => ⟨((((((((h z0) z1) z2) z3) z4).2 c5).2 c6).2 c7).1, fun q874 z9 => ⟨fun c10 => ⟨fun c11 => hK _ ((((((((((((h z0) z1) z2) z3) z4).2 c5).2 c6).2 c7).2) q874 z9).1 c10).1 c11), fun c11 => ⟨fun c12 => hK _ (((((((((((((h z0) z1) z2) z3) z4).2 c5).2 c6).2 c7).2) q874 z9).1 c10).2 c11).1 c12), fun c12 => ⟨(((((((((((((h z0) z1) z2) z3) z4).2 c5).2 c6).2 c7).2) q874 z9).1 c10).2 c11).2 c12).1, fun z14 => ⟨fun c15 => ⟨fun c16 => ⟨(((((((((((((((((h z0) z1) z2) z3) z4).2 c5).2 c6).2 c7).2) q874 z9).1 c10).2 c11).2 c12).2) z14).1 c15).1 c16).1, fun q1158 z18 => fun z19 => hK _ ((((((((((((((((((((h z0) z1) z2) z3) z4).2 c5).2 c6).2 c7).2) q874 z9).1 c10).2 c11).2 c12).2) z14).1 c15).1 c16).2) q1158 z18) z19)⟩, fun c16 => hK _ (((((((((((((((((h z0) z1) z2) z3) z4).2 c5).2 c6).2 c7).2) q874 z9).1 c10).2 c11).2 c12).2) z14).1 c15).2 c16)⟩, fun c15 => ⟨fun c16 => ⟨fun c17 => ⟨((((((((((((((((((h z0) z1) z2) z3) z4).2 c5).2 c6).2 c7).2) q874 z9).1 c10).2 c11).2 c12).2) z14).2 c15).1 c16).1 c17).1, fun q1266 z19 => fun z20 => hK _ (((((((((((((((((((((h z0) z1) z2) z3) z4).2 c5).2 c6).2 c7).2) q874 z9).1 c10).2 c11).2 c12).2) z14).2 c15).1 c16).1 c17).2) q1266 z19) z20)⟩, fun c17 => hK _ ((((((((((((((((((h z0) z1) z2) z3) z4).2 c5).2 c6).2 c7).2) q874 z9).1 c10).2 c11).2 c12).2) z14).2 c15).1 c16).2 c17)⟩, fun c16 => ⟨fun c17 => ⟨fun c18 => ⟨(((((((((((((((((((h z0) z1) z2) z3) z4).2 c5).2 c6).2 c7).2) q874 z9).1 c10).2 c11).2 c12).2) z14).2 c15).2 c16).1 c17).1 c18).1, fun q1379 z20 => fun z21 => hK _ ((((((((((((((((((((((h z0) z1) z2) z3) z4).2 c5).2 c6).2 c7).2) q874 z9).1 c10).2 c11).2 c12).2) z14).2 c15).2 c16).1 c17).1 c18).2) q1379 z20) z21)⟩, fun c18 => hK _ (((((((((((((((((((h z0) z1) z2) z3) z4).2 c5).2 c6).2 c7).2) q874 z9).1 c10).2 c11).2 c12).2) z14).2 c15).2 c16).1 c17).2 c18)⟩, fun c17 => ⟨fun c18 => ⟨(((((((((((((((((((h z0) z1) z2) z3) z4).2 c5).2 c6).2 c7).2) q874 z9).1 c10).2 c11).2 c12).2) z14).2 c15).2 c16).2 c17).1 c18).1, fun q1471 z20 => fun z21 => hK _ ((((((((((((((((((((((h z0) z1) z2) z3) z4).2 c5).2 c6).2 c7).2) q874 z9).1 c10).2 c11).2 c12).2) z14).2 c15).2 c16).2 c17).1 c18).2) q1471 z20) z21)⟩, fun c18 => hK _ (((((((((((((((((((h z0) z1) z2) z3) z4).2 c5).2 c6).2 c7).2) q874 z9).1 c10).2 c11).2 c12).2) z14).2 c15).2 c16).2 c17).2 c18)⟩⟩⟩⟩⟩⟩⟩, fun c10 => ⟨(((((((((((h z0) z1) z2) z3) z4).2 c5).2 c6).2 c7).2) q874 z9).2 c10).1, fun q1542 z12 => ⟨fun c13 => ⟨fun c14 => hK _ (((((((((((((((h z0) z1) z2) z3) z4).2 c5).2 c6).2 c7).2) q874 z9).2 c10).2) q1542 z12).1 c13).1 c14), fun c14 => ⟨fun c15 => hK _ ((((((((((((((((h z0) z1) z2) z3) z4).2 c5).2 c6).2 c7).2) q874 z9).2 c10).2) q1542 z12).1 c13).2 c14).1 c15), fun c15 => ⟨((((((((((((((((h z0) z1) z2) z3) z4).2 c5).2 c6).2 c7).2) q874 z9).2 c10).2) q1542 z12).1 c13).2 c14).2 c15).1, fun z17 => ⟨fun c18 => ⟨fun c19 => ⟨((((((((((((((((((((h z0) z1) z2) z3) z4).2 c5).2 c6).2 c7).2) q874 z9).2 c10).2) q1542 z12).1 c13).2 c14).2 c15).2) z17).1 c18).1 c19).1, fun q1811 z21 => fun z22 => hK _ (((((((((((((((((((((((h z0) z1) z2) z3) z4).2 c5).2 c6).2 c7).2) q874 z9).2 c10).2) q1542 z12).1 c13).2 c14).2 c15).2) z17).1 c18).1 c19).2) q1811 z21) z22)⟩, fun c19 => hK _ ((((((((((((((((((((h z0) z1) z2) z3) z4).2 c5).2 c6).2 c7).2) q874 z9).2 c10).2) q1542 z12).1 c13).2 c14).2 c15).2) z17).1 c18).2 c19)⟩, fun c18 => ⟨fun c19 => ⟨fun c20 => ⟨(((((((((((((((((((((h z0) z1) z2) z3) z4).2 c5).2 c6).2 c7).2) q874 z9).2 c10).2) q1542 z12).1 c13).2 c14).2 c15).2) z17).2 c18).1 c19).1 c20).1, fun q1919 z22 => fun z23 => hK _ ((((((((((((((((((((((((h z0) z1) z2) z3) z4).2 c5).2 c6).2 c7).2) q874 z9).2 c10).2) q1542 z12).1 c13).2 c14).2 c15).2) z17).2 c18).1 c19).1 c20).2) q1919 z22) z23)⟩, fun c20 => hK _ (((((((((((((((((((((h z0) z1) z2) z3) z4).2 c5).2 c6).2 c7).2) q874 z9).2 c10).2) q1542 z12).1 c13).2 c14).2 c15).2) z17).2 c18).1 c19).2 c20)⟩, fun c19 => ⟨fun c20 => ⟨fun c21 => ⟨((((((((((((((((((((((h z0) z1) z2) z3) z4).2 c5).2 c6).2 c7).2) q874 z9).2 c10).2) q1542 z12).1 c13).2 c14).2 c15).2) z17).2 c18).2 c19).1 c20).1 c21).1, fun q2032 z23 => fun z24 => hK _ (((((((((((((((((((((((((h z0) z1) z2) z3) z4).2 c5).2 c6).2 c7).2) q874 z9).2 c10).2) q1542 z12).1 c13).2 c14).2 c15).2) z17).2 c18).2 c19).1 c20).1 c21).2) q2032 z23) z24)⟩, fun c21 => hK _ ((((((((((((((((((((((h z0) z1) z2) z3) z4).2 c5).2 c6).2 c7).2) q874 z9).2 c10).2) q1542 z12).1 c13).2 c14).2 c15).2) z17).2 c18).2 c19).1 c20).2 c21)⟩, fun c20 => ⟨fun c21 => ⟨((((((((((((((((((((((h z0) z1) z2) z3) z4).2 c5).2 c6).2 c7).2) q874 z9).2 c10).2) q1542 z12).1 c13).2 c14).2 c15).2) z17).2 c18).2 c19).2 c20).1 c21).1, fun q2124 z23 => fun z24 => hK _ (((((((((((((((((((((((((h z0) z1) z2) z3) z4).2 c5).2 c6).2 c7).2) q874 z9).2 c10).2) q1542 z12).1 c13).2 c14).2 c15).2) z17).2 c18).2 c19).2 c20).1 c21).2) q2124 z23) z24)⟩, fun c21 => hK _ ((((((((((((((((((((((h z0) z1) z2) z3) z4).2 c5).2 c6).2 c7).2) q874 z9).2 c10).2) q1542 z12).1 c13).2 c14).2 c15).2) z17).2 c18).2 c19).2 c20).2 c21)⟩⟩⟩⟩⟩⟩⟩, fun c13 => ⟨fun c14 => ⟨fun c15 => hK _ ((((((((((((((((h z0) z1) z2) z3) z4).2 c5).2 c6).2 c7).2) q874 z9).2 c10).2) q1542 z12).2 c13).1 c14).1 c15), fun c15 => ⟨fun c16 => hK _ (((((((((((((((((h z0) z1) z2) z3) z4).2 c5).2 c6).2 c7).2) q874 z9).2 c10).2) q1542 z12).2 c13).1 c14).2 c15).1 c16), fun c16 => ⟨(((((((((((((((((h z0) z1) z2) z3) z4).2 c5).2 c6).2 c7).2) q874 z9).2 c10).2) q1542 z12).2 c13).1 c14).2 c15).2 c16).1, fun z18 => ⟨fun c19 => ⟨fun c20 => ⟨(((((((((((((((((((((h z0) z1) z2) z3) z4).2 c5).2 c6).2 c7).2) q874 z9).2 c10).2) q1542 z12).2 c13).1 c14).2 c15).2 c16).2) z18).1 c19).1 c20).1, fun q2461 z22 => fun z23 => hK _ ((((((((((((((((((((((((h z0) z1) z2) z3) z4).2 c5).2 c6).2 c7).2) q874 z9).2 c10).2) q1542 z12).2 c13).1 c14).2 c15).2 c16).2) z18).1 c19).1 c20).2) q2461 z22) z23)⟩, fun c20 => hK _ (((((((((((((((((((((h z0) z1) z2) z3) z4).2 c5).2 c6).2 c7).2) q874 z9).2 c10).2) q1542 z12).2 c13).1 c14).2 c15).2 c16).2) z18).1 c19).2 c20)⟩, fun c19 => ⟨fun c20 => ⟨fun c21 => ⟨((((((((((((((((((((((h z0) z1) z2) z3) z4).2 c5).2 c6).2 c7).2) q874 z9).2 c10).2) q1542 z12).2 c13).1 c14).2 c15).2 c16).2) z18).2 c19).1 c20).1 c21).1, fun q2569 z23 => fun z24 => hK _ (((((((((((((((((((((((((h z0) z1) z2) z3) z4).2 c5).2 c6).2 c7).2) q874 z9).2 c10).2) q1542 z12).2 c13).1 c14).2 c15).2 c16).2) z18).2 c19).1 c20).1 c21).2) q2569 z23) z24)⟩, fun c21 => hK _ ((((((((((((((((((((((h z0) z1) z2) z3) z4).2 c5).2 c6).2 c7).2) q874 z9).2 c10).2) q1542 z12).2 c13).1 c14).2 c15).2 c16).2) z18).2 c19).1 c20).2 c21)⟩, fun c20 => ⟨fun c21 => ⟨fun c22 => ⟨(((((((((((((((((((((((h z0) z1) z2) z3) z4).2 c5).2 c6).2 c7).2) q874 z9).2 c10).2) q1542 z12).2 c13).1 c14).2 c15).2 c16).2) z18).2 c19).2 c20).1 c21).1 c22).1, fun q2682 z24 => fun z25 => hK _ ((((((((((((((((((((((((((h z0) z1) z2) z3) z4).2 c5).2 c6).2 c7).2) q874 z9).2 c10).2) q1542 z12).2 c13).1 c14).2 c15).2 c16).2) z18).2 c19).2 c20).1 c21).1 c22).2) q2682 z24) z25)⟩, fun c22 => hK _ (((((((((((((((((((((((h z0) z1) z2) z3) z4).2 c5).2 c6).2 c7).2) q874 z9).2 c10).2) q1542 z12).2 c13).1 c14).2 c15).2 c16).2) z18).2 c19).2 c20).1 c21).2 c22)⟩, fun c21 => ⟨fun c22 => ⟨(((((((((((((((((((((((h z0) z1) z2) z3) z4).2 c5).2 c6).2 c7).2) q874 z9).2 c10).2) q1542 z12).2 c13).1 c14).2 c15).2 c16).2) z18).2 c19).2 c20).2 c21).1 c22).1, fun q2774 z24 => fun z25 => hK _ ((((((((((((((((((((((((((h z0) z1) z2) z3) z4).2 c5).2 c6).2 c7).2) q874 z9).2 c10).2) q1542 z12).2 c13).1 c14).2 c15).2 c16).2) z18).2 c19).2 c20).2 c21).1 c22).2) q2774 z24) z25)⟩, fun c22 => hK _ (((((((((((((((((((((((h z0) z1) z2) z3) z4).2 c5).2 c6).2 c7).2) q874 z9).2 c10).2) q1542 z12).2 c13).1 c14).2 c15).2 c16).2) z18).2 c19).2 c20).2 c21).2 c22)⟩⟩⟩⟩⟩⟩⟩, fun c14 => ⟨(((((((((((((((h z0) z1) z2) z3) z4).2 c5).2 c6).2 c7).2) q874 z9).2 c10).2) q1542 z12).2 c13).2 c14).1, fun q2847 z16 => ⟨fun c17 => ⟨fun c18 => hK _ (((((((((((((((((((h z0) z1) z2) z3) z4).2 c5).2 c6).2 c7).2) q874 z9).2 c10).2) q1542 z12).2 c13).2 c14).2) q2847 z16).1 c17).1 c18), fun c18 => ⟨fun c19 => hK _ ((((((((((((((((((((h z0) z1) z2) z3) z4).2 c5).2 c6).2 c7).2) q874 z9).2 c10).2) q1542 z12).2 c13).2 c14).2) q2847 z16).1 c17).2 c18).1 c19), fun c19 => ⟨((((((((((((((((((((h z0) z1) z2) z3) z4).2 c5).2 c6).2 c7).2) q874 z9).2 c10).2) q1542 z12).2 c13).2 c14).2) q2847 z16).1 c17).2 c18).2 c19).1, fun z21 => ⟨fun c22 => ⟨fun c23 => ⟨((((((((((((((((((((((((h z0) z1) z2) z3) z4).2 c5).2 c6).2 c7).2) q874 z9).2 c10).2) q1542 z12).2 c13).2 c14).2) q2847 z16).1 c17).2 c18).2 c19).2) z21).1 c22).1 c23).1, fun q3113 z25 => fun z26 => hK _ (((((((((((((((((((((((((((h z0) z1) z2) z3) z4).2 c5).2 c6).2 c7).2) q874 z9).2 c10).2) q1542 z12).2 c13).2 c14).2) q2847 z16).1 c17).2 c18).2 c19).2) z21).1 c22).1 c23).2) q3113 z25) z26)⟩, fun c23 => hK _ ((((((((((((((((((((((((h z0) z1) z2) z3) z4).2 c5).2 c6).2 c7).2) q874 z9).2 c10).2) q1542 z12).2 c13).2 c14).2) q2847 z16).1 c17).2 c18).2 c19).2) z21).1 c22).2 c23)⟩, fun c22 => ⟨fun c23 => ⟨fun c24 => ⟨(((((((((((((((((((((((((h z0) z1) z2) z3) z4).2 c5).2 c6).2 c7).2) q874 z9).2 c10).2) q1542 z12).2 c13).2 c14).2) q2847 z16).1 c17).2 c18).2 c19).2) z21).2 c22).1 c23).1 c24).1, fun q3221 z26 => fun z27 => hK _ ((((((((((((((((((((((((((((h z0) z1) z2) z3) z4).2 c5).2 c6).2 c7).2) q874 z9).2 c10).2) q1542 z12).2 c13).2 c14).2) q2847 z16).1 c17).2 c18).2 c19).2) z21).2 c22).1 c23).1 c24).2) q3221 z26) z27)⟩, fun c24 => hK _ (((((((((((((((((((((((((h z0) z1) z2) z3) z4).2 c5).2 c6).2 c7).2) q874 z9).2 c10).2) q1542 z12).2 c13).2 c14).2) q2847 z16).1 c17).2 c18).2 c19).2) z21).2 c22).1 c23).2 c24)⟩, fun c23 => ⟨fun c24 => ⟨fun c25 => ⟨((((((((((((((((((((((((((h z0) z1) z2) z3) z4).2 c5).2 c6).2 c7).2) q874 z9).2 c10).2) q1542 z12).2 c13).2 c14).2) q2847 z16).1 c17).2 c18).2 c19).2) z21).2 c22).2 c23).1 c24).1 c25).1, fun q3334 z27 => fun z28 => hK _ (((((((((((((((((((((((((((((h z0) z1) z2) z3) z4).2 c5).2 c6).2 c7).2) q874 z9).2 c10).2) q1542 z12).2 c13).2 c14).2) q2847 z16).1 c17).2 c18).2 c19).2) z21).2 c22).2 c23).1 c24).1 c25).2) q3334 z27) z28)⟩, fun c25 => hK _ ((((((((((((((((((((((((((h z0) z1) z2) z3) z4).2 c5).2 c6).2 c7).2) q874 z9).2 c10).2) q1542 z12).2 c13).2 c14).2) q2847 z16).1 c17).2 c18).2 c19).2) z21).2 c22).2 c23).1 c24).2 c25)⟩, fun c24 => ⟨fun c25 => ⟨((((((((((((((((((((((((((h z0) z1) z2) z3) z4).2 c5).2 c6).2 c7).2) q874 z9).2 c10).2) q1542 z12).2 c13).2 c14).2) q2847 z16).1 c17).2 c18).2 c19).2) z21).2 c22).2 c23).2 c24).1 c25).1, fun q3426 z27 => fun z28 => hK _ (((((((((((((((((((((((((((((h z0) z1) z2) z3) z4).2 c5).2 c6).2 c7).2) q874 z9).2 c10).2) q1542 z12).2 c13).2 c14).2) q2847 z16).1 c17).2 c18).2 c19).2) z21).2 c22).2 c23).2 c24).1 c25).2) q3426 z27) z28)⟩, fun c25 => hK _ ((((((((((((((((((((((((((h z0) z1) z2) z3) z4).2 c5).2 c6).2 c7).2) q874 z9).2 c10).2) q1542 z12).2 c13).2 c14).2) q2847 z16).1 c17).2 c18).2 c19).2) z21).2 c22).2 c23).2 c24).2 c25)⟩⟩⟩⟩⟩⟩⟩, fun c17 => ⟨((((((((((((((((((h z0) z1) z2) z3) z4).2 c5).2 c6).2 c7).2) q874 z9).2 c10).2) q1542 z12).2 c13).2 c14).2) q2847 z16).2 c17).1, fun q3498 z19 => ⟨fun c20 => ⟨(((((((((((((((((((((h z0) z1) z2) z3) z4).2 c5).2 c6).2 c7).2) q874 z9).2 c10).2) q1542 z12).2 c13).2 c14).2) q2847 z16).2 c17).2) q3498 z19).1 c20).1, fun q3521 z22 => ⟨fun c23 => hK _ ((((((((((((((((((((((((h z0) z1) z2) z3) z4).2 c5).2 c6).2 c7).2) q874 z9).2 c10).2) q1542 z12).2 c13).2 c14).2) q2847 z16).2 c17).2) q3498 z19).1 c20).2) q3521 z22).1 c23), fun c23 => ⟨fun c24 => hK _ (((((((((((((((((((((((((h z0) z1) z2) z3) z4).2 c5).2 c6).2 c7).2) q874 z9).2 c10).2) q1542 z12).2 c13).2 c14).2) q2847 z16).2 c17).2) q3498 z19).1 c20).2) q3521 z22).2 c23).1 c24), fun c24 => ⟨(((((((((((((((((((((((((h z0) z1) z2) z3) z4).2 c5).2 c6).2 c7).2) q874 z9).2 c10).2) q1542 z12).2 c13).2 c14).2) q2847 z16).2 c17).2) q3498 z19).1 c20).2) q3521 z22).2 c23).2 c24).1, fun z26 => ⟨fun c27 => ⟨fun c28 => ⟨(((((((((((((((((((((((((((((h z0) z1) z2) z3) z4).2 c5).2 c6).2 c7).2) q874 z9).2 c10).2) q1542 z12).2 c13).2 c14).2) q2847 z16).2 c17).2) q3498 z19).1 c20).2) q3521 z22).2 c23).2 c24).2) z26).1 c27).1 c28).1, fun q3786 z30 => fun z31 => hK _ ((((((((((((((((((((((((((((((((h z0) z1) z2) z3) z4).2 c5).2 c6).2 c7).2) q874 z9).2 c10).2) q1542 z12).2 c13).2 c14).2) q2847 z16).2 c17).2) q3498 z19).1 c20).2) q3521 z22).2 c23).2 c24).2) z26).1 c27).1 c28).2) q3786 z30) z31)⟩, fun c28 => hK _ (((((((((((((((((((((((((((((h z0) z1) z2) z3) z4).2 c5).2 c6).2 c7).2) q874 z9).2 c10).2) q1542 z12).2 c13).2 c14).2) q2847 z16).2 c17).2) q3498 z19).1 c20).2) q3521 z22).2 c23).2 c24).2) z26).1 c27).2 c28)⟩, fun c27 => ⟨fun c28 => ⟨fun c29 => ⟨((((((((((((((((((((((((((((((h z0) z1) z2) z3) z4).2 c5).2 c6).2 c7).2) q874 z9).2 c10).2) q1542 z12).2 c13).2 c14).2) q2847 z16).2 c17).2) q3498 z19).1 c20).2) q3521 z22).2 c23).2 c24).2) z26).2 c27).1 c28).1 c29).1, fun q3894 z31 => fun z32 => hK _ (((((((((((((((((((((((((((((((((h z0) z1) z2) z3) z4).2 c5).2 c6).2 c7).2) q874 z9).2 c10).2) q1542 z12).2 c13).2 c14).2) q2847 z16).2 c17).2) q3498 z19).1 c20).2) q3521 z22).2 c23).2 c24).2) z26).2 c27).1 c28).1 c29).2) q3894 z31) z32)⟩, fun c29 => hK _ ((((((((((((((((((((((((((((((h z0) z1) z2) z3) z4).2 c5).2 c6).2 c7).2) q874 z9).2 c10).2) q1542 z12).2 c13).2 c14).2) q2847 z16).2 c17).2) q3498 z19).1 c20).2) q3521 z22).2 c23).2 c24).2) z26).2 c27).1 c28).2 c29)⟩, fun c28 => ⟨fun c29 => ⟨fun c30 => ⟨(((((((((((((((((((((((((((((((h z0) z1) z2) z3) z4).2 c5).2 c6).2 c7).2) q874 z9).2 c10).2) q1542 z12).2 c13).2 c14).2) q2847 z16).2 c17).2) q3498 z19).1 c20).2) q3521 z22).2 c23).2 c24).2) z26).2 c27).2 c28).1 c29).1 c30).1, fun q4007 z32 => fun z33 => hK _ ((((((((((((((((((((((((((((((((((h z0) z1) z2) z3) z4).2 c5).2 c6).2 c7).2) q874 z9).2 c10).2) q1542 z12).2 c13).2 c14).2) q2847 z16).2 c17).2) q3498 z19).1 c20).2) q3521 z22).2 c23).2 c24).2) z26).2 c27).2 c28).1 c29).1 c30).2) q4007 z32) z33)⟩, fun c30 => hK _ (((((((((((((((((((((((((((((((h z0) z1) z2) z3) z4).2 c5).2 c6).2 c7).2) q874 z9).2 c10).2) q1542 z12).2 c13).2 c14).2) q2847 z16).2 c17).2) q3498 z19).1 c20).2) q3521 z22).2 c23).2 c24).2) z26).2 c27).2 c28).1 c29).2 c30)⟩, fun c29 => ⟨fun c30 => ⟨(((((((((((((((((((((((((((((((h z0) z1) z2) z3) z4).2 c5).2 c6).2 c7).2) q874 z9).2 c10).2) q1542 z12).2 c13).2 c14).2) q2847 z16).2 c17).2) q3498 z19).1 c20).2) q3521 z22).2 c23).2 c24).2) z26).2 c27).2 c28).2 c29).1 c30).1, fun q4099 z32 => fun z33 => hK _ ((((((((((((((((((((((((((((((((((h z0) z1) z2) z3) z4).2 c5).2 c6).2 c7).2) q874 z9).2 c10).2) q1542 z12).2 c13).2 c14).2) q2847 z16).2 c17).2) q3498 z19).1 c20).2) q3521 z22).2 c23).2 c24).2) z26).2 c27).2 c28).2 c29).1 c30).2) q4099 z32) z33)⟩, fun c30 => hK _ (((((((((((((((((((((((((((((((h z0) z1) z2) z3) z4).2 c5).2 c6).2 c7).2) q874 z9).2 c10).2) q1542 z12).2 c13).2 c14).2) q2847 z16).2 c17).2) q3498 z19).1 c20).2) q3521 z22).2 c23).2 c24).2) z26).2 c27).2 c28).2 c29).2 c30)⟩⟩⟩⟩⟩⟩⟩⟩, fun c20 => ⟨fun c21 => hK _ ((((((((((((((((((((((h z0) z1) z2) z3) z4).2 c5).2 c6).2 c7).2) q874 z9).2 c10).2) q1542 z12).2 c13).2 c14).2) q2847 z16).2 c17).2) q3498 z19).2 c20).1 c21), fun c21 => ⟨fun c22 => hK _ (((((((((((((((((((((((h z0) z1) z2) z3) z4).2 c5).2 c6).2 c7).2) q874 z9).2 c10).2) q1542 z12).2 c13).2 c14).2) q2847 z16).2 c17).2) q3498 z19).2 c20).2 c21).1 c22), fun c22 => ⟨(((((((((((((((((((((((h z0) z1) z2) z3) z4).2 c5).2 c6).2 c7).2) q874 z9).2 c10).2) q1542 z12).2 c13).2 c14).2) q2847 z16).2 c17).2) q3498 z19).2 c20).2 c21).2 c22).1, fun z24 => ⟨fun c25 => ⟨fun c26 => ⟨(((((((((((((((((((((((((((h z0) z1) z2) z3) z4).2 c5).2 c6).2 c7).2) q874 z9).2 c10).2) q1542 z12).2 c13).2 c14).2) q2847 z16).2 c17).2) q3498 z19).2 c20).2 c21).2 c22).2) z24).1 c25).1 c26).1, fun q4411 z28 => fun z29 => hK _ ((((((((((((((((((((((((((((((h z0) z1) z2) z3) z4).2 c5).2 c6).2 c7).2) q874 z9).2 c10).2) q1542 z12).2 c13).2 c14).2) q2847 z16).2 c17).2) q3498 z19).2 c20).2 c21).2 c22).2) z24).1 c25).1 c26).2) q4411 z28) z29)⟩, fun c26 => hK _ (((((((((((((((((((((((((((h z0) z1) z2) z3) z4).2 c5).2 c6).2 c7).2) q874 z9).2 c10).2) q1542 z12).2 c13).2 c14).2) q2847 z16).2 c17).2) q3498 z19).2 c20).2 c21).2 c22).2) z24).1 c25).2 c26)⟩, fun c25 => ⟨fun c26 => ⟨fun c27 => ⟨((((((((((((((((((((((((((((h z0) z1) z2) z3) z4).2 c5).2 c6).2 c7).2) q874 z9).2 c10).2) q1542 z12).2 c13).2 c14).2) q2847 z16).2 c17).2) q3498 z19).2 c20).2 c21).2 c22).2) z24).2 c25).1 c26).1 c27).1, fun q4519 z29 => fun z30 => hK _ (((((((((((((((((((((((((((((((h z0) z1) z2) z3) z4).2 c5).2 c6).2 c7).2) q874 z9).2 c10).2) q1542 z12).2 c13).2 c14).2) q2847 z16).2 c17).2) q3498 z19).2 c20).2 c21).2 c22).2) z24).2 c25).1 c26).1 c27).2) q4519 z29) z30)⟩, fun c27 => hK _ ((((((((((((((((((((((((((((h z0) z1) z2) z3) z4).2 c5).2 c6).2 c7).2) q874 z9).2 c10).2) q1542 z12).2 c13).2 c14).2) q2847 z16).2 c17).2) q3498 z19).2 c20).2 c21).2 c22).2) z24).2 c25).1 c26).2 c27)⟩, fun c26 => ⟨fun c27 => ⟨fun c28 => ⟨(((((((((((((((((((((((((((((h z0) z1) z2) z3) z4).2 c5).2 c6).2 c7).2) q874 z9).2 c10).2) q1542 z12).2 c13).2 c14).2) q2847 z16).2 c17).2) q3498 z19).2 c20).2 c21).2 c22).2) z24).2 c25).2 c26).1 c27).1 c28).1, fun q4632 z30 => fun z31 => hK _ ((((((((((((((((((((((((((((((((h z0) z1) z2) z3) z4).2 c5).2 c6).2 c7).2) q874 z9).2 c10).2) q1542 z12).2 c13).2 c14).2) q2847 z16).2 c17).2) q3498 z19).2 c20).2 c21).2 c22).2) z24).2 c25).2 c26).1 c27).1 c28).2) q4632 z30) z31)⟩, fun c28 => hK _ (((((((((((((((((((((((((((((h z0) z1) z2) z3) z4).2 c5).2 c6).2 c7).2) q874 z9).2 c10).2) q1542 z12).2 c13).2 c14).2) q2847 z16).2 c17).2) q3498 z19).2 c20).2 c21).2 c22).2) z24).2 c25).2 c26).1 c27).2 c28)⟩, fun c27 => ⟨fun c28 => ⟨(((((((((((((((((((((((((((((h z0) z1) z2) z3) z4).2 c5).2 c6).2 c7).2) q874 z9).2 c10).2) q1542 z12).2 c13).2 c14).2) q2847 z16).2 c17).2) q3498 z19).2 c20).2 c21).2 c22).2) z24).2 c25).2 c26).2 c27).1 c28).1, fun q4724 z30 => fun z31 => hK _ ((((((((((((((((((((((((((((((((h z0) z1) z2) z3) z4).2 c5).2 c6).2 c7).2) q874 z9).2 c10).2) q1542 z12).2 c13).2 c14).2) q2847 z16).2 c17).2) q3498 z19).2 c20).2 c21).2 c22).2) z24).2 c25).2 c26).2 c27).1 c28).2) q4724 z30) z31)⟩, fun c28 => hK _ (((((((((((((((((((((((((((((h z0) z1) z2) z3) z4).2 c5).2 c6).2 c7).2) q874 z9).2 c10).2) q1542 z12).2 c13).2 c14).2) q2847 z16).2 c17).2) q3498 z19).2 c20).2 c21).2 c22).2) z24).2 c25).2 c26).2 c27).2 c28)⟩⟩⟩⟩⟩⟩⟩⟩⟩⟩⟩⟩⟩⟩⟩⟩⟩⟩⟩

def LPGet_vc (u0 : Getter) (u1 : List Int) (K : Bool → Prop) : Prop :=
  (u0.Data.length ≤ 140737488355328 →
    (u1.length ≤ 140737488355328 →
    ((∀ x ∈ u1, 0 ≤ x ∧ x ≤ 255) ∧
    (((pgetS u0 u1).2.1).length ≤ 140737488355328 →
    (((pgetS u0 u1).2.2.1).length ≤ 140737488355328 →
    ((((pgetS u0 u1).1).Data).length ≤ 140737488355328 →
    ((((pcheckg u0) != (rcheckg u0)) = true →
      (K false)) ∧
    (((pcheckg u0) != (rcheckg u0)) = false →
      ((((rcheckg u0) != 0) = true →
        (K ((((((pgetS u0 u1).2.2.2.1) == (rcheckg u0)) && (psameg ((pgetS u0 u1).1) (⟨0, [], 0, 0, 0⟩ : Getter))) && ((((pgetS u0 u1).2.1).length : Int) == 0)) && ((((pgetS u0 u1).2.2.1).length : Int) == 0)))) ∧
      (((rcheckg u0) != 0) = false →
        ((((u1.length : Int) == 0) = true →
          (K ((((((pgetS u0 u1).2.2.2.1) == 7) && (psameg ((pgetS u0 u1).1) (⟨0, [], 0, 0, 0⟩ : Getter))) && ((((pgetS u0 u1).2.1).length : Int) == 0)) && ((((pgetS u0 u1).2.2.1).length : Int) == 0)))) ∧
        (((u1.length : Int) == 0) = false →
          (((decide ((u1.length : Int) > 8)) = true →
            (K ((((((pgetS u0 u1).2.2.2.1) == 2) && (psameg ((pgetS u0 u1).1) (⟨0, [], 0, 0, 0⟩ : Getter))) && ((((pgetS u0 u1).2.1).length : Int) == 0)) && ((((pgetS u0 u1).2.2.1).length : Int) == 0)))) ∧
          ((decide ((u1.length : Int) > 8)) = false →
            ((0 ≤ (0 : Int) ∧ (0 : Int) < (u1.length : Int)) ∧
            (∀ q337, u1[(0 : Int).toNat]? = some q337 →
            (((decide (q337 < 16)) = true →
              ((0 ≤ (1 : Int) ∧ (1 : Int) ≤ (u1.length : Int)) ∧
              ((0 ≤ (0 : Int) ∧ (0 : Int) < (u1.length : Int)) ∧
              (∀ q373, u1[(0 : Int).toNat]? = some q373 →
              (((q373 == 0) = true →
                (K ((((((pgetS u0 u1).2.2.2.1) == 4) && (psameg ((pgetS u0 u1).1) (⟨0, [], 0, 0, 0⟩ : Getter))) && ((((pgetS u0 u1).2.1).length : Int) == 0)) && ((((pgetS u0 u1).2.2.1).length : Int) == 0)))) ∧
              ((q373 == 0) = false →
                ((0 ≤ (0 : Int) ∧ (0 : Int) < (u1.length : Int)) ∧
                (∀ q482, u1[(0 : Int).toNat]? = some q482 →
                (((decide (q482 > 7)) = true →
                  (K ((((((pgetS u0 u1).2.2.2.1) == 4) && (psameg ((pgetS u0 u1).1) (⟨0, [], 0, 0, 0⟩ : Getter))) && ((((pgetS u0 u1).2.1).length : Int) == 0)) && ((((pgetS u0 u1).2.2.1).length : Int) == 0)))) ∧
                ((decide (q482 > 7)) = false →
                  ((0 ≤ (0 : Int) ∧ (0 : Int) < (u1.length : Int)) ∧
                  (∀ q585, u1[(0 : Int).toNat]? = some q585 →
                  ((((u1.length : Int) != (w64 ((w64 q585) + 1))) = true →
                    (K ((((((pgetS u0 u1).2.2.2.1) == 4) && (psameg ((pgetS u0 u1).1) (⟨0, [], 0, 0, 0⟩ : Getter))) && ((((pgetS u0 u1).2.1).length : Int) == 0)) && ((((pgetS u0 u1).2.2.1).length : Int) == 0)))) ∧
                  (((u1.length : Int) != (w64 ((w64 q585) + 1))) = false →
                    (K ((((((pgetS u0 u1).2.2.2.1) == 0) && (psameg ((pgetS u0 u1).1) (⟨0, [], 0, u0.Block, 0⟩ : Getter))) && (beqS ((pgetS u0 u1).2.1) [])) && (beqS ((pgetS u0 u1).2.2.1) (u1.drop (1 : Int).toNat)))))))))))))))))) ∧
            ((decide (q337 < 16)) = false →
              ((0 ≤ (0 : Int) ∧ (0 : Int) < (u1.length : Int)) ∧
              (∀ q730, u1[(0 : Int).toNat]? = some q730 →
              (((decide (q730 < 32)) = true →
                (((decide ((u1.length : Int) > 1)) = true →
                  ((0 ≤ (0 : Int) ∧ (0 : Int) < (u1.length : Int)) ∧
                  (∀ q769, u1[(0 : Int).toNat]? = some q769 →
                  ((0 ≤ (1 : Int) ∧ (1 : Int) < (u1.length : Int)) ∧
                  (∀ q797, u1[(1 : Int).toNat]? = some q797 →
                  (((((u1.length : Int) != 8) || (decide ((w64 ((w64 ((w64 (w8 (q769 - 16))) * 256)) + (w64 q797))) < 8))) = true →
                    (K ((((((pgetS u0 u1).2.2.2.1) == 4) && (psameg ((pgetS u0 u1).1) (⟨0, [], 0, 0, 0⟩ : Getter))) && ((((pgetS u0 u1).2.1).length : Int) == 0)) && ((((pgetS u0 u1).2.2.1).length : Int) == 0)))) ∧
                  ((((u1.length : Int) != 8) || (decide ((w64 ((w64 ((w64 (w8 (q769 - 16))) * 256)) + (w64 q797))) < 8))) = false →
                    (((decide ((w64 ((w64 ((w64 (w8 (q769 - 16))) * 256)) + (w64 q797))) > 300)) = true →
                      (K ((((((pgetS u0 u1).2.2.2.1) == 0) && (psameg ((pgetS u0 u1).1) (⟨0, [], 0, u0.Block, 0⟩ : Getter))) && (beqS ((pgetS u0 u1).2.1) ([50, 0, 0] : List Int))) && (beqS ((pgetS u0 u1).2.2.1) [])))) ∧
                    ((decide ((w64 ((w64 ((w64 (w8 (q769 - 16))) * 256)) + (w64 q797))) > 300)) = false →
                      ((0 ≤ (2 : Int) ∧ (2 : Int) ≤ (u1.length : Int)) ∧
                      (K ((((((pgetS u0 u1).2.2.2.1) == 0) && (psameg ((pgetS u0 u1).1) (⟨w64 ((w64 ((w64 (w8 (q769 - 16))) * 256)) + (w64 q797)), u1.drop (2 : Int).toNat, 1, u0.Block, u0.Block⟩ : Getter))) && (beqS ((pgetS u0 u1).2.1) ([48, w8 u0.Block, 0] : List Int))) && (beqS ((pgetS u0 u1).2.2.1) []))))))))))))) ∧
                ((decide ((u1.length : Int) > 1)) = false →
                  (((((u1.length : Int) != 8) || true) = true →
                    (K ((((((pgetS u0 u1).2.2.2.1) == 4) && (psameg ((pgetS u0 u1).1) (⟨0, [], 0, 0, 0⟩ : Getter))) && ((((pgetS u0 u1).2.1).length : Int) == 0)) && ((((pgetS u0 u1).2.2.1).length : Int) == 0)))) ∧
                  ((((u1.length : Int) != 8) || true) = false →
                    ((0 ≤ (2 : Int) ∧ (2 : Int) ≤ (u1.length : Int)) ∧
                    (K ((((((pgetS u0 u1).2.2.2.1) == 0) && (psameg ((pgetS u0 u1).1) (⟨0, u1.drop (2 : Int).toNat, 1, u0.Block, u0.Block⟩ : Getter))) && (beqS ((pgetS u0 u1).2.1) ([48, w8 u0.Block, 0] : List Int))) && (beqS ((pgetS u0 u1).2.2.1) []))))))))) ∧
              ((decide (q730 < 32)) = false →
                ((0 ≤ (0 : Int) ∧ (0 : Int) < (u1.length : Int)) ∧
                (∀ q1480, u1[(0 : Int).toNat]? = some q1480 →
                (((decide (q1480 < 48)) = true →
                  (((u0.Want == 0) = true →
                    (K ((((((pgetS u0 u1).2.2.2.1) == 12) && (psameg ((pgetS u0 u1).1) (⟨0, [], 0, 0, 0⟩ : Getter))) && ((((pgetS u0 u1).2.1).length : Int) == 0)) && ((((pgetS u0 u1).2.2.1).length : Int) == 0)))) ∧
                  ((u0.Want == 0) = false →
                    ((0 ≤ (0 : Int) ∧ (0 : Int) < (u1.length : Int)) ∧
                    (∀ q1570, u1[(0 : Int).toNat]? = some q1570 →
                    ((((w64 (w8 (q1570 - 32))) != u0.Next) = true →
                      (K ((((((pgetS u0 u1).2.2.2.1) == 14) && (psameg ((pgetS u0 u1).1) (⟨0, [], 0, 0, 0⟩ : Getter))) && ((((pgetS u0 u1).2.1).length : Int) == 0)) && ((((pgetS u0 u1).2.2.1).length : Int) == 0)))) ∧
                    (((w64 (w8 (q1570 - 32))) != u0.Next) = false →
                      ((((u1.length : Int) != (w64 (1 + (min 7 (w64 (u0.Want - (u0.Data.length : Int))))))) = true →
                        (K ((((((pgetS u0 u1).2.2.2.1) == 4) && (psameg ((pgetS u0 u1).1) (⟨0, [], 0, 0, 0⟩ : Getter))) && ((((pgetS u0 u1).2.1).length : Int) == 0)) && ((((pgetS u0 u1).2.2.1).length : Int) == 0)))) ∧
                      (((u1.length : Int) != (w64 (1 + (min 7 (w64 (u0.Want - (u0.Data.length : Int))))))) = false →
                        ((((w64 ((w64 ((u0.Data.length : Int) + (u1.length : Int))) - 1)) == u0.Want) = true →
                          ((0 ≤ (1 : Int) ∧ (1 : Int) ≤ (u1.length : Int)) ∧
                          (((∀ l ∈ ([u0.Data, u1.drop (1 : Int).toNat] : List (List Int)), l.length ≤ 1048576) ∧ ([u0.Data, u1.drop (1 : Int).toNat] : List (List Int)).length ≤ 2) ∧
                          (K ((((((pgetS u0 u1).2.2.2.1) == 0) && (psameg ((pgetS u0 u1).1) (⟨0, [], 0, u0.Block, 0⟩ : Getter))) && (beqS ((pgetS u0 u1).2.1) [])) && (beqS ((pgetS u0 u1).2.2.1) (bconcatS ([u0.Data, u1.drop (1 : Int).toNat] : List (List Int))))))))) ∧
                        (((w64 ((w64 ((u0.Data.length : Int) + (u1.length : Int))) - 1)) == u0.Want) = false →
                          ((0 ≤ (1 : Int) ∧ (1 : Int) ≤ (u1.length : Int)) ∧
                          (((∀ l ∈ ([u0.Data, u1.drop (1 : Int).toNat] : List (List Int)), l.length ≤ 1048576) ∧ ([u0.Data, u1.drop (1 : Int).toNat] : List (List Int)).length ≤ 2) ∧
                          (((decide (u0.Block > 0)) = true →
                            ((((w64 (u0.Left - 1)) == 0) = true →
                              (K ((((((pgetS u0 u1).2.2.2.1) == 0) && (psameg ((pgetS u0 u1).1) (⟨u0.Want, (bconcatS ([u0.Data, u1.drop (1 : Int).toNat] : List (List Int))), (w64 (u0.Next + 1)).tmod 16, u0.Block, u0.Block⟩ : Getter))) && (beqS ((pgetS u0 u1).2.1) ([48, w8 u0.Block, 0] : List Int))) && (beqS ((pgetS u0 u1).2.2.1) [])))) ∧
                            (((w64 (u0.Left - 1)) == 0) = false →
                              (K ((((((pgetS u0 u1).2.2.2.1) == 0) && (psameg ((pgetS u0 u1).1) (⟨u0.Want, (bconcatS ([u0.Data, u1.drop (1 : Int).toNat] : List (List Int))), (w64 (u0.Next + 1)).tmod 16, u0.Block, w64 (u0.Left - 1)⟩ : Getter))) && (beqS ((pgetS u0 u1).2.1) [])) && (beqS ((pgetS u0 u1).2.2.1) [])))))) ∧
                          ((decide (u0.Block > 0)) = false →
                            (K ((((((pgetS u0 u1).2.2.2.1) == 0) && (psameg ((pgetS u0 u1).1) (⟨u0.Want, (bconcatS ([u0.Data, u1.drop (1 : Int).toNat] : List (List Int))), (w64 (u0.Next + 1)).tmod 16, u0.Block, u0.Left⟩ : Getter))) && (beqS ((pgetS u0 u1).2.1) [])) && (beqS ((pgetS u0 u1).2.2.1) [])))))))))))))))))) ∧
                ((decide (q1480 < 48)) = false →
                  (K ((((((pgetS u0 u1).2.2.2.1) == 8) && (psameg ((pgetS u0 u1).1) (⟨0, [], 0, 0, 0⟩ : Getter))) && ((((pgetS u0 u1).2.1).length : Int) == 0)) && ((((pgetS u0 u1).2.2.1).length : Int) == 0)))))))))))))))))))))))))))))
theorem LPGet_mono {u0 : Getter} {u1 : List Int} {K K1 : Bool → Prop} (hK : ∀ r, K r → K1 r) (h : LPGet_vc u0 u1 K) : LPGet_vc u0 u1 K1 :=
  fun z0 => fun z1 => ⟨((h z0) z1).1, fun z3 => fun z4 => fun z5 => ⟨fun c6 => hK _ (((((((h z0) z1).2) z3) z4) z5).1 c6), fun c6 => ⟨fun c7 => hK _ ((((((((h z0) z1).2) z3) z4) z5).2 c6).1 c7), fun c7 => ⟨fun c8 => hK _ (((((((((h z0) z1).2) z3) z4) z5).2 c6).2 c7).1 c8), fun c8 => ⟨fun c9 => hK _ ((((((((((h z0) z1).2) z3) z4) z5).2 c6).2 c7).2 c8).1 c9), fun c9 => ⟨((((((((((h z0) z1).2) z3) z4) z5).2 c6).2 c7).2 c8).2 c9).1, fun q337 z11 => ⟨fun c12 => ⟨(((((((((((((h z0) z1).2) z3) z4) z5).2 c6).2 c7).2 c8).2 c9).2) q337 z11).1 c12).1, ⟨((((((((((((((h z0) z1).2) z3) z4) z5).2 c6).2 c7).2 c8).2 c9).2) q337 z11).1 c12).2).1, fun q373 z15 => ⟨fun c16 => hK _ (((((((((((((((((h z0) z1).2) z3) z4) z5).2 c6).2 c7).2 c8).2 c9).2) q337 z11).1 c12).2).2) q373 z15).1 c16), fun c16 => ⟨(((((((((((((((((h z0) z1).2) z3) z4) z5).2 c6).2 c7).2 c8).2 c9).2) q337 z11).1 c12).2).2) q373 z15).2 c16).1, fun q482 z18 => ⟨fun c19 => hK _ ((((((((((((((((((((h z0) z1).2) z3) z4) z5).2 c6).2 c7).2 c8).2 c9).2) q337 z11).1 c12).2).2) q373 z15).2 c16).2) q482 z18).1 c19), fun c19 => ⟨((((((((((((((((((((h z0) z1).2) z3) z4) z5).2 c6).2 c7).2 c8).2 c9).2) q337 z11).1 c12).2).2) q373 z15).2 c16).2) q482 z18).2 c19).1, fun q585 z21 => ⟨fun c22 => hK _ (((((((((((((((((((((((h z0) z1).2) z3) z4) z5).2 c6).2 c7).2 c8).2 c9).2) q337 z11).1 c12).2).2) q373 z15).2 c16).2) q482 z18).2 c19).2) q585 z21).1 c22), fun c22 => hK _ (((((((((((((((((((((((h z0) z1).2) z3) z4) z5).2 c6).2 c7).2 c8).2 c9).2) q337 z11).1 c12).2).2) q373 z15).2 c16).2) q482 z18).2 c19).2) q585 z21).2 c22)⟩⟩⟩⟩⟩⟩⟩, fun c12 => ⟨(((((((((((((h z0) z1).2) z3) z4) z5).2 c6).2 c7).2 c8).2 c9).2) q337 z11).2 c12).1, fun q730 z14 => ⟨fun c15 => ⟨fun c16 => ⟨(((((((((((((((((h z0) z1).2) z3) z4) z5).2 c6).2 c7).2 c8).2 c9).2) q337 z11).2 c12).2) q730 z14).1 c15).1 c16).1, fun q769 z18 => ⟨(((((((((((((((((((h z0) z1).2) z3) z4) z5).2 c6).2 c7).2 c8).2 c9).2) q337 z11).2 c12).2) q730 z14).1 c15).1 c16).2) q769 z18).1, fun q797 z20 => ⟨fun c21 => hK _ ((((((((((((((((((((((h z0) z1).2) z3) z4) z5).2 c6).2 c7).2 c8).2 c9).2) q337 z11).2 c12).2) q730 z14).1 c15).1 c16).2) q769 z18).2) q797 z20).1 c21), fun c21 => ⟨fun c22 => hK _ (((((((((((((((((((((((h z0) z1).2) z3) z4) z5).2 c6).2 c7).2 c8).2 c9).2) q337 z11).2 c12).2) q730 z14).1 c15).1 c16).2) q769 z18).2) q797 z20).2 c21).1 c22), fun c22 => ⟨(((((((((((((((((((((((h z0) z1).2) z3) z4) z5).2 c6).2 c7).2 c8).2 c9).2) q337 z11).2 c12).2) q730 z14).1 c15).1 c16).2) q769 z18).2) q797 z20).2 c21).2 c22).1, hK _ ((((((((((((((((((((((((h z0) z1).2) z3) z4) z5).2 c6).2 c7).2 c8).2 c9).2) q337 z11).2 c12).2) q730 z14).1 c15).1 c16).2) q769 z18).2) q797 z20).2 c21).2 c22).2)⟩⟩⟩⟩⟩, fun c16 => ⟨fun c17 => hK _ ((((((((((((((((((h z0) z1).2) z3) z4) z5).2 c6).2 c7).2 c8).2 c9).2) q337 z11).2 c12).2) q730 z14).1 c15).2 c16).1 c17), fun c17 => ⟨((((((((((((((((((h z0) z1).2) z3) z4) z5).2 c6).2 c7).2 c8).2 c9).2) q337 z11).2 c12).2) q730 z14).1 c15).2 c16).2 c17).1, hK _ (((((((((((((((((((h z0) z1).2) z3) z4) z5).2 c6).2 c7).2 c8).2 c9).2) q337 z11).2 c12).2) q730 z14).1 c15).2 c16).2 c17).2)⟩⟩⟩, fun c15 => ⟨((((((((((((((((h z0) z1).2) z3) z4) z5).2 c6).2 c7).2 c8).2 c9).2) q337 z11).2 c12).2) q730 z14).2 c15).1, fun q1480 z17 => ⟨fun c18 => ⟨fun c19 => hK _ ((((((((((((((((((((h z0) z1).2) z3) z4) z5).2 c6).2 c7).2 c8).2 c9).2) q337 z11).2 c12).2) q730 z14).2 c15).2) q1480 z17).1 c18).1 c19), fun c19 => ⟨((((((((((((((((((((h z0) z1).2) z3) z4) z5).2 c6).2 c7).2 c8).2 c9).2) q337 z11).2 c12).2) q730 z14).2 c15).2) q1480 z17).1 c18).2 c19).1, fun q1570 z21 => ⟨fun c22 => hK _ (((((((((((((((((((((((h z0) z1).2) z3) z4) z5).2 c6).2 c7).2 c8).2 c9).2) q337 z11).2 c12).2) q730 z14).2 c15).2) q1480 z17).1 c18).2 c19).2) q1570 z21).1 c22), fun c22 => ⟨fun c23 => hK _ ((((((((((((((((((((((((h z0) z1).2) z3) z4) z5).2 c6).2 c7).2 c8).2 c9).2) q337 z11).2 c12).2) q730 z14).2 c15).2) q1480 z17).1 c18).2 c19).2) q1570 z21).2 c22).1 c23), fun c23 => ⟨fun c24 => ⟨(((((((((((((((((((((((((h z0) z1).2) z3) z4) z5).2 c6).2 c7).2 c8).2 c9).2) q337 z11).2 c12).2) q730 z14).2 c15).2) q1480 z17).1 c18).2 c19).2) q1570 z21).2 c22).2 c23).1 c24).1, ⟨((((((((((((((((((((((((((h z0) z1).2) z3) z4) z5).2 c6).2 c7).2 c8).2 c9).2) q337 z11).2 c12).2) q730 z14).2 c15).2) q1480 z17).1 c18).2 c19).2) q1570 z21).2 c22).2 c23).1 c24).2).1, hK _ (((((((((((((((((((((((((((h z0) z1).2) z3) z4) z5).2 c6).2 c7).2 c8).2 c9).2) q337 z11).2 c12).2) q730 z14).2 c15).2) q1480 z17).1 c18).2 c19).2) q1570 z21).2 c22).2 c23).1 c24).2).2)⟩⟩, fun c24 => ⟨(((((((((((((((((((((((((h z0) z1).2) z3) z4) z5).2 c6).2 c7).2 c8).2 c9).2) q337 z11).2 c12).2) q730 z14).2 c15).2) q1480 z17).1 c18).2 c19).2) q1570 z21).2 c22).2 c23).2 c24).1, ⟨((((((((((((((((((((((((((h z0) z1).2) z3) z4) z5).2 c6).2 c7).2 c8).2 c9).2) q337 z11).2 c12).2) q730 z14).2 c15).2) q1480 z17).1 c18).2 c19).2) q1570 z21).2 c22).2 c23).2 c24).2).1, ⟨fun c27 => ⟨fun c28 => hK _ (((((((((((((((((((((((((((((h z0) z1).2) z3) z4) z5).2 c6).2 c7).2 c8).2 c9).2) q337 z11).2 c12).2) q730 z14).2 c15).2) q1480 z17).1 c18).2 c19).2) q1570 z21).2 c22).2 c23).2 c24).2).2).1 c27).1 c28), fun c28 => hK _ (((((((((((((((((((((((((((((h z0) z1).2) z3) z4) z5).2 c6).2 c7).2 c8).2 c9).2) q337 z11).2 c12).2) q730 z14).2 c15).2) q1480 z17).1 c18).2 c19).2) q1570 z21).2 c22).2 c23).2 c24).2).2).1 c27).2 c28)⟩, fun c27 => hK _ ((((((((((((((((((((((((((((h z0) z1).2) z3) z4) z5).2 c6).2 c7).2 c8).2 c9).2) q337 z11).2 c12).2) q730 z14).2 c15).2) q1480 z17).1 c18).2 c19).2) q1570 z21).2 c22).2 c23).2 c24).2).2).2 c27)⟩⟩⟩⟩⟩⟩⟩⟩, fun c18 => hK _ (((((((((((((((((((h z0) z1).2) z3) z4) z5).2 c6).2 c7).2 c8).2 c9).2) q337 z11).2 c12).2) q730 z14).2 c15).2) q1480 z17).2 c18)⟩⟩⟩⟩⟩⟩⟩⟩⟩⟩⟩

def LPSend_vc (u0 : List Int) (u1 : Int) (K : Bool → Prop) : Prop :=
  (u0.length ≤ 140737488355328 →
    ((∀ x ∈ u0, 0 ≤ x ∧ x ≤ 255) ∧
    (((psendS u0 u1).1).length ≤ 140737488355328 →
    ((((decide (u1 < 0)) || (decide (u1 > 255))) = true →
      (K (((((psendS u0 u1).2.2) == 3) && ((((psendS u0 u1).1).length : Int) == 0)) && (((psendS u0 u1).2.1) == 0)))) ∧
    (((decide (u1 < 0)) || (decide (u1 > 255))) = false →
      ((((pbad u0) != 0) = true →
        (K (((((psendS u0 u1).2.2) == (pbad u0)) && ((((psendS u0 u1).1).length : Int) == 0)) && (((psendS u0 u1).2.1) == 0)))) ∧
      (((pbad u0) != 0) = false →
        ((u0.length ≤ 300) ∧
        ((ppartsofS u0).length ≤ 140737488355328 →
        (((decide (((ppartsofS u0).length : Int) > 1)) = true →
          (((decide (u1 > 0)) = true →
            ((u1 ≠ 0) ∧
            (K (((((psendS u0 u1).2.2) == 0) && (beqS ((psendS u0 u1).1) u0)) && (((psendS u0 u1).2.1) == (w64 ((w64 (((ppartsofS u0).length : Int) + 1)) + (w64 ((w64 (((ppartsofS u0).length : Int) - 2)).tdiv u1))))))))) ∧
          ((decide (u1 > 0)) = false →
            (K (((((psendS u0 u1).2.2) == 0) && (beqS ((psendS u0 u1).1) u0)) && (((psendS u0 u1).2.1) == (w64 (((ppartsofS u0).length : Int) + 1)))))))) ∧
        ((decide (((ppartsofS u0).length : Int) > 1)) = false →
          (K (((((psendS u0 u1).2.2) == 0) && (beqS ((psendS u0 u1).1) u0)) && (((psendS u0 u1).2.1) == ((ppartsofS u0).length : Int)))))))))))))))
theorem LPSend_mono {u0 : List Int} {u1 : Int} {K K1 : Bool → Prop} (hK : ∀ r, K r → K1 r) (h : LPSend_vc u0 u1 K) : LPSend_vc u0 u1 K1 :=
  fun z0 => ⟨(h z0).1, fun z2 => ⟨fun c3 => hK _ ((((h z0).2) z2).1 c3), fun c3 => ⟨fun c4 => hK _ (((((h z0).2) z2).2 c3).1 c4), fun c4 => ⟨(((((h z0).2) z2).2 c3).2 c4).1, fun z6 => ⟨fun c7 => ⟨fun c8 => ⟨(((((((((h z0).2) z2).2 c3).2 c4).2) z6).1 c7).1 c8).1, hK _ ((((((((((h z0).2) z2).2 c3).2 c4).2) z6).1 c7).1 c8).2)⟩, fun c8 => hK _ (((((((((h z0).2) z2).2 c3).2 c4).2) z6).1 c7).2 c8)⟩, fun c7 => hK _ ((((((((h z0).2) z2).2 c3).2 c4).2) z6).2 c7)⟩⟩⟩⟩⟩

def LPLost_vc (u0 : List Int) (u1 : Int) (K : Bool → Prop) : Prop :=
  (u0.length ≤ 140737488355328 →
    (((psplitS u0).1).length ≤ 140737488355328 →
    ((((((psplitS u0).2) != 0) || (decide ((((psplitS u0).1).length : Int) < 3))) = true →
      (K true)) ∧
    (((((psplitS u0).2) != 0) || (decide ((((psplitS u0).1).length : Int) < 3))) = false →
      ((((decide (u1 < 1)) || (decide (u1 ≥ (w64 ((((psplitS u0).1).length : Int) - 1))))) = true →
        (∃ inv114 : Int → Getter → Prop, ∃ mu114 : Int → Getter → Nat, inv114 0 (⟨0, [], 0, 0, 0⟩ : Getter) ∧
        (∀ (x43 : Int) (yb98 : Getter), inv114 x43 yb98 →
        (((decide (x43 < (((psplitS u0).1).length : Int))) = true →
          ((0 ≤ x43 ∧ x43 < (((psplitS u0).1).length : Int)) ∧
          (∀ q147, ((psplitS u0).1)[x43.toNat]? = some q147 →
          (q147.length ≤ 140737488355328 →
          (((x43 == 1) = true →
            (inv114 (w64 (x43 + 1)) yb98 ∧ mu114 (w64 (x43 + 1)) yb98 < mu114 x43 yb98)) ∧
          ((x43 == 1) = false →
            ((∀ x ∈ q147, 0 ≤ x ∧ x ≤ 255) ∧
            (((pgetS yb98 q147).2.1).length ≤ 140737488355328 →
            (((pgetS yb98 q147).2.2.1).length ≤ 140737488355328 →
            ((((pgetS yb98 q147).1).Data).length ≤ 140737488355328 →
            (((!((pgetS yb98 q147).2.2.2.2.2)) = true →
              (K false)) ∧
            ((!((pgetS yb98 q147).2.2.2.2.2)) = false →
              (((((pgetS yb98 q147).2.2.2.1) != 0) = true →
                (K ((((pgetS yb98 q147).2.2.2.1) == 14) && (x43 == 2)))) ∧
              ((((pgetS yb98 q147).2.2.2.1) != 0) = false →
                (inv114 (w64 (x43 + 1)) ((pgetS yb98 q147).1) ∧ mu114 (w64 (x43 + 1)) ((pgetS yb98 q147).1) < mu114 x43 yb98))))))))))))))) ∧
        ((decide (x43 < (((psplitS u0).1).length : Int))) = false →
          (K false)))))) ∧
      (((decide (u1 < 1)) || (decide (u1 ≥ (w64 ((((psplitS u0).1).length : Int) - 1))))) = false →
        (∃ inv305 : Int → Getter → Prop, ∃ mu305 : Int → Getter → Nat, inv305 0 (⟨0, [], 0, 0, 0⟩ : Getter) ∧
        (∀ (x43 : Int) (yb289 : Getter), inv305 x43 yb289 →
        (((decide (x43 < (((psplitS u0).1).length : Int))) = true →
          ((0 ≤ x43 ∧ x43 < (((psplitS u0).1).length : Int)) ∧
          (∀ q338, ((psplitS u0).1)[x43.toNat]? = some q338 →
          (q338.length ≤ 140737488355328 →
          (((x43 == u1) = true →
            (inv305 (w64 (x43 + 1)) yb289 ∧ mu305 (w64 (x43 + 1)) yb289 < mu305 x43 yb289)) ∧
          ((x43 == u1) = false →
            ((∀ x ∈ q338, 0 ≤ x ∧ x ≤ 255) ∧
            (((pgetS yb289 q338).2.1).length ≤ 140737488355328 →
            (((pgetS yb289 q338).2.2.1).length ≤ 140737488355328 →
            ((((pgetS yb289 q338).1).Data).length ≤ 140737488355328 →
            (((!((pgetS yb289 q338).2.2.2.2.2)) = true →
              (K false)) ∧
            ((!((pgetS yb289 q338).2.2.2.2.2)) = false →
              (((((pgetS yb289 q338).2.2.2.1) != 0) = true →
                (K ((((pgetS yb289 q338).2.2.2.1) == 14) && (x43 == (w64 (u1 + 1)))))) ∧
              ((((pgetS yb289 q338).2.2.2.1) != 0) = false →
                (inv305 (w64 (x43 + 1)) ((pgetS yb289 q338).1) ∧ mu305 (w64 (x43 + 1)) ((pgetS yb289 q338).1) < mu305 x43 yb289))))))))))))))) ∧
        ((decide (x43 < (((psplitS u0).1).length : Int))) = false →
          (K false)))))))))))
theorem LPLost_mono {u0 : List Int} {u1 : Int} {K K1 : Bool → Prop} (hK : ∀ r, K r → K1 r) (h : LPLost_vc u0 u1 K) : LPLost_vc u0 u1 K1 :=
  fun z0 => fun z1 => ⟨fun c2 => hK _ (((h z0) z1).1 c2), fun c2 => ⟨fun c3 => (Exists.elim ((((h z0) z1).2 c2).1 c3) fun i4 e4 => Exists.elim e4 fun m4 g4 => ⟨i4, m4, g4.1, fun x43 yb98 z4 => ⟨fun c5 => ⟨((g4.2 x43 yb98 z4).1 c5).1, fun q147 z7 => fun z8 => ⟨fun c9 => ((((((g4.2 x43 yb98 z4).1 c5).2) q147 z7) z8).1 c9), fun c9 => ⟨((((((g4.2 x43 yb98 z4).1 c5).2) q147 z7) z8).2 c9).1, fun z11 => fun z12 => fun z13 => ⟨fun c14 => hK _ (((((((((((g4.2 x43 yb98 z4).1 c5).2) q147 z7) z8).2 c9).2) z11) z12) z13).1 c14), fun c14 => ⟨fun c15 => hK _ ((((((((((((g4.2 x43 yb98 z4).1 c5).2) q147 z7) z8).2 c9).2) z11) z12) z13).2 c14).1 c15), fun c15 => ((((((((((((g4.2 x43 yb98 z4).1 c5).2) q147 z7) z8).2 c9).2) z11) z12) z13).2 c14).2 c15)⟩⟩⟩⟩⟩, fun c5 => hK _ ((g4.2 x43 yb98 z4).2 c5)⟩⟩), fun c3 => (Exists.elim ((((h z0) z1).2 c2).2 c3) fun i4 e4 => Exists.elim e4 fun m4 g4 => ⟨i4, m4, g4.1, fun x43 yb289 z4 => ⟨fun c5 => ⟨((g4.2 x43 yb289 z4).1 c5).1, fun q338 z7 => fun z8 => ⟨fun c9 => ((((((g4.2 x43 yb289 z4).1 c5).2) q338 z7) z8).1 c9), fun c9 => ⟨((((((g4.2 x43 yb289 z4).1 c5).2) q338 z7) z8).2 c9).1, fun z11 => fun z12 => fun z13 => ⟨fun c14 => hK _ (((((((((((g4.2 x43 yb289 z4).1 c5).2) q338 z7) z8).2 c9).2) z11) z12) z13).1 c14), fun c14 => ⟨fun c15 => hK _ ((((((((((((g4.2 x43 yb289 z4).1 c5).2) q338 z7) z8).2 c9).2) z11) z12) z13).2 c14).1 c15), fun c15 => ((((((((((((g4.2 x43 yb289 z4).1 c5).2) q338 z7) z8).2 c9).2) z11) z12) z13).2 c14).2 c15)⟩⟩⟩⟩⟩, fun c5 => hK _ ((g4.2 x43 yb289 z4).2 c5)⟩⟩)⟩⟩

def LPAnew_vc (u0 : Getter) (u1 : List Int) (K : Bool → Prop) : Prop :=
  (u0.Data.length ≤ 140737488355328 →
    (u1.length ≤ 140737488355328 →
    (((psplitS u1).1).length ≤ 140737488355328 →
    ((((((psplitS u1).2) != 0) || ((pcheckg u0) != 0)) = true →
      (K true)) ∧
    (((((psplitS u1).2) != 0) || ((pcheckg u0) != 0)) = false →
      (∃ inv88 : Int → Getter → Prop, ∃ mu88 : Int → Getter → Nat, inv88 0 u0 ∧
      (∀ (x32 : Int) (yb10 : Getter), inv88 x32 yb10 →
      (((decide (x32 < (((psplitS u1).1).length : Int))) = true →
        ((0 ≤ x32 ∧ x32 < (((psplitS u1).1).length : Int)) ∧
        (∀ q122, ((psplitS u1).1)[x32.toNat]? = some q122 →
        (q122.length ≤ 140737488355328 →
        ((∀ x ∈ q122, 0 ≤ x ∧ x ≤ 255) ∧
        (((pgetS yb10 q122).2.1).length ≤ 140737488355328 →
        (((pgetS yb10 q122).2.2.1).length ≤ 140737488355328 →
        ((((pgetS yb10 q122).1).Data).length ≤ 140737488355328 →
        (((((pgetS yb10 q122).2.2.2.1) != 0) = true →
          (K false)) ∧
        ((((pgetS yb10 q122).2.2.2.1) != 0) = false →
          ((((!((pgetS yb10 q122).2.2.2.2.2)) != (x32 == (w64 ((((psplitS u1).1).length : Int) - 1)))) = true →
            (K false)) ∧
          (((!((pgetS yb10 q122).2.2.2.2.2)) != (x32 == (w64 ((((psplitS u1).1).length : Int) - 1)))) = false →
            (((!((pgetS yb10 q122).2.2.2.2.2)) = true →
              (K ((beqS ((pgetS yb10 q122).2.2.1) u1) && ((((pgetS yb10 q122).1).Want) == 0)))) ∧
            ((!((pgetS yb10 q122).2.2.2.2.2)) = false →
              (inv88 (w64 (x32 + 1)) ((pgetS yb10 q122).1) ∧ mu88 (w64 (x32 + 1)) ((pgetS yb10 q122).1) < mu88 x32 yb10))))))))))))))) ∧
      ((decide (x32 < (((psplitS u1).1).length : Int))) = false →
        (K false))))))))))
theorem LPAnew_mono {u0 : Getter} {u1 : List Int} {K K1 : Bool → Prop} (hK : ∀ r, K r → K1 r) (h : LPAnew_vc u0 u1 K) : LPAnew_vc u0 u1 K1 :=
  fun z0 => fun z1 => fun z2 => ⟨fun c3 => hK _ ((((h z0) z1) z2).1 c3), fun c3 => (Exists.elim ((((h z0) z1) z2).2 c3) fun i4 e4 => Exists.elim e4 fun m4 g4 => ⟨i4, m4, g4.1, fun x32 yb10 z4 => ⟨fun c5 => ⟨((g4.2 x32 yb10 z4).1 c5).1, fun q122 z7 => fun z8 => ⟨(((((g4.2 x32 yb10 z4).1 c5).2) q122 z7) z8).1, fun z10 => fun z11 => fun z12 => ⟨fun c13 => hK _ ((((((((((g4.2 x32 yb10 z4).1 c5).2) q122 z7) z8).2) z10) z11) z12).1 c13), fun c13 => ⟨fun c14 => hK _ (((((((((((g4.2 x32 yb10 z4).1 c5).2) q122 z7) z8).2) z10) z11) z12).2 c13).1 c14), fun c14 => ⟨fun c15 => hK _ ((((((((((((g4.2 x32 yb10 z4).1 c5).2) q122 z7) z8).2) z10) z11) z12).2 c13).2 c14).1 c15), fun c15 => ((((((((((((g4.2 x32 yb10 z4).1 c5).2) q122 z7) z8).2) z10) z11) z12).2 c13).2 c14).2 c15)⟩⟩⟩⟩⟩, fun c5 => hK _ ((g4.2 x32 yb10 z4).2 c5)⟩⟩)⟩

end Go.Proofs.Ytkogkombalcgeaa
