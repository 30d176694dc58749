/- What must hold so that each function ends well: pure predicates, made by program. -/
import Derived.Test.YtkogkombalcgeaaPO
set_option linter.unusedVariables false
set_option linter.unusedSimpArgs false
namespace Go.Proofs.Ytkogkombalcgeaa
open Go.Sy Go.RowKit
def LPSplit_vc (u0 : List Int) (K : Bool → Prop) : Prop :=
  (u0.length ≤ 140737488355328 →
    (((psplitS u0).1).length ≤ 140737488355328 →
    ((((pbeginS u0).1).Data).length ≤ 140737488355328 →
    (((pbeginS u0).2.1).length ≤ 140737488355328 →
    ((((pbad u0) != 0) = true →
      (K (((((((psplitS u0).2) == (pbad u0)) && (((pbeginS u0).2.2) == (pbad u0))) && ((((psplitS u0).1).length : Int) == 0)) && ((((pbeginS u0).2.1).length : Int) == 0)) && (psames ((pbeginS u0).1) (⟨[], 0, 0, 0, false⟩ : Sender))))) ∧
    (((pbad u0) != 0) = false →
      ((u0.length ≤ 300) ∧
      ((ppartsofS u0).length ≤ 140737488355328 →
      (((((ppartsofS u0).length : Int) == 1) = true →
        (((((((psplitS u0).2) == 0) && (((pbeginS u0).2.2) == 0)) && (psamep ((psplitS u0).1) (ppartsofS u0))) = true →
          ((0 ≤ (0 : Int) ∧ (0 : Int) < ((ppartsofS u0).length : Int)) ∧
          (∀ q266, (ppartsofS u0)[(0 : Int).toNat]? = some q266 →
          (q266.length ≤ 140737488355328 →
          (K ((beqS ((pbeginS u0).2.1) q266) && (psames ((pbeginS u0).1) (⟨u0, (u0.length : Int), 1, 0, true⟩ : Sender)))))))) ∧
        ((((((psplitS u0).2) == 0) && (((pbeginS u0).2.2) == 0)) && (psamep ((psplitS u0).1) (ppartsofS u0))) = false →
          (K false)))) ∧
      ((((ppartsofS u0).length : Int) == 1) = false →
        (((((((psplitS u0).2) == 0) && (((pbeginS u0).2.2) == 0)) && (psamep ((psplitS u0).1) (ppartsofS u0))) = true →
          ((0 ≤ (0 : Int) ∧ (0 : Int) < ((ppartsofS u0).length : Int)) ∧
          (∀ q379, (ppartsofS u0)[(0 : Int).toNat]? = some q379 →
          (q379.length ≤ 140737488355328 →
          (K ((beqS ((pbeginS u0).2.1) q379) && (psames ((pbeginS u0).1) (⟨u0, 6, 1, -1, false⟩ : Sender)))))))) ∧
        ((((((psplitS u0).2) == 0) && (((pbeginS u0).2.2) == 0)) && (psamep ((psplitS u0).1) (ppartsofS u0))) = false →
          (K false)))))))))))))
theorem LPSplit_mono {u0 : List Int} {K K1 : Bool → Prop} (hK : ∀ r, K r → K1 r) (h : LPSplit_vc u0 K) : LPSplit_vc u0 K1 :=
  fun z0 => fun z1 => fun z2 => fun z3 => ⟨fun c4 => hK _ (((((h z0) z1) z2) z3).1 c4), fun c4 => ⟨(((((h z0) z1) z2) z3).2 c4).1, fun z6 => ⟨fun c7 => ⟨fun c8 => ⟨(((((((((h z0) z1) z2) z3).2 c4).2) z6).1 c7).1 c8).1, fun q266 z10 => fun z11 => hK _ ((((((((((((h z0) z1) z2) z3).2 c4).2) z6).1 c7).1 c8).2) q266 z10) z11)⟩, fun c8 => hK _ (((((((((h z0) z1) z2) z3).2 c4).2) z6).1 c7).2 c8)⟩, fun c7 => ⟨fun c8 => ⟨(((((((((h z0) z1) z2) z3).2 c4).2) z6).2 c7).1 c8).1, fun q379 z10 => fun z11 => hK _ ((((((((((((h z0) z1) z2) z3).2 c4).2) z6).2 c7).1 c8).2) q379 z10) z11)⟩, fun c8 => hK _ (((((((((h z0) z1) z2) z3).2 c4).2) z6).2 c7).2 c8)⟩⟩⟩⟩

def LPTold_vc (u0 : Sender) (u1 : List Int) (K : Bool → Prop) : Prop :=
  (u0.Data.length ≤ 140737488355328 →
    (u1.length ≤ 140737488355328 →
    ((((ptold u0 u1).1).Data).length ≤ 140737488355328 →
    (((pnext u0).2.1).length ≤ 140737488355328 →
    ((((pnext u0).1).Data).length ≤ 140737488355328 →
    ((((pchecks u0) != (pchecks u0)) = true →
      (K false)) ∧
    (((pchecks u0) != (pchecks u0)) = false →
      ((((pchecks u0) != 0) = true →
        (K (((((((ptold u0 u1).2) == (pchecks u0)) && (((pnext u0).2.2) == (pchecks u0))) && (psames ((ptold u0 u1).1) (⟨[], 0, 0, 0, false⟩ : Sender))) && (psames ((pnext u0).1) (⟨[], 0, 0, 0, false⟩ : Sender))) && ((((pnext u0).2.1).length : Int) == 0)))) ∧
      (((pchecks u0) != 0) = false →
        (∃ inv200 : Int → Sender → Prop,
        ((((u1.length : Int) != 3) = true →
          (inv200 4 u0)) ∧
        (((u1.length : Int) != 3) = false →
          ((0 ≤ (0 : Int) ∧ (0 : Int) < (u1.length : Int)) ∧
          (∀ q887, u1[(0 : Int).toNat]? = some q887 →
          (((decide (q887 < 48)) = true →
            (inv200 4 u0)) ∧
          ((decide (q887 < 48)) = false →
            ((0 ≤ (0 : Int) ∧ (0 : Int) < (u1.length : Int)) ∧
            (∀ q931, u1[(0 : Int).toNat]? = some q931 →
            (((decide (q931 > 50)) = true →
              (inv200 4 u0)) ∧
            ((decide (q931 > 50)) = false →
              (((u0.Done || (u0.Left != (-1))) = true →
                (inv200 12 u0)) ∧
              ((u0.Done || (u0.Left != (-1))) = false →
                ((0 ≤ (0 : Int) ∧ (0 : Int) < (u1.length : Int)) ∧
                (∀ q988, u1[(0 : Int).toNat]? = some q988 →
                (((q988 == 50) = true →
                  (inv200 11 u0)) ∧
                ((q988 == 50) = false →
                  ((0 ≤ (0 : Int) ∧ (0 : Int) < (u1.length : Int)) ∧
                  (∀ q1015, u1[(0 : Int).toNat]? = some q1015 →
                  (((q1015 == 48) = true →
                    ((0 ≤ (1 : Int) ∧ (1 : Int) < (u1.length : Int)) ∧
                    (∀ q1038, u1[(1 : Int).toNat]? = some q1038 →
                    (inv200 (pchecks u0) (⟨u0.Data, u0.At, u0.Next, w64 q1038, u0.Done⟩ : Sender))))) ∧
                  ((q1015 == 48) = false →
                    (inv200 (pchecks u0) u0))))))))))))))))))))) ∧
        (∀ (x10 : Int) (yb191 : Sender), inv200 x10 yb191 →
          (((((((ptold u0 u1).2) != x10) || ((x10 != 0) && (!(psames ((ptold u0 u1).1) (⟨[], 0, 0, 0, false⟩ : Sender))))) || ((x10 == 0) && (!(psames ((ptold u0 u1).1) yb191)))) = true →
            (K false)) ∧
          ((((((ptold u0 u1).2) != x10) || ((x10 != 0) && (!(psames ((ptold u0 u1).1) (⟨[], 0, 0, 0, false⟩ : Sender))))) || ((x10 == 0) && (!(psames ((ptold u0 u1).1) yb191)))) = false →
            (((u0.Done || (u0.Left == (-1))) = true →
              (K (((((pnext u0).2.2) == 12) && (psames ((pnext u0).1) (⟨[], 0, 0, 0, false⟩ : Sender))) && ((((pnext u0).2.1).length : Int) == 0)))) ∧
            ((u0.Done || (u0.Left == (-1))) = false →
              ((u0.Data.length ≤ 300) ∧
              ((ppartsofS u0.Data).length ≤ 140737488355328 →
              ((((min (w64 (u0.At + 7)) (u0.Data.length : Int)) == (u0.Data.length : Int)) = true →
                (((((pnext u0).2.2) == 0) = true →
                  ((0 ≤ w64 ((w64 ((w64 (u0.At - 6)).tdiv 7)) + 1) ∧ w64 ((w64 ((w64 (u0.At - 6)).tdiv 7)) + 1) < ((ppartsofS u0.Data).length : Int)) ∧
                  (∀ q461, (ppartsofS u0.Data)[(w64 ((w64 ((w64 (u0.At - 6)).tdiv 7)) + 1)).toNat]? = some q461 →
                  (q461.length ≤ 140737488355328 →
                  (K ((beqS ((pnext u0).2.1) q461) && (psames ((pnext u0).1) (⟨u0.Data, min (w64 (u0.At + 7)) (u0.Data.length : Int), (w64 (u0.Next + 1)).tmod 16, 0, (min (w64 (u0.At + 7)) (u0.Data.length : Int)) == (u0.Data.length : Int)⟩ : Sender)))))))) ∧
                ((((pnext u0).2.2) == 0) = false →
                  (K false)))) ∧
              (((min (w64 (u0.At + 7)) (u0.Data.length : Int)) == (u0.Data.length : Int)) = false →
                (((u0.Left == 1) = true →
                  (((((pnext u0).2.2) == 0) = true →
                    ((0 ≤ w64 ((w64 ((w64 (u0.At - 6)).tdiv 7)) + 1) ∧ w64 ((w64 ((w64 (u0.At - 6)).tdiv 7)) + 1) < ((ppartsofS u0.Data).length : Int)) ∧
                    (∀ q569, (ppartsofS u0.Data)[(w64 ((w64 ((w64 (u0.At - 6)).tdiv 7)) + 1)).toNat]? = some q569 →
                    (q569.length ≤ 140737488355328 →
                    (K ((beqS ((pnext u0).2.1) q569) && (psames ((pnext u0).1) (⟨u0.Data, min (w64 (u0.At + 7)) (u0.Data.length : Int), (w64 (u0.Next + 1)).tmod 16, -1, (min (w64 (u0.At + 7)) (u0.Data.length : Int)) == (u0.Data.length : Int)⟩ : Sender)))))))) ∧
                  ((((pnext u0).2.2) == 0) = false →
                    (K false)))) ∧
                ((u0.Left == 1) = false →
                  (((decide (u0.Left > 1)) = true →
                    (((((pnext u0).2.2) == 0) = true →
                      ((0 ≤ w64 ((w64 ((w64 (u0.At - 6)).tdiv 7)) + 1) ∧ w64 ((w64 ((w64 (u0.At - 6)).tdiv 7)) + 1) < ((ppartsofS u0.Data).length : Int)) ∧
                      (∀ q682, (ppartsofS u0.Data)[(w64 ((w64 ((w64 (u0.At - 6)).tdiv 7)) + 1)).toNat]? = some q682 →
                      (q682.length ≤ 140737488355328 →
                      (K ((beqS ((pnext u0).2.1) q682) && (psames ((pnext u0).1) (⟨u0.Data, min (w64 (u0.At + 7)) (u0.Data.length : Int), (w64 (u0.Next + 1)).tmod 16, w64 (u0.Left - 1), (min (w64 (u0.At + 7)) (u0.Data.length : Int)) == (u0.Data.length : Int)⟩ : Sender)))))))) ∧
                    ((((pnext u0).2.2) == 0) = false →
                      (K false)))) ∧
                  ((decide (u0.Left > 1)) = false →
                    (((((pnext u0).2.2) == 0) = true →
                      ((0 ≤ w64 ((w64 ((w64 (u0.At - 6)).tdiv 7)) + 1) ∧ w64 ((w64 ((w64 (u0.At - 6)).tdiv 7)) + 1) < ((ppartsofS u0.Data).length : Int)) ∧
                      (∀ q774, (ppartsofS u0.Data)[(w64 ((w64 ((w64 (u0.At - 6)).tdiv 7)) + 1)).toNat]? = some q774 →
                      (q774.length ≤ 140737488355328 →
                      (K ((beqS ((pnext u0).2.1) q774) && (psames ((pnext u0).1) (⟨u0.Data, min (w64 (u0.At + 7)) (u0.Data.length : Int), (w64 (u0.Next + 1)).tmod 16, u0.Left, (min (w64 (u0.At + 7)) (u0.Data.length : Int)) == (u0.Data.length : Int)⟩ : Sender)))))))) ∧
                    ((((pnext u0).2.2) == 0) = false →
                      (K false))))))))))))))))))))))))))
theorem LPTold_mono {u0 : Sender} {u1 : List Int} {K K1 : Bool → Prop} (hK : ∀ r, K r → K1 r) (h : LPTold_vc u0 u1 K) : LPTold_vc u0 u1 K1 :=
  fun z0 => fun z1 => fun z2 => fun z3 => fun z4 => ⟨fun c5 => hK _ ((((((h z0) z1) z2) z3) z4).1 c5), fun c5 => ⟨fun c6 => hK _ (((((((h z0) z1) z2) z3) z4).2 c5).1 c6), fun c6 => (Exists.elim (((((((h z0) z1) z2) z3) z4).2 c5).2 c6) fun i7 e7 => ⟨i7, ⟨fun c8 => (e7.1.1 c8), fun c8 => ⟨(e7.1.2 c8).1, fun q887 z10 => ⟨fun c11 => ((((e7.1.2 c8).2) q887 z10).1 c11), fun c11 => ⟨((((e7.1.2 c8).2) q887 z10).2 c11).1, fun q931 z13 => ⟨fun c14 => (((((((e7.1.2 c8).2) q887 z10).2 c11).2) q931 z13).1 c14), fun c14 => ⟨fun c15 => ((((((((e7.1.2 c8).2) q887 z10).2 c11).2) q931 z13).2 c14).1 c15), fun c15 => ⟨((((((((e7.1.2 c8).2) q887 z10).2 c11).2) q931 z13).2 c14).2 c15).1, fun q988 z17 => ⟨fun c18 => (((((((((((e7.1.2 c8).2) q887 z10).2 c11).2) q931 z13).2 c14).2 c15).2) q988 z17).1 c18), fun c18 => ⟨(((((((((((e7.1.2 c8).2) q887 z10).2 c11).2) q931 z13).2 c14).2 c15).2) q988 z17).2 c18).1, fun q1015 z20 => ⟨fun c21 => ⟨((((((((((((((e7.1.2 c8).2) q887 z10).2 c11).2) q931 z13).2 c14).2 c15).2) q988 z17).2 c18).2) q1015 z20).1 c21).1, fun q1038 z23 => ((((((((((((((((e7.1.2 c8).2) q887 z10).2 c11).2) q931 z13).2 c14).2 c15).2) q988 z17).2 c18).2) q1015 z20).1 c21).2) q1038 z23)⟩, fun c21 => ((((((((((((((e7.1.2 c8).2) q887 z10).2 c11).2) q931 z13).2 c14).2 c15).2) q988 z17).2 c18).2) q1015 z20).2 c21)⟩⟩⟩⟩⟩⟩⟩⟩⟩⟩, fun x10 yb191 z7 => ⟨fun c8 => hK _ ((e7.2 x10 yb191 z7).1 c8), fun c8 => ⟨fun c9 => hK _ (((e7.2 x10 yb191 z7).2 c8).1 c9), fun c9 => ⟨(((e7.2 x10 yb191 z7).2 c8).2 c9).1, fun z11 => ⟨fun c12 => ⟨fun c13 => ⟨(((((((e7.2 x10 yb191 z7).2 c8).2 c9).2) z11).1 c12).1 c13).1, fun q461 z15 => fun z16 => hK _ ((((((((((e7.2 x10 yb191 z7).2 c8).2 c9).2) z11).1 c12).1 c13).2) q461 z15) z16)⟩, fun c13 => hK _ (((((((e7.2 x10 yb191 z7).2 c8).2 c9).2) z11).1 c12).2 c13)⟩, fun c12 => ⟨fun c13 => ⟨fun c14 => ⟨((((((((e7.2 x10 yb191 z7).2 c8).2 c9).2) z11).2 c12).1 c13).1 c14).1, fun q569 z16 => fun z17 => hK _ (((((((((((e7.2 x10 yb191 z7).2 c8).2 c9).2) z11).2 c12).1 c13).1 c14).2) q569 z16) z17)⟩, fun c14 => hK _ ((((((((e7.2 x10 yb191 z7).2 c8).2 c9).2) z11).2 c12).1 c13).2 c14)⟩, fun c13 => ⟨fun c14 => ⟨fun c15 => ⟨(((((((((e7.2 x10 yb191 z7).2 c8).2 c9).2) z11).2 c12).2 c13).1 c14).1 c15).1, fun q682 z17 => fun z18 => hK _ ((((((((((((e7.2 x10 yb191 z7).2 c8).2 c9).2) z11).2 c12).2 c13).1 c14).1 c15).2) q682 z17) z18)⟩, fun c15 => hK _ (((((((((e7.2 x10 yb191 z7).2 c8).2 c9).2) z11).2 c12).2 c13).1 c14).2 c15)⟩, fun c14 => ⟨fun c15 => ⟨(((((((((e7.2 x10 yb191 z7).2 c8).2 c9).2) z11).2 c12).2 c13).2 c14).1 c15).1, fun q774 z17 => fun z18 => hK _ ((((((((((((e7.2 x10 yb191 z7).2 c8).2 c9).2) z11).2 c12).2 c13).2 c14).1 c15).2) q774 z17) z18)⟩, fun c15 => hK _ (((((((((e7.2 x10 yb191 z7).2 c8).2 c9).2) z11).2 c12).2 c13).2 c14).2 c15)⟩⟩⟩⟩⟩⟩⟩⟩)⟩⟩

def LPGet_vc (u0 : Getter) (u1 : List Int) (K : Bool → Prop) : Prop :=
  (u0.Data.length ≤ 140737488355328 →
    (u1.length ≤ 140737488355328 →
    ((∀ x ∈ u1, 0 ≤ x ∧ x ≤ 255) ∧
    (((pgetS u0 u1).2.1).length ≤ 140737488355328 →
    (((pgetS u0 u1).2.2.1).length ≤ 140737488355328 →
    ((((pgetS u0 u1).1).Data).length ≤ 140737488355328 →
    ((((pcheckg u0) != (rcheckg u0)) = true →
      (K false)) ∧
    (((pcheckg u0) != (rcheckg u0)) = false →
      (∃ inv140 : Int → (List Int) → (List Int) → Getter → Prop,
      ((((rcheckg u0) != 0) = true →
        (inv140 (rcheckg u0) [] [] (⟨0, [], 0, u0.Block, 0⟩ : Getter))) ∧
      (((rcheckg u0) != 0) = false →
        ((((u1.length : Int) == 0) = true →
          (inv140 7 [] [] (⟨0, [], 0, u0.Block, 0⟩ : Getter))) ∧
        (((u1.length : Int) == 0) = false →
          (((decide ((u1.length : Int) > 8)) = true →
            (inv140 2 [] [] (⟨0, [], 0, u0.Block, 0⟩ : Getter))) ∧
          ((decide ((u1.length : Int) > 8)) = false →
            ((0 ≤ (0 : Int) ∧ (0 : Int) < (u1.length : Int)) ∧
            (∀ q313, u1[(0 : Int).toNat]? = some q313 →
            (((decide (q313 < 16)) = true →
              ((0 ≤ (1 : Int) ∧ (1 : Int) ≤ (u1.length : Int)) ∧
              ((0 ≤ (0 : Int) ∧ (0 : Int) < (u1.length : Int)) ∧
              (∀ q350, u1[(0 : Int).toNat]? = some q350 →
              (((q350 == 0) = true →
                (inv140 4 [] (u1.drop (1 : Int).toNat) (⟨0, [], 0, u0.Block, 0⟩ : Getter))) ∧
              ((q350 == 0) = false →
                ((0 ≤ (0 : Int) ∧ (0 : Int) < (u1.length : Int)) ∧
                (∀ q410, u1[(0 : Int).toNat]? = some q410 →
                (((decide (q410 > 7)) = true →
                  (inv140 4 [] (u1.drop (1 : Int).toNat) (⟨0, [], 0, u0.Block, 0⟩ : Getter))) ∧
                ((decide (q410 > 7)) = false →
                  ((0 ≤ (0 : Int) ∧ (0 : Int) < (u1.length : Int)) ∧
                  (∀ q464, u1[(0 : Int).toNat]? = some q464 →
                  ((((u1.length : Int) != (w64 ((w64 q464) + 1))) = true →
                    (inv140 4 [] (u1.drop (1 : Int).toNat) (⟨0, [], 0, u0.Block, 0⟩ : Getter))) ∧
                  (((u1.length : Int) != (w64 ((w64 q464) + 1))) = false →
                    (inv140 (rcheckg u0) [] (u1.drop (1 : Int).toNat) (⟨0, [], 0, u0.Block, 0⟩ : Getter)))))))))))))))) ∧
            ((decide (q313 < 16)) = false →
              ((0 ≤ (0 : Int) ∧ (0 : Int) < (u1.length : Int)) ∧
              (∀ q498, u1[(0 : Int).toNat]? = some q498 →
              (((decide (q498 < 32)) = true →
                (((decide ((u1.length : Int) > 1)) = true →
                  ((0 ≤ (0 : Int) ∧ (0 : Int) < (u1.length : Int)) ∧
                  (∀ q536, u1[(0 : Int).toNat]? = some q536 →
                  ((0 ≤ (1 : Int) ∧ (1 : Int) < (u1.length : Int)) ∧
                  (∀ q564, u1[(1 : Int).toNat]? = some q564 →
                  (((((u1.length : Int) != 8) || (decide ((w64 ((w64 ((w64 (w8 (q536 - 16))) * 256)) + (w64 q564))) < 8))) = true →
                    (inv140 4 [] [] (⟨0, [], 0, u0.Block, 0⟩ : Getter))) ∧
                  ((((u1.length : Int) != 8) || (decide ((w64 ((w64 ((w64 (w8 (q536 - 16))) * 256)) + (w64 q564))) < 8))) = false →
                    (((decide ((w64 ((w64 ((w64 (w8 (q536 - 16))) * 256)) + (w64 q564))) > 300)) = true →
                      (inv140 (rcheckg u0) ([50, 0, 0] : List Int) [] (⟨0, [], 0, u0.Block, 0⟩ : Getter))) ∧
                    ((decide ((w64 ((w64 ((w64 (w8 (q536 - 16))) * 256)) + (w64 q564))) > 300)) = false →
                      ((0 ≤ (2 : Int) ∧ (2 : Int) ≤ (u1.length : Int)) ∧
                      (inv140 (rcheckg u0) ([48, w8 u0.Block, 0] : List Int) [] (⟨w64 ((w64 ((w64 (w8 (q536 - 16))) * 256)) + (w64 q564)), u1.drop (2 : Int).toNat, 1, u0.Block, u0.Block⟩ : Getter)))))))))))) ∧
                ((decide ((u1.length : Int) > 1)) = false →
                  (((((u1.length : Int) != 8) || true) = true →
                    (inv140 4 [] [] (⟨0, [], 0, u0.Block, 0⟩ : Getter))) ∧
                  ((((u1.length : Int) != 8) || true) = false →
                    ((0 ≤ (2 : Int) ∧ (2 : Int) ≤ (u1.length : Int)) ∧
                    (inv140 (rcheckg u0) ([48, w8 u0.Block, 0] : List Int) [] (⟨0, u1.drop (2 : Int).toNat, 1, u0.Block, u0.Block⟩ : Getter)))))))) ∧
              ((decide (q498 < 32)) = false →
                ((0 ≤ (0 : Int) ∧ (0 : Int) < (u1.length : Int)) ∧
                (∀ q982, u1[(0 : Int).toNat]? = some q982 →
                (((decide (q982 < 48)) = true →
                  (((u0.Want == 0) = true →
                    (inv140 12 [] [] (⟨0, [], 0, u0.Block, 0⟩ : Getter))) ∧
                  ((u0.Want == 0) = false →
                    ((0 ≤ (0 : Int) ∧ (0 : Int) < (u1.length : Int)) ∧
                    (∀ q1024, u1[(0 : Int).toNat]? = some q1024 →
                    ((((w64 (w8 (q1024 - 32))) != u0.Next) = true →
                      (inv140 14 [] [] (⟨0, [], 0, u0.Block, 0⟩ : Getter))) ∧
                    (((w64 (w8 (q1024 - 32))) != u0.Next) = false →
                      ((((u1.length : Int) != (w64 (1 + (min 7 (w64 (u0.Want - (u0.Data.length : Int))))))) = true →
                        (inv140 4 [] [] (⟨0, [], 0, u0.Block, 0⟩ : Getter))) ∧
                      (((u1.length : Int) != (w64 (1 + (min 7 (w64 (u0.Want - (u0.Data.length : Int))))))) = false →
                        ((((w64 ((w64 ((u0.Data.length : Int) + (u1.length : Int))) - 1)) == u0.Want) = true →
                          ((0 ≤ (1 : Int) ∧ (1 : Int) ≤ (u1.length : Int)) ∧
                          (((∀ l ∈ ([u0.Data, u1.drop (1 : Int).toNat] : List (List Int)), l.length ≤ 1048576) ∧ ([u0.Data, u1.drop (1 : Int).toNat] : List (List Int)).length ≤ 2) ∧
                          (inv140 (rcheckg u0) [] (bconcatS ([u0.Data, u1.drop (1 : Int).toNat] : List (List Int))) (⟨0, [], 0, u0.Block, 0⟩ : Getter))))) ∧
                        (((w64 ((w64 ((u0.Data.length : Int) + (u1.length : Int))) - 1)) == u0.Want) = false →
                          ((0 ≤ (1 : Int) ∧ (1 : Int) ≤ (u1.length : Int)) ∧
                          (((∀ l ∈ ([u0.Data, u1.drop (1 : Int).toNat] : List (List Int)), l.length ≤ 1048576) ∧ ([u0.Data, u1.drop (1 : Int).toNat] : List (List Int)).length ≤ 2) ∧
                          (((decide (u0.Block > 0)) = true →
                            ((((w64 (u0.Left - 1)) == 0) = true →
                              (inv140 (rcheckg u0) ([48, w8 u0.Block, 0] : List Int) [] (⟨u0.Want, (bconcatS ([u0.Data, u1.drop (1 : Int).toNat] : List (List Int))), (w64 (u0.Next + 1)).tmod 16, u0.Block, u0.Block⟩ : Getter))) ∧
                            (((w64 (u0.Left - 1)) == 0) = false →
                              (inv140 (rcheckg u0) [] [] (⟨u0.Want, (bconcatS ([u0.Data, u1.drop (1 : Int).toNat] : List (List Int))), (w64 (u0.Next + 1)).tmod 16, u0.Block, w64 (u0.Left - 1)⟩ : Getter))))) ∧
                          ((decide (u0.Block > 0)) = false →
                            (inv140 (rcheckg u0) [] [] (⟨u0.Want, (bconcatS ([u0.Data, u1.drop (1 : Int).toNat] : List (List Int))), (w64 (u0.Next + 1)).tmod 16, u0.Block, u0.Left⟩ : Getter))))))))))))))))) ∧
                ((decide (q982 < 48)) = false →
                  (inv140 8 [] [] (⟨0, [], 0, u0.Block, 0⟩ : Getter)))))))))))))))))))) ∧
      (∀ (x9 : Int) (x11 : List Int) (x12 : List Int) (yb111 : Getter), inv140 x9 x11 x12 yb111 →
        (((x9 != 0) = true →
          (K ((((((pgetS u0 u1).2.2.2.1) == x9) && (psameg ((pgetS u0 u1).1) (⟨0, [], 0, 0, 0⟩ : Getter))) && ((((pgetS u0 u1).2.1).length : Int) == 0)) && ((((pgetS u0 u1).2.2.1).length : Int) == 0)))) ∧
        ((x9 != 0) = false →
          (K ((((((pgetS u0 u1).2.2.2.1) == 0) && (psameg ((pgetS u0 u1).1) yb111)) && (beqS ((pgetS u0 u1).2.1) x11)) && (beqS ((pgetS u0 u1).2.2.1) x12)))))))))))))))
theorem LPGet_mono {u0 : Getter} {u1 : List Int} {K K1 : Bool → Prop} (hK : ∀ r, K r → K1 r) (h : LPGet_vc u0 u1 K) : LPGet_vc u0 u1 K1 :=
  fun z0 => fun z1 => ⟨((h z0) z1).1, fun z3 => fun z4 => fun z5 => ⟨fun c6 => hK _ (((((((h z0) z1).2) z3) z4) z5).1 c6), fun c6 => (Exists.elim (((((((h z0) z1).2) z3) z4) z5).2 c6) fun i7 e7 => ⟨i7, ⟨fun c8 => (e7.1.1 c8), fun c8 => ⟨fun c9 => ((e7.1.2 c8).1 c9), fun c9 => ⟨fun c10 => (((e7.1.2 c8).2 c9).1 c10), fun c10 => ⟨(((e7.1.2 c8).2 c9).2 c10).1, fun q313 z12 => ⟨fun c13 => ⟨((((((e7.1.2 c8).2 c9).2 c10).2) q313 z12).1 c13).1, ⟨(((((((e7.1.2 c8).2 c9).2 c10).2) q313 z12).1 c13).2).1, fun q350 z16 => ⟨fun c17 => ((((((((((e7.1.2 c8).2 c9).2 c10).2) q313 z12).1 c13).2).2) q350 z16).1 c17), fun c17 => ⟨((((((((((e7.1.2 c8).2 c9).2 c10).2) q313 z12).1 c13).2).2) q350 z16).2 c17).1, fun q410 z19 => ⟨fun c20 => (((((((((((((e7.1.2 c8).2 c9).2 c10).2) q313 z12).1 c13).2).2) q350 z16).2 c17).2) q410 z19).1 c20), fun c20 => ⟨(((((((((((((e7.1.2 c8).2 c9).2 c10).2) q313 z12).1 c13).2).2) q350 z16).2 c17).2) q410 z19).2 c20).1, fun q464 z22 => ⟨fun c23 => ((((((((((((((((e7.1.2 c8).2 c9).2 c10).2) q313 z12).1 c13).2).2) q350 z16).2 c17).2) q410 z19).2 c20).2) q464 z22).1 c23), fun c23 => ((((((((((((((((e7.1.2 c8).2 c9).2 c10).2) q313 z12).1 c13).2).2) q350 z16).2 c17).2) q410 z19).2 c20).2) q464 z22).2 c23)⟩⟩⟩⟩⟩⟩⟩, fun c13 => ⟨((((((e7.1.2 c8).2 c9).2 c10).2) q313 z12).2 c13).1, fun q498 z15 => ⟨fun c16 => ⟨fun c17 => ⟨((((((((((e7.1.2 c8).2 c9).2 c10).2) q313 z12).2 c13).2) q498 z15).1 c16).1 c17).1, fun q536 z19 => ⟨((((((((((((e7.1.2 c8).2 c9).2 c10).2) q313 z12).2 c13).2) q498 z15).1 c16).1 c17).2) q536 z19).1, fun q564 z21 => ⟨fun c22 => (((((((((((((((e7.1.2 c8).2 c9).2 c10).2) q313 z12).2 c13).2) q498 z15).1 c16).1 c17).2) q536 z19).2) q564 z21).1 c22), fun c22 => ⟨fun c23 => ((((((((((((((((e7.1.2 c8).2 c9).2 c10).2) q313 z12).2 c13).2) q498 z15).1 c16).1 c17).2) q536 z19).2) q564 z21).2 c22).1 c23), fun c23 => ⟨((((((((((((((((e7.1.2 c8).2 c9).2 c10).2) q313 z12).2 c13).2) q498 z15).1 c16).1 c17).2) q536 z19).2) q564 z21).2 c22).2 c23).1, ((((((((((((((((e7.1.2 c8).2 c9).2 c10).2) q313 z12).2 c13).2) q498 z15).1 c16).1 c17).2) q536 z19).2) q564 z21).2 c22).2 c23).2⟩⟩⟩⟩⟩, fun c17 => ⟨fun c18 => (((((((((((e7.1.2 c8).2 c9).2 c10).2) q313 z12).2 c13).2) q498 z15).1 c16).2 c17).1 c18), fun c18 => ⟨(((((((((((e7.1.2 c8).2 c9).2 c10).2) q313 z12).2 c13).2) q498 z15).1 c16).2 c17).2 c18).1, (((((((((((e7.1.2 c8).2 c9).2 c10).2) q313 z12).2 c13).2) q498 z15).1 c16).2 c17).2 c18).2⟩⟩⟩, fun c16 => ⟨(((((((((e7.1.2 c8).2 c9).2 c10).2) q313 z12).2 c13).2) q498 z15).2 c16).1, fun q982 z18 => ⟨fun c19 => ⟨fun c20 => (((((((((((((e7.1.2 c8).2 c9).2 c10).2) q313 z12).2 c13).2) q498 z15).2 c16).2) q982 z18).1 c19).1 c20), fun c20 => ⟨(((((((((((((e7.1.2 c8).2 c9).2 c10).2) q313 z12).2 c13).2) q498 z15).2 c16).2) q982 z18).1 c19).2 c20).1, fun q1024 z22 => ⟨fun c23 => ((((((((((((((((e7.1.2 c8).2 c9).2 c10).2) q313 z12).2 c13).2) q498 z15).2 c16).2) q982 z18).1 c19).2 c20).2) q1024 z22).1 c23), fun c23 => ⟨fun c24 => (((((((((((((((((e7.1.2 c8).2 c9).2 c10).2) q313 z12).2 c13).2) q498 z15).2 c16).2) q982 z18).1 c19).2 c20).2) q1024 z22).2 c23).1 c24), fun c24 => ⟨fun c25 => ⟨((((((((((((((((((e7.1.2 c8).2 c9).2 c10).2) q313 z12).2 c13).2) q498 z15).2 c16).2) q982 z18).1 c19).2 c20).2) q1024 z22).2 c23).2 c24).1 c25).1, ⟨(((((((((((((((((((e7.1.2 c8).2 c9).2 c10).2) q313 z12).2 c13).2) q498 z15).2 c16).2) q982 z18).1 c19).2 c20).2) q1024 z22).2 c23).2 c24).1 c25).2).1, (((((((((((((((((((e7.1.2 c8).2 c9).2 c10).2) q313 z12).2 c13).2) q498 z15).2 c16).2) q982 z18).1 c19).2 c20).2) q1024 z22).2 c23).2 c24).1 c25).2).2⟩⟩, fun c25 => ⟨((((((((((((((((((e7.1.2 c8).2 c9).2 c10).2) q313 z12).2 c13).2) q498 z15).2 c16).2) q982 z18).1 c19).2 c20).2) q1024 z22).2 c23).2 c24).2 c25).1, ⟨(((((((((((((((((((e7.1.2 c8).2 c9).2 c10).2) q313 z12).2 c13).2) q498 z15).2 c16).2) q982 z18).1 c19).2 c20).2) q1024 z22).2 c23).2 c24).2 c25).2).1, ⟨fun c28 => ⟨fun c29 => ((((((((((((((((((((((e7.1.2 c8).2 c9).2 c10).2) q313 z12).2 c13).2) q498 z15).2 c16).2) q982 z18).1 c19).2 c20).2) q1024 z22).2 c23).2 c24).2 c25).2).2).1 c28).1 c29), fun c29 => ((((((((((((((((((((((e7.1.2 c8).2 c9).2 c10).2) q313 z12).2 c13).2) q498 z15).2 c16).2) q982 z18).1 c19).2 c20).2) q1024 z22).2 c23).2 c24).2 c25).2).2).1 c28).2 c29)⟩, fun c28 => (((((((((((((((((((((e7.1.2 c8).2 c9).2 c10).2) q313 z12).2 c13).2) q498 z15).2 c16).2) q982 z18).1 c19).2 c20).2) q1024 z22).2 c23).2 c24).2 c25).2).2).2 c28)⟩⟩⟩⟩⟩⟩⟩⟩, fun c19 => ((((((((((((e7.1.2 c8).2 c9).2 c10).2) q313 z12).2 c13).2) q498 z15).2 c16).2) q982 z18).2 c19)⟩⟩⟩⟩⟩⟩⟩⟩⟩, fun x9 x11 x12 yb111 z7 => ⟨fun c8 => hK _ ((e7.2 x9 x11 x12 yb111 z7).1 c8), fun c8 => hK _ ((e7.2 x9 x11 x12 yb111 z7).2 c8)⟩⟩)⟩⟩

def LPSend_vc (u0 : List Int) (u1 : Int) (K : Bool → Prop) : Prop :=
  (u0.length ≤ 140737488355328 →
    ((∀ x ∈ u0, 0 ≤ x ∧ x ≤ 255) ∧
    (((psendS u0 u1).1).length ≤ 140737488355328 →
    ((((decide (u1 < 0)) || (decide (u1 > 255))) = true →
      (K (((((psendS u0 u1).2.2) == 3) && ((((psendS u0 u1).1).length : Int) == 0)) && (((psendS u0 u1).2.1) == 0)))) ∧
    (((decide (u1 < 0)) || (decide (u1 > 255))) = false →
      ((((pbad u0) != 0) = true →
        (K (((((psendS u0 u1).2.2) == (pbad u0)) && ((((psendS u0 u1).1).length : Int) == 0)) && (((psendS u0 u1).2.1) == 0)))) ∧
      (((pbad u0) != 0) = false →
        ((u0.length ≤ 300) ∧
        ((ppartsofS u0).length ≤ 140737488355328 →
        (((decide (((ppartsofS u0).length : Int) > 1)) = true →
          (((decide (u1 > 0)) = true →
            ((u1 ≠ 0) ∧
            (K (((((psendS u0 u1).2.2) == 0) && (beqS ((psendS u0 u1).1) u0)) && (((psendS u0 u1).2.1) == (w64 ((w64 (((ppartsofS u0).length : Int) + 1)) + (w64 ((w64 (((ppartsofS u0).length : Int) - 2)).tdiv u1))))))))) ∧
          ((decide (u1 > 0)) = false →
            (K (((((psendS u0 u1).2.2) == 0) && (beqS ((psendS u0 u1).1) u0)) && (((psendS u0 u1).2.1) == (w64 (((ppartsofS u0).length : Int) + 1)))))))) ∧
        ((decide (((ppartsofS u0).length : Int) > 1)) = false →
          (K (((((psendS u0 u1).2.2) == 0) && (beqS ((psendS u0 u1).1) u0)) && (((psendS u0 u1).2.1) == ((ppartsofS u0).length : Int)))))))))))))))
theorem LPSend_mono {u0 : List Int} {u1 : Int} {K K1 : Bool → Prop} (hK : ∀ r, K r → K1 r) (h : LPSend_vc u0 u1 K) : LPSend_vc u0 u1 K1 :=
  fun z0 => ⟨(h z0).1, fun z2 => ⟨fun c3 => hK _ ((((h z0).2) z2).1 c3), fun c3 => ⟨fun c4 => hK _ (((((h z0).2) z2).2 c3).1 c4), fun c4 => ⟨(((((h z0).2) z2).2 c3).2 c4).1, fun z6 => ⟨fun c7 => ⟨fun c8 => ⟨(((((((((h z0).2) z2).2 c3).2 c4).2) z6).1 c7).1 c8).1, hK _ ((((((((((h z0).2) z2).2 c3).2 c4).2) z6).1 c7).1 c8).2)⟩, fun c8 => hK _ (((((((((h z0).2) z2).2 c3).2 c4).2) z6).1 c7).2 c8)⟩, fun c7 => hK _ ((((((((h z0).2) z2).2 c3).2 c4).2) z6).2 c7)⟩⟩⟩⟩⟩

def LPLost_vc (u0 : List Int) (u1 : Int) (K : Bool → Prop) : Prop :=
  (u0.length ≤ 140737488355328 →
    (((psplitS u0).1).length ≤ 140737488355328 →
    ((((((psplitS u0).2) != 0) || (decide ((((psplitS u0).1).length : Int) < 3))) = true →
      (K true)) ∧
    (((((psplitS u0).2) != 0) || (decide ((((psplitS u0).1).length : Int) < 3))) = false →
      ((((decide (u1 < 1)) || (decide (u1 ≥ (w64 ((((psplitS u0).1).length : Int) - 1))))) = true →
        (∃ inv114 : Int → Getter → Prop, ∃ mu114 : Int → Getter → Nat, inv114 0 (⟨0, [], 0, 0, 0⟩ : Getter) ∧
        (∀ (x43 : Int) (yb98 : Getter), inv114 x43 yb98 →
        (((decide (x43 < (((psplitS u0).1).length : Int))) = true →
          ((0 ≤ x43 ∧ x43 < (((psplitS u0).1).length : Int)) ∧
          (∀ q147, ((psplitS u0).1)[x43.toNat]? = some q147 →
          (q147.length ≤ 140737488355328 →
          (((x43 == 1) = true →
            (inv114 (w64 (x43 + 1)) yb98 ∧ mu114 (w64 (x43 + 1)) yb98 < mu114 x43 yb98)) ∧
          ((x43 == 1) = false →
            ((∀ x ∈ q147, 0 ≤ x ∧ x ≤ 255) ∧
            (((pgetS yb98 q147).2.1).length ≤ 140737488355328 →
            (((pgetS yb98 q147).2.2.1).length ≤ 140737488355328 →
            ((((pgetS yb98 q147).1).Data).length ≤ 140737488355328 →
            (((!((pgetS yb98 q147).2.2.2.2.2)) = true →
              (K false)) ∧
            ((!((pgetS yb98 q147).2.2.2.2.2)) = false →
              (((((pgetS yb98 q147).2.2.2.1) != 0) = true →
                (K ((((pgetS yb98 q147).2.2.2.1) == 14) && (x43 == 2)))) ∧
              ((((pgetS yb98 q147).2.2.2.1) != 0) = false →
                (inv114 (w64 (x43 + 1)) ((pgetS yb98 q147).1) ∧ mu114 (w64 (x43 + 1)) ((pgetS yb98 q147).1) < mu114 x43 yb98))))))))))))))) ∧
        ((decide (x43 < (((psplitS u0).1).length : Int))) = false →
          (K false)))))) ∧
      (((decide (u1 < 1)) || (decide (u1 ≥ (w64 ((((psplitS u0).1).length : Int) - 1))))) = false →
        (∃ inv305 : Int → Getter → Prop, ∃ mu305 : Int → Getter → Nat, inv305 0 (⟨0, [], 0, 0, 0⟩ : Getter) ∧
        (∀ (x43 : Int) (yb289 : Getter), inv305 x43 yb289 →
        (((decide (x43 < (((psplitS u0).1).length : Int))) = true →
          ((0 ≤ x43 ∧ x43 < (((psplitS u0).1).length : Int)) ∧
          (∀ q338, ((psplitS u0).1)[x43.toNat]? = some q338 →
          (q338.length ≤ 140737488355328 →
          (((x43 == u1) = true →
            (inv305 (w64 (x43 + 1)) yb289 ∧ mu305 (w64 (x43 + 1)) yb289 < mu305 x43 yb289)) ∧
          ((x43 == u1) = false →
            ((∀ x ∈ q338, 0 ≤ x ∧ x ≤ 255) ∧
            (((pgetS yb289 q338).2.1).length ≤ 140737488355328 →
            (((pgetS yb289 q338).2.2.1).length ≤ 140737488355328 →
            ((((pgetS yb289 q338).1).Data).length ≤ 140737488355328 →
            (((!((pgetS yb289 q338).2.2.2.2.2)) = true →
              (K false)) ∧
            ((!((pgetS yb289 q338).2.2.2.2.2)) = false →
              (((((pgetS yb289 q338).2.2.2.1) != 0) = true →
                (K ((((pgetS yb289 q338).2.2.2.1) == 14) && (x43 == (w64 (u1 + 1)))))) ∧
              ((((pgetS yb289 q338).2.2.2.1) != 0) = false →
                (inv305 (w64 (x43 + 1)) ((pgetS yb289 q338).1) ∧ mu305 (w64 (x43 + 1)) ((pgetS yb289 q338).1) < mu305 x43 yb289))))))))))))))) ∧
        ((decide (x43 < (((psplitS u0).1).length : Int))) = false →
          (K false)))))))))))
theorem LPLost_mono {u0 : List Int} {u1 : Int} {K K1 : Bool → Prop} (hK : ∀ r, K r → K1 r) (h : LPLost_vc u0 u1 K) : LPLost_vc u0 u1 K1 :=
  fun z0 => fun z1 => ⟨fun c2 => hK _ (((h z0) z1).1 c2), fun c2 => ⟨fun c3 => (Exists.elim ((((h z0) z1).2 c2).1 c3) fun i4 e4 => Exists.elim e4 fun m4 g4 => ⟨i4, m4, g4.1, fun x43 yb98 z4 => ⟨fun c5 => ⟨((g4.2 x43 yb98 z4).1 c5).1, fun q147 z7 => fun z8 => ⟨fun c9 => ((((((g4.2 x43 yb98 z4).1 c5).2) q147 z7) z8).1 c9), fun c9 => ⟨((((((g4.2 x43 yb98 z4).1 c5).2) q147 z7) z8).2 c9).1, fun z11 => fun z12 => fun z13 => ⟨fun c14 => hK _ (((((((((((g4.2 x43 yb98 z4).1 c5).2) q147 z7) z8).2 c9).2) z11) z12) z13).1 c14), fun c14 => ⟨fun c15 => hK _ ((((((((((((g4.2 x43 yb98 z4).1 c5).2) q147 z7) z8).2 c9).2) z11) z12) z13).2 c14).1 c15), fun c15 => ((((((((((((g4.2 x43 yb98 z4).1 c5).2) q147 z7) z8).2 c9).2) z11) z12) z13).2 c14).2 c15)⟩⟩⟩⟩⟩, fun c5 => hK _ ((g4.2 x43 yb98 z4).2 c5)⟩⟩), fun c3 => (Exists.elim ((((h z0) z1).2 c2).2 c3) fun i4 e4 => Exists.elim e4 fun m4 g4 => ⟨i4, m4, g4.1, fun x43 yb289 z4 => ⟨fun c5 => ⟨((g4.2 x43 yb289 z4).1 c5).1, fun q338 z7 => fun z8 => ⟨fun c9 => ((((((g4.2 x43 yb289 z4).1 c5).2) q338 z7) z8).1 c9), fun c9 => ⟨((((((g4.2 x43 yb289 z4).1 c5).2) q338 z7) z8).2 c9).1, fun z11 => fun z12 => fun z13 => ⟨fun c14 => hK _ (((((((((((g4.2 x43 yb289 z4).1 c5).2) q338 z7) z8).2 c9).2) z11) z12) z13).1 c14), fun c14 => ⟨fun c15 => hK _ ((((((((((((g4.2 x43 yb289 z4).1 c5).2) q338 z7) z8).2 c9).2) z11) z12) z13).2 c14).1 c15), fun c15 => ((((((((((((g4.2 x43 yb289 z4).1 c5).2) q338 z7) z8).2 c9).2) z11) z12) z13).2 c14).2 c15)⟩⟩⟩⟩⟩, fun c5 => hK _ ((g4.2 x43 yb289 z4).2 c5)⟩⟩)⟩⟩

def LPAnew_vc (u0 : Getter) (u1 : List Int) (K : Bool → Prop) : Prop :=
  (u0.Data.length ≤ 140737488355328 →
    (u1.length ≤ 140737488355328 →
    (((psplitS u1).1).length ≤ 140737488355328 →
    ((((((psplitS u1).2) != 0) || ((pcheckg u0) != 0)) = true →
      (K true)) ∧
    (((((psplitS u1).2) != 0) || ((pcheckg u0) != 0)) = false →
      (∃ inv88 : Int → Getter → Prop, ∃ mu88 : Int → Getter → Nat, inv88 0 u0 ∧
      (∀ (x32 : Int) (yb10 : Getter), inv88 x32 yb10 →
      (((decide (x32 < (((psplitS u1).1).length : Int))) = true →
        ((0 ≤ x32 ∧ x32 < (((psplitS u1).1).length : Int)) ∧
        (∀ q122, ((psplitS u1).1)[x32.toNat]? = some q122 →
        (q122.length ≤ 140737488355328 →
        ((∀ x ∈ q122, 0 ≤ x ∧ x ≤ 255) ∧
        (((pgetS yb10 q122).2.1).length ≤ 140737488355328 →
        (((pgetS yb10 q122).2.2.1).length ≤ 140737488355328 →
        ((((pgetS yb10 q122).1).Data).length ≤ 140737488355328 →
        (((((pgetS yb10 q122).2.2.2.1) != 0) = true →
          (K false)) ∧
        ((((pgetS yb10 q122).2.2.2.1) != 0) = false →
          ((((!((pgetS yb10 q122).2.2.2.2.2)) != (x32 == (w64 ((((psplitS u1).1).length : Int) - 1)))) = true →
            (K false)) ∧
          (((!((pgetS yb10 q122).2.2.2.2.2)) != (x32 == (w64 ((((psplitS u1).1).length : Int) - 1)))) = false →
            (((!((pgetS yb10 q122).2.2.2.2.2)) = true →
              (K ((beqS ((pgetS yb10 q122).2.2.1) u1) && ((((pgetS yb10 q122).1).Want) == 0)))) ∧
            ((!((pgetS yb10 q122).2.2.2.2.2)) = false →
              (inv88 (w64 (x32 + 1)) ((pgetS yb10 q122).1) ∧ mu88 (w64 (x32 + 1)) ((pgetS yb10 q122).1) < mu88 x32 yb10))))))))))))))) ∧
      ((decide (x32 < (((psplitS u1).1).length : Int))) = false →
        (K false))))))))))
theorem LPAnew_mono {u0 : Getter} {u1 : List Int} {K K1 : Bool → Prop} (hK : ∀ r, K r → K1 r) (h : LPAnew_vc u0 u1 K) : LPAnew_vc u0 u1 K1 :=
  fun z0 => fun z1 => fun z2 => ⟨fun c3 => hK _ ((((h z0) z1) z2).1 c3), fun c3 => (Exists.elim ((((h z0) z1) z2).2 c3) fun i4 e4 => Exists.elim e4 fun m4 g4 => ⟨i4, m4, g4.1, fun x32 yb10 z4 => ⟨fun c5 => ⟨((g4.2 x32 yb10 z4).1 c5).1, fun q122 z7 => fun z8 => ⟨(((((g4.2 x32 yb10 z4).1 c5).2) q122 z7) z8).1, fun z10 => fun z11 => fun z12 => ⟨fun c13 => hK _ ((((((((((g4.2 x32 yb10 z4).1 c5).2) q122 z7) z8).2) z10) z11) z12).1 c13), fun c13 => ⟨fun c14 => hK _ (((((((((((g4.2 x32 yb10 z4).1 c5).2) q122 z7) z8).2) z10) z11) z12).2 c13).1 c14), fun c14 => ⟨fun c15 => hK _ ((((((((((((g4.2 x32 yb10 z4).1 c5).2) q122 z7) z8).2) z10) z11) z12).2 c13).2 c14).1 c15), fun c15 => ((((((((((((g4.2 x32 yb10 z4).1 c5).2) q122 z7) z8).2) z10) z11) z12).2 c13).2 c14).2 c15)⟩⟩⟩⟩⟩, fun c5 => hK _ ((g4.2 x32 yb10 z4).2 c5)⟩⟩)⟩

end Go.Proofs.Ytkogkombalcgeaa
