/- What must hold so that each function ends well: pure predicates, made by program. -/
import Derived.Test.YtmbdcehmeiiaoaaDoorPH
set_option linter.unusedVariables false
set_option linter.unusedSimpArgs false
namespace Go.Proofs.YtmbdcehmeiiaoaaDoor
open Go.Sy Go.RowKit
def wsend_vc (u0 : List Frame) (K : ((List UInt8) × Int × (List Int) × Int) → Prop) : Prop :=
  (u0.length ≤ 140737488355328 →
    (((decide ((u0.length : Int) > 6)) = true →
      (K ([], 0, ([] : List Int), 2))) ∧
    ((decide ((u0.length : Int) > 6)) = false →
      ((((u0.length : Int) == 0) = true →
        (K ([], 0, ([] : List Int), 8))) ∧
      (((u0.length : Int) == 0) = false →
        (∃ inv68 : (List Sender) → Int → Int → Prop, ∃ mu68 : (List Sender) → Int → Int → Nat, inv68 ([] : List Sender) 0 0 ∧
        (∀ (x6 : List Sender) (x7 : Int) (x30 : Int), inv68 x6 x7 x30 →
        (((decide (x30 < (u0.length : Int))) = true →
          ((0 ≤ x30 ∧ x30 < (u0.length : Int)) ∧
          (∀ q93, u0[x30.toNat]? = some q93 →
          (q93.Data.length ≤ 140737488355328 →
          ((∀ x ∈ q93.Data, 0 ≤ x ∧ x ≤ 255) ∧
          (((((BitsS q93).2) != 0) = true →
            (K ([], 0, ([] : List Int), (BitsS q93).2))) ∧
          ((((BitsS q93).2) != 0) = false →
            (((x6.length + 1) * 24 ≤ 140737488355328) ∧
            (inv68 (x6 ++ [(⟨(BitsS q93).1, -1⟩ : Sender)]) (max x7 (((BitsS q93).1).length : Int)) (w64 (x30 + 1)) ∧ mu68 (x6 ++ [(⟨(BitsS q93).1, -1⟩ : Sender)]) (max x7 (((BitsS q93).1).length : Int)) (w64 (x30 + 1)) < mu68 x6 x7 x30))))))))) ∧
        ((decide (x30 < (u0.length : Int))) = false →
          (∃ inv209 : (List Int) → Int → (List Sender) → Prop, ∃ mu209 : (List Int) → Int → (List Sender) → Nat, inv209 ([] : List Int) 0 x6 ∧
          (∀ (x12 : List Int) (x54 : Int) (zaox6 : List Sender), inv209 x12 x54 zaox6 →
          (((decide (x54 < x7)) = true →
            (∃ inv229 : (List Int) → (List Sender) → Prop,
            (∃ inv265 : Int → Bool → Int → Prop, ∃ mu265 : Int → Bool → Int → Nat, inv265 49 false 0 ∧
            (∀ (x14 : Int) (x15 : Bool) (x59 : Int), inv265 x14 x15 x59 →
            (((decide (x59 < (zaox6.length : Int))) = true →
              (∃ inv284 : Int → Bool → Prop,
              ((0 ≤ x59 ∧ x59 < (zaox6.length : Int)) ∧
              (∀ q311, zaox6[x59.toNat]? = some q311 →
              ((((decide (q311.lost < 0)) && (decide (x54 < (q311.row.length : Int)))) = true →
                ((0 ≤ x54 ∧ x54 < (q311.row.length : Int)) ∧
                (∀ c363, q311.row[x54.toNat]? = some c363 →
                (inv284 (min x14 (c363.toNat : Int)) true)))) ∧
              (((decide (q311.lost < 0)) && (decide (x54 < (q311.row.length : Int)))) = false →
                (inv284 x14 x15))))) ∧
              (∀ (x14v : Int) (x15v : Bool), inv284 x14v x15v →
                (inv265 x14v x15v (w64 (x59 + 1)) ∧ mu265 x14v x15v (w64 (x59 + 1)) < mu265 x14 x15 x59)))) ∧
            ((decide (x59 < (zaox6.length : Int))) = false →
              (((!x15) = true →
                (∃ inv394 : Int → (List Int) → Int → Prop, ∃ mu394 : Int → (List Int) → Int → Nat, inv394 (-1) ([] : List Int) 0 ∧
                (∀ (x3 : Int) (x4v : List Int) (x126 : Int), inv394 x3 x4v x126 →
                (((decide (x126 < (zaox6.length : Int))) = true →
                  ((0 ≤ x126 ∧ x126 < (zaox6.length : Int)) ∧
                  (∀ q424, zaox6[x126.toNat]? = some q424 →
                  (∃ inv443 : Int → (List Int) → Prop,
                  (((decide (q424.lost ≥ 0)) = true →
                    (inv443 x3 x4v)) ∧
                  ((decide (q424.lost ≥ 0)) = false →
                    (((decide (x3 ≥ 0)) = true →
                      (K ([], 0, ([] : List Int), 9))) ∧
                    ((decide (x3 ≥ 0)) = false →
                      (inv443 x126 x4v))))) ∧
                  (∀ (x3v : Int) (x4vv : List Int), inv443 x3v x4vv →
                    (((x4vv.length + 1) * 8 ≤ 140737488355328) ∧
                    (inv394 x3v (x4vv ++ [q424.lost]) (w64 (x126 + 1)) ∧ mu394 x3v (x4vv ++ [q424.lost]) (w64 (x126 + 1)) < mu394 x3 x4v x126))))))) ∧
                ((decide (x126 < (zaox6.length : Int))) = false →
                  (K (bstr x12, x3, x4v, 0))))))) ∧
              ((!x15) = false →
                (((x12.length + 1) * 1 ≤ 140737488355328) ∧
                (∃ inv571 : Int → (List Sender) → Prop, ∃ mu571 : Int → (List Sender) → Nat, inv571 0 zaox6 ∧
                (∀ (x88 : Int) (zaox6vv : List Sender), inv571 x88 zaox6vv →
                (((decide (x88 < (zaox6.length : Int))) = true →
                  (∃ inv590 : (List Sender) → Prop,
                  ((0 ≤ x88 ∧ x88 < (zaox6vv.length : Int)) ∧
                  (∀ q635, zaox6vv[x88.toNat]? = some q635 →
                  (((decide (q635.lost < 0)) = true →
                    (∀ q663, zaox6vv[x88.toNat]? = some q663 →
                    (((decide (x54 < (q663.row.length : Int))) = true →
                      (∀ q692, zaox6vv[x88.toNat]? = some q692 →
                      ((0 ≤ x54 ∧ x54 < (q692.row.length : Int)) ∧
                      (∀ c704, q692.row[x54.toNat]? = some c704 →
                      ((((c704.toNat : Int) != x14) = true →
                        (∀ q729, zaox6vv[x88.toNat]? = some q729 →
                        (inv590 (zaox6vv.set x88.toNat (⟨q729.row, x54⟩ : Sender))))) ∧
                      (((c704.toNat : Int) != x14) = false →
                        (inv590 zaox6vv))))))) ∧
                    ((decide (x54 < (q663.row.length : Int))) = false →
                      (inv590 zaox6vv))))) ∧
                  ((decide (q635.lost < 0)) = false →
                    (inv590 zaox6vv))))) ∧
                  (∀ (zaox6vvv : List Sender), inv590 zaox6vvv →
                    (inv571 (w64 (x88 + 1)) zaox6vvv ∧ mu571 (w64 (x88 + 1)) zaox6vvv < mu571 x88 zaox6vv)))) ∧
                ((decide (x88 < (zaox6.length : Int))) = false →
                  (inv229 (x12 ++ [x14]) zaox6vv)))))))))))) ∧
            (∀ (x12v : List Int) (zaox6v : List Sender), inv229 x12v zaox6v →
              (inv209 x12v (w64 (x54 + 1)) zaox6v ∧ mu209 x12v (w64 (x54 + 1)) zaox6v < mu209 x12 x54 zaox6)))) ∧
          ((decide (x54 < x7)) = false →
            (∃ inv799 : Int → (List Int) → Int → Prop, ∃ mu799 : Int → (List Int) → Int → Nat, inv799 (-1) ([] : List Int) 0 ∧
            (∀ (x3 : Int) (x4v : List Int) (x126 : Int), inv799 x3 x4v x126 →
            (((decide (x126 < (zaox6.length : Int))) = true →
              ((0 ≤ x126 ∧ x126 < (zaox6.length : Int)) ∧
              (∀ q829, zaox6[x126.toNat]? = some q829 →
              (∃ inv848 : Int → (List Int) → Prop,
              (((decide (q829.lost ≥ 0)) = true →
                (inv848 x3 x4v)) ∧
              ((decide (q829.lost ≥ 0)) = false →
                (((decide (x3 ≥ 0)) = true →
                  (K ([], 0, ([] : List Int), 9))) ∧
                ((decide (x3 ≥ 0)) = false →
                  (inv848 x126 x4v))))) ∧
              (∀ (x3v : Int) (x4vv : List Int), inv848 x3v x4vv →
                (((x4vv.length + 1) * 8 ≤ 140737488355328) ∧
                (inv799 x3v (x4vv ++ [q829.lost]) (w64 (x126 + 1)) ∧ mu799 x3v (x4vv ++ [q829.lost]) (w64 (x126 + 1)) < mu799 x3 x4v x126))))))) ∧
            ((decide (x126 < (zaox6.length : Int))) = false →
              (K (bstr x12, x3, x4v, 0)))))))))))))))))))

def wfirst_vc (u0 : List Frame) (K : (Int × Int) → Prop) : Prop :=
  (u0.length ≤ 140737488355328 →
    (((decide ((u0.length : Int) > 6)) = true →
      (K (0, 2))) ∧
    ((decide ((u0.length : Int) > 6)) = false →
      (∃ inv40 : Int → (List UInt8) → Bool → Int → Prop, ∃ mu40 : Int → (List UInt8) → Bool → Int → Nat, inv40 (-1) [] false 0 ∧
      (∀ (x4 : Int) (x5 : List UInt8) (x6 : Bool) (x16 : Int), inv40 x4 x5 x6 x16 →
      (((decide (x16 < (u0.length : Int))) = true →
        (∃ inv59 : Int → (List UInt8) → Bool → Prop,
        ((0 ≤ x16 ∧ x16 < (u0.length : Int)) ∧
        (∀ q85, u0[x16.toNat]? = some q85 →
        (q85.Data.length ≤ 140737488355328 →
        (((((fNameS q85).2) != 0) = true →
          (K (0, (fNameS q85).2))) ∧
        ((((fNameS q85).2) != 0) = false →
          ((((decide (x4 < 0)) || (Op.bytesLess ((fNameS q85).1) x5)) = true →
            (inv59 x16 ((fNameS q85).1) false)) ∧
          (((decide (x4 < 0)) || (Op.bytesLess ((fNameS q85).1) x5)) = false →
            (((((fNameS q85).1) == x5) = true →
              (inv59 x4 x5 true)) ∧
            ((((fNameS q85).1) == x5) = false →
              (inv59 x4 x5 x6)))))))))) ∧
        (∀ (x4v : Int) (x5v : List UInt8) (x6v : Bool), inv59 x4v x5v x6v →
          (inv40 x4v x5v x6v (w64 (x16 + 1)) ∧ mu40 x4v x5v x6v (w64 (x16 + 1)) < mu40 x4 x5 x6 x16)))) ∧
      ((decide (x16 < (u0.length : Int))) = false →
        (((decide (x4 < 0)) = true →
          (K (0, 8))) ∧
        ((decide (x4 < 0)) = false →
          ((x6 = true →
            (K (0, 9))) ∧
          (x6 = false →
            (K (x4, 0)))))))))))))

end Go.Proofs.YtmbdcehmeiiaoaaDoor
