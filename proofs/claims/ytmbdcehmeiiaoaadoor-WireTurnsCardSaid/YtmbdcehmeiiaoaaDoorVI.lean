/- What must hold so that each function ends well: pure predicates, made by program. -/
import Derived.Test.YtmbdcehmeiiaoaaDoorPH
set_option linter.unusedVariables false
set_option linter.unusedSimpArgs false
namespace Go.Proofs.YtmbdcehmeiiaoaaDoor
open Go.Sy Go.RowKit
def wsend_vc (u0 : List Frame) (K : ((List UInt8) × Int × (List Int) × Int) → Prop) : Prop :=
  (u0.length ≤ 140737488355328 →
    (((decide ((u0.length : Int) > 6)) = true →
      (K ([], 0, ([] : List Int), 2))) ∧
    ((decide ((u0.length : Int) > 6)) = false →
      ((((u0.length : Int) == 0) = true →
        (K ([], 0, ([] : List Int), 8))) ∧
      (((u0.length : Int) == 0) = false →
        (∃ inv68 : (List Sender) → Int → Int → Prop, ∃ mu68 : (List Sender) → Int → Int → Nat, inv68 ([] : List Sender) 0 0 ∧
        (∀ (x6 : List Sender) (x7 : Int) (x30 : Int), inv68 x6 x7 x30 →
        (((decide (x30 < (u0.length : Int))) = true →
          ((0 ≤ x30 ∧ x30 < (u0.length : Int)) ∧
          (∀ q93, u0[x30.toNat]? = some q93 →
          (q93.Data.length ≤ 140737488355328 →
          ((∀ x ∈ q93.Data, 0 ≤ x ∧ x ≤ 255) ∧
          (((((BitsS q93).2) != 0) = true →
            (K ([], 0, ([] : List Int), (BitsS q93).2))) ∧
          ((((BitsS q93).2) != 0) = false →
            (((x6.length + 1) * 24 ≤ 140737488355328) ∧
            (inv68 (x6 ++ [(⟨(BitsS q93).1, -1⟩ : Sender)]) (max x7 (((BitsS q93).1).length : Int)) (w64 (x30 + 1)) ∧ mu68 (x6 ++ [(⟨(BitsS q93).1, -1⟩ : Sender)]) (max x7 (((BitsS q93).1).length : Int)) (w64 (x30 + 1)) < mu68 x6 x7 x30))))))))) ∧
        ((decide (x30 < (u0.length : Int))) = false →
          (∃ inv209 : (List Int) → Int → (List Sender) → Prop, ∃ mu209 : (List Int) → Int → (List Sender) → Nat, inv209 ([] : List Int) 0 x6 ∧
          (∀ (x12 : List Int) (x54 : Int) (zaox6 : List Sender), inv209 x12 x54 zaox6 →
          (((decide (x54 < x7)) = true →
            (∃ inv229 : (List Int) → (List Sender) → Prop,
            (∃ inv265 : Int → Bool → Int → Prop, ∃ mu265 : Int → Bool → Int → Nat, inv265 49 false 0 ∧
            (∀ (x14 : Int) (x15 : Bool) (x59 : Int), inv265 x14 x15 x59 →
            (((decide (x59 < (zaox6.length : Int))) = true →
              (∃ inv284 : Int → Bool → Prop,
              ((0 ≤ x59 ∧ x59 < (zaox6.length : Int)) ∧
              (∀ q311, zaox6[x59.toNat]? = some q311 →
              ((((decide (q311.lost < 0)) && (decide (x54 < (q311.row.length : Int)))) = true →
                ((0 ≤ x54 ∧ x54 < (q311.row.length : Int)) ∧
                (∀ c363, q311.row[x54.toNat]? = some c363 →
                (inv284 (min x14 (c363.toNat : Int)) true)))) ∧
              (((decide (q311.lost < 0)) && (decide (x54 < (q311.row.length : Int)))) = false →
                (inv284 x14 x15))))) ∧
              (∀ (x14v : Int) (x15v : Bool), inv284 x14v x15v →
                (inv265 x14v x15v (w64 (x59 + 1)) ∧ mu265 x14v x15v (w64 (x59 + 1)) < mu265 x14 x15 x59)))) ∧
            ((decide (x59 < (zaox6.length : Int))) = false →
              (((!x15) = true →
                (∃ inv394 : Int → (List Int) → Int → Prop, ∃ mu394 : Int → (List Int) → Int → Nat, inv394 (-1) ([] : List Int) 0 ∧
                (∀ (x3 : Int) (x4v : List Int) (x126 : Int), inv394 x3 x4v x126 →
                (((decide (x126 < (zaox6.length : Int))) = true →
                  ((0 ≤ x126 ∧ x126 < (zaox6.length : Int)) ∧
                  (∀ q424, zaox6[x126.toNat]? = some q424 →
                  (∃ inv443 : Int → (List Int) → Prop,
                  (((decide (q424.lost ≥ 0)) = true →
                    (inv443 x3 x4v)) ∧
                  ((decide (q424.lost ≥ 0)) = false →
                    (((decide (x3 ≥ 0)) = true →
                      (K ([], 0, ([] : List Int), 9))) ∧
                    ((decide (x3 ≥ 0)) = false →
                      (inv443 x126 x4v))))) ∧
                  (∀ (x3v : Int) (x4vv : List Int), inv443 x3v x4vv →
                    (((x4vv.length + 1) * 8 ≤ 140737488355328) ∧
                    (inv394 x3v (x4vv ++ [q424.lost]) (w64 (x126 + 1)) ∧ mu394 x3v (x4vv ++ [q424.lost]) (w64 (x126 + 1)) < mu394 x3 x4v x126))))))) ∧
                ((decide (x126 < (zaox6.length : Int))) = false →
                  (K (bstr x12, x3, x4v, 0))))))) ∧
              ((!x15) = false →
                (((x12.length + 1) * 1 ≤ 140737488355328) ∧
                (∃ inv571 : Int → (List Sender) → Prop, ∃ mu571 : Int → (List Sender) → Nat, inv571 0 zaox6 ∧
                (∀ (x88 : Int) (zaox6vv : List Sender), inv571 x88 zaox6vv →
                (((decide (x88 < (zaox6.length : Int))) = true →
                  (∃ inv590 : (List Sender) → Prop,
                  ((0 ≤ x88 ∧ x88 < (zaox6vv.length : Int)) ∧
                  (∀ q635, zaox6vv[x88.toNat]? = some q635 →
                  (((decide (q635.lost < 0)) = true →
                    (∀ q663, zaox6vv[x88.toNat]? = some q663 →
                    (((decide (x54 < (q663.row.length : Int))) = true →
                      (∀ q692, zaox6vv[x88.toNat]? = some q692 →
                      ((0 ≤ x54 ∧ x54 < (q692.row.length : Int)) ∧
                      (∀ c704, q692.row[x54.toNat]? = some c704 →
                      ((((c704.toNat : Int) != x14) = true →
                        (∀ q729, zaox6vv[x88.toNat]? = some q729 →
                        (inv590 (zaox6vv.set x88.toNat (⟨q729.row, x54⟩ : Sender))))) ∧
                      (((c704.toNat : Int) != x14) = false →
                        (inv590 zaox6vv))))))) ∧
                    ((decide (x54 < (q663.row.length : Int))) = false →
                      (inv590 zaox6vv))))) ∧
                  ((decide (q635.lost < 0)) = false →
                    (inv590 zaox6vv))))) ∧
                  (∀ (zaox6vvv : List Sender), inv590 zaox6vvv →
                    (inv571 (w64 (x88 + 1)) zaox6vvv ∧ mu571 (w64 (x88 + 1)) zaox6vvv < mu571 x88 zaox6vv)))) ∧
                ((decide (x88 < (zaox6.length : Int))) = false →
                  (inv229 (x12 ++ [x14]) zaox6vv)))))))))))) ∧
            (∀ (x12v : List Int) (zaox6v : List Sender), inv229 x12v zaox6v →
              (inv209 x12v (w64 (x54 + 1)) zaox6v ∧ mu209 x12v (w64 (x54 + 1)) zaox6v < mu209 x12 x54 zaox6)))) ∧
          ((decide (x54 < x7)) = false →
            (∃ inv799 : Int → (List Int) → Int → Prop, ∃ mu799 : Int → (List Int) → Int → Nat, inv799 (-1) ([] : List Int) 0 ∧
            (∀ (x3 : Int) (x4v : List Int) (x126 : Int), inv799 x3 x4v x126 →
            (((decide (x126 < (zaox6.length : Int))) = true →
              ((0 ≤ x126 ∧ x126 < (zaox6.length : Int)) ∧
              (∀ q829, zaox6[x126.toNat]? = some q829 →
              (∃ inv848 : Int → (List Int) → Prop,
              (((decide (q829.lost ≥ 0)) = true →
                (inv848 x3 x4v)) ∧
              ((decide (q829.lost ≥ 0)) = false →
                (((decide (x3 ≥ 0)) = true →
                  (K ([], 0, ([] : List Int), 9))) ∧
                ((decide (x3 ≥ 0)) = false →
                  (inv848 x126 x4v))))) ∧
              (∀ (x3v : Int) (x4vv : List Int), inv848 x3v x4vv →
                (((x4vv.length + 1) * 8 ≤ 140737488355328) ∧
                (inv799 x3v (x4vv ++ [q829.lost]) (w64 (x126 + 1)) ∧ mu799 x3v (x4vv ++ [q829.lost]) (w64 (x126 + 1)) < mu799 x3 x4v x126))))))) ∧
            ((decide (x126 < (zaox6.length : Int))) = false →
              (K (bstr x12, x3, x4v, 0)))))))))))))))))))
theorem wsend_mono {u0 : List Frame} {K K1 : ((List UInt8) × Int × (List Int) × Int) → Prop} (hK : ∀ r, K r → K1 r) (h : wsend_vc u0 K) : wsend_vc u0 K1 :=
  fun z0 => ⟨fun c1 => hK _ ((h z0).1 c1), fun c1 => ⟨fun c2 => hK _ (((h z0).2 c1).1 c2), fun c2 => (Exists.elim (((h z0).2 c1).2 c2) fun i3 e3 => Exists.elim e3 fun m3 g3 => ⟨i3, m3, g3.1, fun x6 x7 x30 z3 => ⟨fun c4 => ⟨((g3.2 x6 x7 x30 z3).1 c4).1, fun y6 z6 => fun z7 => ⟨(((((g3.2 x6 x7 x30 z3).1 c4).2) y6 z6) z7).1, ⟨fun c9 => hK _ (((((((g3.2 x6 x7 x30 z3).1 c4).2) y6 z6) z7).2).1 c9), fun c9 => ⟨(((((((g3.2 x6 x7 x30 z3).1 c4).2) y6 z6) z7).2).2 c9).1, (((((((g3.2 x6 x7 x30 z3).1 c4).2) y6 z6) z7).2).2 c9).2⟩⟩⟩⟩, fun c4 => (Exists.elim ((g3.2 x6 x7 x30 z3).2 c4) fun i5 e5 => Exists.elim e5 fun m5 g5 => ⟨i5, m5, g5.1, fun x12 x54 zaox6 z5 => ⟨fun c6 => (Exists.elim ((g5.2 x12 x54 zaox6 z5).1 c6) fun i7 e7 => ⟨i7, (Exists.elim e7.1 fun i8 e8 => Exists.elim e8 fun m8 g8 => ⟨i8, m8, g8.1, fun x14 x15 x59 z8 => ⟨fun c9 => (Exists.elim ((g8.2 x14 x15 x59 z8).1 c9) fun i10 e10 => ⟨i10, ⟨e10.1.1, fun y12 z12 => ⟨fun c13 => ⟨((e10.1.2 y12 z12).1 c13).1, fun y15 z15 => ((((e10.1.2 y12 z12).1 c13).2) y15 z15)⟩, fun c13 => ((e10.1.2 y12 z12).2 c13)⟩⟩, fun x14v x15v z10 => (e10.2 x14v x15v z10)⟩), fun c9 => ⟨fun c10 => (Exists.elim (((g8.2 x14 x15 x59 z8).2 c9).1 c10) fun i11 e11 => Exists.elim e11 fun m11 g11 => ⟨i11, m11, g11.1, fun x3 x4v x126 z11 => ⟨fun c12 => ⟨((g11.2 x3 x4v x126 z11).1 c12).1, fun y14 z14 => (Exists.elim ((((g11.2 x3 x4v x126 z11).1 c12).2) y14 z14) fun i15 e15 => ⟨i15, ⟨fun c16 => (e15.1.1 c16), fun c16 => ⟨fun c17 => hK _ ((e15.1.2 c16).1 c17), fun c17 => ((e15.1.2 c16).2 c17)⟩⟩, fun x3v x4vv z15 => ⟨(e15.2 x3v x4vv z15).1, (e15.2 x3v x4vv z15).2⟩⟩)⟩, fun c12 => hK _ ((g11.2 x3 x4v x126 z11).2 c12)⟩⟩), fun c10 => ⟨(((g8.2 x14 x15 x59 z8).2 c9).2 c10).1, (Exists.elim ((((g8.2 x14 x15 x59 z8).2 c9).2 c10).2) fun i12 e12 => Exists.elim e12 fun m12 g12 => ⟨i12, m12, g12.1, fun x88 zaox6vv z12 => ⟨fun c13 => (Exists.elim ((g12.2 x88 zaox6vv z12).1 c13) fun i14 e14 => ⟨i14, ⟨e14.1.1, fun y16 z16 => ⟨fun c17 => fun y18 z18 => ⟨fun c19 => fun y20 z20 => ⟨(((((e14.1.2 y16 z16).1 c17) y18 z18).1 c19) y20 z20).1, fun y22 z22 => ⟨fun c23 => fun y24 z24 => (((((((((e14.1.2 y16 z16).1 c17) y18 z18).1 c19) y20 z20).2) y22 z22).1 c23) y24 z24), fun c23 => ((((((((e14.1.2 y16 z16).1 c17) y18 z18).1 c19) y20 z20).2) y22 z22).2 c23)⟩⟩, fun c19 => ((((e14.1.2 y16 z16).1 c17) y18 z18).2 c19)⟩, fun c17 => ((e14.1.2 y16 z16).2 c17)⟩⟩, fun zaox6vvv z14 => (e14.2 zaox6vvv z14)⟩), fun c13 => ((g12.2 x88 zaox6vv z12).2 c13)⟩⟩)⟩⟩⟩⟩), fun x12v zaox6v z7 => (e7.2 x12v zaox6v z7)⟩), fun c6 => (Exists.elim ((g5.2 x12 x54 zaox6 z5).2 c6) fun i7 e7 => Exists.elim e7 fun m7 g7 => ⟨i7, m7, g7.1, fun x3 x4v x126 z7 => ⟨fun c8 => ⟨((g7.2 x3 x4v x126 z7).1 c8).1, fun y10 z10 => (Exists.elim ((((g7.2 x3 x4v x126 z7).1 c8).2) y10 z10) fun i11 e11 => ⟨i11, ⟨fun c12 => (e11.1.1 c12), fun c12 => ⟨fun c13 => hK _ ((e11.1.2 c12).1 c13), fun c13 => ((e11.1.2 c12).2 c13)⟩⟩, fun x3v x4vv z11 => ⟨(e11.2 x3v x4vv z11).1, (e11.2 x3v x4vv z11).2⟩⟩)⟩, fun c8 => hK _ ((g7.2 x3 x4v x126 z7).2 c8)⟩⟩)⟩⟩)⟩⟩)⟩⟩

def wfirst_vc (u0 : List Frame) (K : (Int × Int) → Prop) : Prop :=
  (u0.length ≤ 140737488355328 →
    (((decide ((u0.length : Int) > 6)) = true →
      (K (0, 2))) ∧
    ((decide ((u0.length : Int) > 6)) = false →
      (∃ inv40 : Int → (List UInt8) → Bool → Int → Prop, ∃ mu40 : Int → (List UInt8) → Bool → Int → Nat, inv40 (-1) [] false 0 ∧
      (∀ (x4 : Int) (x5 : List UInt8) (x6 : Bool) (x16 : Int), inv40 x4 x5 x6 x16 →
      (((decide (x16 < (u0.length : Int))) = true →
        (∃ inv59 : Int → (List UInt8) → Bool → Prop,
        ((0 ≤ x16 ∧ x16 < (u0.length : Int)) ∧
        (∀ q85, u0[x16.toNat]? = some q85 →
        (q85.Data.length ≤ 140737488355328 →
        (((((fNameS q85).2) != 0) = true →
          (K (0, (fNameS q85).2))) ∧
        ((((fNameS q85).2) != 0) = false →
          ((((decide (x4 < 0)) || (Op.bytesLess ((fNameS q85).1) x5)) = true →
            (inv59 x16 ((fNameS q85).1) false)) ∧
          (((decide (x4 < 0)) || (Op.bytesLess ((fNameS q85).1) x5)) = false →
            (((((fNameS q85).1) == x5) = true →
              (inv59 x4 x5 true)) ∧
            ((((fNameS q85).1) == x5) = false →
              (inv59 x4 x5 x6)))))))))) ∧
        (∀ (x4v : Int) (x5v : List UInt8) (x6v : Bool), inv59 x4v x5v x6v →
          (inv40 x4v x5v x6v (w64 (x16 + 1)) ∧ mu40 x4v x5v x6v (w64 (x16 + 1)) < mu40 x4 x5 x6 x16)))) ∧
      ((decide (x16 < (u0.length : Int))) = false →
        (((decide (x4 < 0)) = true →
          (K (0, 8))) ∧
        ((decide (x4 < 0)) = false →
          ((x6 = true →
            (K (0, 9))) ∧
          (x6 = false →
            (K (x4, 0)))))))))))))
theorem wfirst_mono {u0 : List Frame} {K K1 : (Int × Int) → Prop} (hK : ∀ r, K r → K1 r) (h : wfirst_vc u0 K) : wfirst_vc u0 K1 :=
  fun z0 => ⟨fun c1 => hK _ ((h z0).1 c1), fun c1 => (Exists.elim ((h z0).2 c1) fun i2 e2 => Exists.elim e2 fun m2 g2 => ⟨i2, m2, g2.1, fun x4 x5 x6 x16 z2 => ⟨fun c3 => (Exists.elim ((g2.2 x4 x5 x6 x16 z2).1 c3) fun i4 e4 => ⟨i4, ⟨e4.1.1, fun y6 z6 => fun z7 => ⟨fun c8 => hK _ (((e4.1.2 y6 z6) z7).1 c8), fun c8 => ⟨fun c9 => ((((e4.1.2 y6 z6) z7).2 c8).1 c9), fun c9 => ⟨fun c10 => (((((e4.1.2 y6 z6) z7).2 c8).2 c9).1 c10), fun c10 => (((((e4.1.2 y6 z6) z7).2 c8).2 c9).2 c10)⟩⟩⟩⟩, fun x4v x5v x6v z4 => (e4.2 x4v x5v x6v z4)⟩), fun c3 => ⟨fun c4 => hK _ (((g2.2 x4 x5 x6 x16 z2).2 c3).1 c4), fun c4 => ⟨fun c5 => hK _ ((((g2.2 x4 x5 x6 x16 z2).2 c3).2 c4).1 c5), fun c5 => hK _ ((((g2.2 x4 x5 x6 x16 z2).2 c3).2 c4).2 c5)⟩⟩⟩⟩)⟩

end Go.Proofs.YtmbdcehmeiiaoaaDoor
