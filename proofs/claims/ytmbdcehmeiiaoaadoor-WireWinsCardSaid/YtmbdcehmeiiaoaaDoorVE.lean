/- What must hold so that each function ends well: pure predicates, made by program. -/
import Derived.Test.YtmbdcehmeiiaoaaDoorPD
set_option linter.unusedVariables false
set_option linter.unusedSimpArgs false
namespace Go.Proofs.YtmbdcehmeiiaoaaDoor
open Go.Sy Go.RowKit
def rnames_vc (u0 : FReader) (K : FReader → Prop) : Prop :=
  (u0.f.Data.length ≤ 140737488355328 →
    ((Rok u0.Reader) ∧
    (∀ r15, (rwantS u0 ([48] : List UInt8)) = r15 →
    (r15.f.Data.length ≤ 140737488355328 →
    ((Rok r15.Reader ∧ 0 ≤ (11 : Int) ∧ (11 : Int) ≤ 62) ∧
    (∀ r37, (rnumberS r15 11) = r37 →
    (r37.2.f.Data.length ≤ 140737488355328 →
    ((Rok (⟨r37.2.Reader, (⟨r37.1, r37.2.f.Long, r37.2.f.Fast, r37.2.f.Remote, r37.2.f.Size, r37.2.f.Data⟩ : Frame)⟩ : FReader).Reader ∧ (1 : Int) ≤ 9223372036854775807) ∧
    (∀ r70, (rtakeFS (⟨r37.2.Reader, (⟨r37.1, r37.2.f.Long, r37.2.f.Fast, r37.2.f.Remote, r37.2.f.Size, r37.2.f.Data⟩ : Frame)⟩ : FReader) 1) = r70 →
    (r70.2.f.Data.length ≤ 140737488355328 →
    ((Rok r70.2.Reader ∧ (1 : Int) ≤ 9223372036854775807) ∧
    (∀ r101, (rtakeFS r70.2 1) = r101 →
    (r101.2.f.Data.length ≤ 140737488355328 →
    (∃ inv150 : FReader → Prop,
    (((r101.1 == ([49] : List UInt8)) = true →
      (∃ inv383 : FReader → Prop,
      (((!(r70.1 == ([49] : List UInt8))) = true →
        (∀ r694, (rfailS (⟨r101.2.Reader, (⟨r101.2.f.ID, r101.1 == ([49] : List UInt8), r101.2.f.Fast, r70.1 == ([49] : List UInt8), r101.2.f.Size, r101.2.f.Data⟩ : Frame)⟩ : FReader) 4) = r694 →
        (r694.f.Data.length ≤ 140737488355328 →
        (inv383 r694)))) ∧
      ((!(r70.1 == ([49] : List UInt8))) = false →
        (inv383 (⟨r101.2.Reader, (⟨r101.2.f.ID, r101.1 == ([49] : List UInt8), r101.2.f.Fast, r70.1 == ([49] : List UInt8), r101.2.f.Size, r101.2.f.Data⟩ : Frame)⟩ : FReader)))) ∧
      (∀ (yb1v : FReader), inv383 yb1v →
        ((Rok yb1v.Reader ∧ 0 ≤ (18 : Int) ∧ (18 : Int) ≤ 62) ∧
        ((Rok (⟨(((rnumberS yb1v 18).2).Reader), (⟨bOr .i64 (bShl .i64 yb1v.f.ID 18) ((rnumberS yb1v 18).1), yb1v.f.Long, yb1v.f.Fast, yb1v.f.Remote, yb1v.f.Size, yb1v.f.Data⟩ : Frame)⟩ : FReader).Reader ∧ (1 : Int) ≤ 9223372036854775807) ∧
        (∀ r662, (rtakeFS (⟨(((rnumberS yb1v 18).2).Reader), (⟨bOr .i64 (bShl .i64 yb1v.f.ID 18) ((rnumberS yb1v 18).1), yb1v.f.Long, yb1v.f.Fast, yb1v.f.Remote, yb1v.f.Size, yb1v.f.Data⟩ : Frame)⟩ : FReader) 1) = r662 →
        (r662.2.f.Data.length ≤ 140737488355328 →
        (inv150 (⟨r662.2.Reader, (⟨r662.2.f.ID, r662.2.f.Long, r662.2.f.Fast, r662.1 == ([49] : List UInt8), r662.2.f.Size, r662.2.f.Data⟩ : Frame)⟩ : FReader))))))))) ∧
    ((r101.1 == ([49] : List UInt8)) = false →
      (inv150 (⟨r101.2.Reader, (⟨r101.2.f.ID, r101.1 == ([49] : List UInt8), r101.2.f.Fast, r70.1 == ([49] : List UInt8), r101.2.f.Size, r101.2.f.Data⟩ : Frame)⟩ : FReader)))) ∧
    (∀ (yb1 : FReader), inv150 yb1 →
      ((Rok yb1.Reader ∧ (1 : Int) ≤ 9223372036854775807) ∧
      (∀ r183, (rtakeFS yb1 1) = r183 →
      (r183.2.f.Data.length ≤ 140737488355328 →
      (((r183.1 == ([49] : List UInt8)) = true →
        (∃ inv233 : FReader → Prop,
        ((r183.2.f.Remote = true →
          (∀ r324, (rfailS (⟨r183.2.Reader, (⟨r183.2.f.ID, r183.2.f.Long, r183.1 == ([49] : List UInt8), r183.2.f.Remote, r183.2.f.Size, r183.2.f.Data⟩ : Frame)⟩ : FReader) 4) = r324 →
          (r324.f.Data.length ≤ 140737488355328 →
          (inv233 r324)))) ∧
        (r183.2.f.Remote = false →
          (inv233 (⟨r183.2.Reader, (⟨r183.2.f.ID, r183.2.f.Long, r183.1 == ([49] : List UInt8), r183.2.f.Remote, r183.2.f.Size, r183.2.f.Data⟩ : Frame)⟩ : FReader)))) ∧
        (∀ (yb1v : FReader), inv233 yb1v →
          ((Rok yb1v.Reader) ∧
          (∀ r263, (rwantS yb1v ([48] : List UInt8)) = r263 →
          (r263.f.Data.length ≤ 140737488355328 →
          ((Rok r263.Reader) ∧
          (∀ r283, (rwantS r263 ([49] : List UInt8)) = r283 →
          (r283.f.Data.length ≤ 140737488355328 →
          ((Rok r283.Reader) ∧
          (∀ r303, (rwantS r283 ([48] : List UInt8)) = r303 →
          (r303.f.Data.length ≤ 140737488355328 →
          (K r303))))))))))))) ∧
      ((r183.1 == ([49] : List UInt8)) = false →
        ((r183.2.f.Long = true →
          ((Rok (⟨r183.2.Reader, (⟨r183.2.f.ID, r183.2.f.Long, r183.1 == ([49] : List UInt8), r183.2.f.Remote, r183.2.f.Size, r183.2.f.Data⟩ : Frame)⟩ : FReader).Reader) ∧
          (∀ r362, (rwantS (⟨r183.2.Reader, (⟨r183.2.f.ID, r183.2.f.Long, r183.1 == ([49] : List UInt8), r183.2.f.Remote, r183.2.f.Size, r183.2.f.Data⟩ : Frame)⟩ : FReader) ([48] : List UInt8)) = r362 →
          (r362.f.Data.length ≤ 140737488355328 →
          (K r362))))) ∧
        (r183.2.f.Long = false →
          (K (⟨r183.2.Reader, (⟨r183.2.f.ID, r183.2.f.Long, r183.1 == ([49] : List UInt8), r183.2.f.Remote, r183.2.f.Size, r183.2.f.Data⟩ : Frame)⟩ : FReader))))))))))))))))))))))))

def rfast_vc (u0 : FReader) (K : FReader → Prop) : Prop :=
  (u0.f.Data.length ≤ 140737488355328 →
    (((u0.Reader.Code != 0) = true →
      (K u0)) ∧
    ((u0.Reader.Code != 0) = false →
      ((0 ≤ u0.Reader.At ∧ u0.Reader.At ≤ (u0.Reader.Row.length : Int)) ∧
      ((fheadpre u0.f) ∧
      ((0 ≤ (w64 (((u0.Reader.Row.take u0.Reader.At.toNat).length : Int) - ((fheadS u0.f).length : Int)))) ∧
      ((((u0.Reader.Row.take u0.Reader.At.toNat).length : Int) + ((fcountS (w64 (((u0.Reader.Row.take u0.Reader.At.toNat).length : Int) - ((fheadS u0.f).length : Int)))).length : Int) ≤ 9223372036854775807) ∧
      ((((fcountS (w64 (((u0.Reader.Row.take u0.Reader.At.toNat).length : Int) - ((fheadS u0.f).length : Int)))).length : Int) + (((csumS (fkind u0.f) ((u0.Reader.Row.take u0.Reader.At.toNat) ++ (fcountS (w64 (((u0.Reader.Row.take u0.Reader.At.toNat).length : Int) - ((fheadS u0.f).length : Int)))))).1).length : Int) ≤ 9223372036854775807) ∧
      ((0 ≤ w64 (((u0.Reader.Row.take u0.Reader.At.toNat).length : Int) - 1) ∧ w64 (((u0.Reader.Row.take u0.Reader.At.toNat).length : Int) - 1) < ((u0.Reader.Row.take u0.Reader.At.toNat).length : Int)) ∧
      (∀ c151, (u0.Reader.Row.take u0.Reader.At.toNat)[(w64 (((u0.Reader.Row.take u0.Reader.At.toNat).length : Int) - 1)).toNat]? = some c151 →
      (((0 ≤ u0.Reader.At ∧ u0.Reader.At ≤ (u0.Reader.Row.length : Int) ∧ u0.Reader.Row.length ≤ 1000000) ∧ (((sfixedS ((fcountS (w64 (((u0.Reader.Row.take u0.Reader.At.toNat).length : Int) - ((fheadS u0.f).length : Int)))) ++ ((csumS (fkind u0.f) ((u0.Reader.Row.take u0.Reader.At.toNat) ++ (fcountS (w64 (((u0.Reader.Row.take u0.Reader.At.toNat).length : Int) - ((fheadS u0.f).length : Int)))))).1)) (c151.toNat : Int)).1).length : Int) ≤ 1000000) ∧
      (∀ r188, (rplainFS u0 (((sfixedS ((fcountS (w64 (((u0.Reader.Row.take u0.Reader.At.toNat).length : Int) - ((fheadS u0.f).length : Int)))) ++ ((csumS (fkind u0.f) ((u0.Reader.Row.take u0.Reader.At.toNat) ++ (fcountS (w64 (((u0.Reader.Row.take u0.Reader.At.toNat).length : Int) - ((fheadS u0.f).length : Int)))))).1)) (c151.toNat : Int)).1).length : Int)) = r188 →
      (r188.2.f.Data.length ≤ 140737488355328 →
      (∃ inv209 : Int → FReader → Prop, ∃ mu209 : Int → FReader → Nat, inv209 0 r188.2 ∧
      (∀ (x69 : Int) (yb1 : FReader), inv209 x69 yb1 →
      (((decide (x69 < (r188.1.length : Int))) = true →
        (∃ inv230 : FReader → Prop,
        (((((x69.tmod 5) == 0) && (decide (x69 > 0))) = true →
          ((0 ≤ x69 ∧ x69 < (r188.1.length : Int)) ∧
          (∀ c300, r188.1[x69.toNat]? = some c300 →
          ((0 ≤ w64 (x69 - 1) ∧ w64 (x69 - 1) < (r188.1.length : Int)) ∧
          (∀ c317, r188.1[(w64 (x69 - 1)).toNat]? = some c317 →
          ((((c300.toNat : Int) == (c317.toNat : Int)) = true →
            (∀ r380, (rfailS yb1 5) = r380 →
            (r380.f.Data.length ≤ 140737488355328 →
            (inv230 r380)))) ∧
          (((c300.toNat : Int) == (c317.toNat : Int)) = false →
            (((x69 == 0) = true →
              ((0 ≤ (0 : Int) ∧ (0 : Int) < (r188.1.length : Int)) ∧
              (∀ c403, r188.1[(0 : Int).toNat]? = some c403 →
              ((0 ≤ w64 (((u0.Reader.Row.take u0.Reader.At.toNat).length : Int) - 1) ∧ w64 (((u0.Reader.Row.take u0.Reader.At.toNat).length : Int) - 1) < ((u0.Reader.Row.take u0.Reader.At.toNat).length : Int)) ∧
              (∀ c423, (u0.Reader.Row.take u0.Reader.At.toNat)[(w64 (((u0.Reader.Row.take u0.Reader.At.toNat).length : Int) - 1)).toNat]? = some c423 →
              ((((c403.toNat : Int) == (c423.toNat : Int)) = true →
                (∀ r449, (rfailS yb1 5) = r449 →
                (r449.f.Data.length ≤ 140737488355328 →
                (inv230 r449)))) ∧
              (((c403.toNat : Int) == (c423.toNat : Int)) = false →
                (inv230 yb1)))))))) ∧
            ((x69 == 0) = false →
              (inv230 yb1)))))))))) ∧
        ((((x69.tmod 5) == 0) && (decide (x69 > 0))) = false →
          (((x69 == 0) = true →
            ((0 ≤ (0 : Int) ∧ (0 : Int) < (r188.1.length : Int)) ∧
            (∀ c528, r188.1[(0 : Int).toNat]? = some c528 →
            ((0 ≤ w64 (((u0.Reader.Row.take u0.Reader.At.toNat).length : Int) - 1) ∧ w64 (((u0.Reader.Row.take u0.Reader.At.toNat).length : Int) - 1) < ((u0.Reader.Row.take u0.Reader.At.toNat).length : Int)) ∧
            (∀ c548, (u0.Reader.Row.take u0.Reader.At.toNat)[(w64 (((u0.Reader.Row.take u0.Reader.At.toNat).length : Int) - 1)).toNat]? = some c548 →
            ((((c528.toNat : Int) == (c548.toNat : Int)) = true →
              (∀ r574, (rfailS yb1 5) = r574 →
              (r574.f.Data.length ≤ 140737488355328 →
              (inv230 r574)))) ∧
            (((c528.toNat : Int) == (c548.toNat : Int)) = false →
              (inv230 yb1)))))))) ∧
          ((x69 == 0) = false →
            (inv230 yb1))))) ∧
        (∀ (yb1v : FReader), inv230 yb1v →
          (inv209 (w64 (x69 + 1)) yb1v ∧ mu209 (w64 (x69 + 1)) yb1v < mu209 x69 yb1)))) ∧
      ((decide (x69 < (r188.1.length : Int))) = false →
        ((((yb1.Reader.Code == 0) && (r188.1 != ((sfixedS ((fcountS (w64 (((u0.Reader.Row.take u0.Reader.At.toNat).length : Int) - ((fheadS u0.f).length : Int)))) ++ ((csumS (fkind u0.f) ((u0.Reader.Row.take u0.Reader.At.toNat) ++ (fcountS (w64 (((u0.Reader.Row.take u0.Reader.At.toNat).length : Int) - ((fheadS u0.f).length : Int)))))).1)) (c151.toNat : Int)).1))) = true →
          (∀ r646, (rfailS yb1 6) = r646 →
          (r646.f.Data.length ≤ 140737488355328 →
          (K r646)))) ∧
        (((yb1.Reader.Code == 0) && (r188.1 != ((sfixedS ((fcountS (w64 (((u0.Reader.Row.take u0.Reader.At.toNat).length : Int) - ((fheadS u0.f).length : Int)))) ++ ((csumS (fkind u0.f) ((u0.Reader.Row.take u0.Reader.At.toNat) ++ (fcountS (w64 (((u0.Reader.Row.take u0.Reader.At.toNat).length : Int) - ((fheadS u0.f).length : Int)))))).1)) (c151.toNat : Int)).1))) = false →
          (K yb1))))))))))))))))))))

def fBits_vc (u0 : Frame) (K : ((List UInt8) × Int) → Prop) : Prop :=
  (u0.Data.length ≤ 140737488355328 →
    ((((fcheckfr u0) != 0) = true →
      (K ([], (fcheckfr u0)))) ∧
    (((fcheckfr u0) != 0) = false →
      ((fheadpre u0) ∧
      (((!u0.Fast) = true →
        ((((fheadS u0).length : Int) + (((csumS 0 (fheadS u0)).1).length : Int) ≤ 9223372036854775807) ∧
        (((((sputS ((fheadS u0) ++ ((csumS 0 (fheadS u0)).1))).1).length : Int) + (([49, 49, 49, 49, 49, 49, 49, 49, 49, 49] : List UInt8).length : Int) ≤ 9223372036854775807) ∧
        (K (((sputS ((fheadS u0) ++ ((csumS 0 (fheadS u0)).1))).1) ++ ([49, 49, 49, 49, 49, 49, 49, 49, 49, 49] : List UInt8), 0))))) ∧
      ((!u0.Fast) = false →
        ((0 ≤ (w64 ((((sputS (fheadS u0)).1).length : Int) - ((fheadS u0).length : Int)))) ∧
        (((((sputS (fheadS u0)).1).length : Int) + ((fcountS (w64 ((((sputS (fheadS u0)).1).length : Int) - ((fheadS u0).length : Int)))).length : Int) ≤ 9223372036854775807) ∧
        ((((fcountS (w64 ((((sputS (fheadS u0)).1).length : Int) - ((fheadS u0).length : Int)))).length : Int) + (((csumS (fkind u0) (((sputS (fheadS u0)).1) ++ (fcountS (w64 ((((sputS (fheadS u0)).1).length : Int) - ((fheadS u0).length : Int)))))).1).length : Int) ≤ 9223372036854775807) ∧
        ((0 ≤ w64 ((((sputS (fheadS u0)).1).length : Int) - 1) ∧ w64 ((((sputS (fheadS u0)).1).length : Int) - 1) < (((sputS (fheadS u0)).1).length : Int)) ∧
        (∀ c199, ((sputS (fheadS u0)).1)[(w64 ((((sputS (fheadS u0)).1).length : Int) - 1)).toNat]? = some c199 →
        (((((sputS (fheadS u0)).1).length : Int) + (((sfixedS ((fcountS (w64 ((((sputS (fheadS u0)).1).length : Int) - ((fheadS u0).length : Int)))) ++ ((csumS (fkind u0) (((sputS (fheadS u0)).1) ++ (fcountS (w64 ((((sputS (fheadS u0)).1).length : Int) - ((fheadS u0).length : Int)))))).1)) (c199.toNat : Int)).1).length : Int) ≤ 9223372036854775807) ∧
        ((((((sputS (fheadS u0)).1) ++ ((sfixedS ((fcountS (w64 ((((sputS (fheadS u0)).1).length : Int) - ((fheadS u0).length : Int)))) ++ ((csumS (fkind u0) (((sputS (fheadS u0)).1) ++ (fcountS (w64 ((((sputS (fheadS u0)).1).length : Int) - ((fheadS u0).length : Int)))))).1)) (c199.toNat : Int)).1)).length : Int) + (([49, 49, 49, 49, 49, 49, 49, 49, 49, 49] : List UInt8).length : Int) ≤ 9223372036854775807) ∧
        (K ((((sputS (fheadS u0)).1) ++ ((sfixedS ((fcountS (w64 ((((sputS (fheadS u0)).1).length : Int) - ((fheadS u0).length : Int)))) ++ ((csumS (fkind u0) (((sputS (fheadS u0)).1) ++ (fcountS (w64 ((((sputS (fheadS u0)).1).length : Int) - ((fheadS u0).length : Int)))))).1)) (c199.toNat : Int)).1)) ++ ([49, 49, 49, 49, 49, 49, 49, 49, 49, 49] : List UInt8), 0)))))))))))))))

def flongest_vc (u0 : Bool) (u1 : Bool) (u2 : Int) (K : (Int × Int) → Prop) : Prop :=
  ((((decide (u2 < 0)) || (decide (u2 > 64))) = true →
      (K (0, 2))) ∧
    (((decide (u2 < 0)) || (decide (u2 > 64))) = false →
      ((0 ≤ u2 ∧ u2 ≤ u2 ∧ u2 * 1 ≤ 140737488355328) ∧
      ((((fcheckfr (⟨0, u0, u1, false, 0, (List.replicate u2.toNat (0 : Int))⟩ : Frame)) != 0) = true →
        (K (0, (fcheckfr (⟨0, u0, u1, false, 0, (List.replicate u2.toNat (0 : Int))⟩ : Frame))))) ∧
      (((fcheckfr (⟨0, u0, u1, false, 0, (List.replicate u2.toNat (0 : Int))⟩ : Frame)) != 0) = false →
        ((fheadpre (⟨0, u0, u1, false, 0, (List.replicate u2.toNat (0 : Int))⟩ : Frame)) ∧
        (((!u1) = true →
          (K (w64 (((smost (w64 (((fheadS (⟨0, u0, u1, false, 0, (List.replicate u2.toNat (0 : Int))⟩ : Frame)).length : Int) + 15))).1) + 10), 0))) ∧
        ((!u1) = false →
          (K (w64 ((w64 (((smost ((fheadS (⟨0, u0, u1, false, 0, (List.replicate u2.toNat (0 : Int))⟩ : Frame)).length : Int)).1) + (w64 ((w64 (4 + ((csize (fkind (⟨0, u0, u1, false, 0, (List.replicate u2.toNat (0 : Int))⟩ : Frame))).1))) + (w64 ((w64 ((w64 (4 + ((csize (fkind (⟨0, u0, u1, false, 0, (List.replicate u2.toNat (0 : Int))⟩ : Frame))).1))) + 3)).tdiv 4)))))) + 10), 0))))))))))

end Go.Proofs.YtmbdcehmeiiaoaaDoor
