/- What must hold so that each function ends well: pure predicates, made by program. -/
import Derived.Test.YtmbdcehmeiiaoaaDoorPD
set_option linter.unusedVariables false
set_option linter.unusedSimpArgs false
namespace Go.Proofs.YtmbdcehmeiiaoaaDoor
open Go.Sy Go.RowKit
def rnames_vc (u0 : FReader) (K : FReader → Prop) : Prop :=
  (u0.f.Data.length ≤ 140737488355328 →
    ((Rok u0.Reader) ∧
    (∀ r15, (rwantS u0 ([48] : List UInt8)) = r15 →
    (r15.f.Data.length ≤ 140737488355328 →
    ((Rok r15.Reader ∧ 0 ≤ (11 : Int) ∧ (11 : Int) ≤ 62) ∧
    (∀ r37, (rnumberS r15 11) = r37 →
    (r37.2.f.Data.length ≤ 140737488355328 →
    ((Rok (⟨r37.2.Reader, (⟨r37.1, r37.2.f.Long, r37.2.f.Fast, r37.2.f.Remote, r37.2.f.Size, r37.2.f.Data⟩ : Frame)⟩ : FReader).Reader ∧ (1 : Int) ≤ 9223372036854775807) ∧
    (∀ r70, (rtakeFS (⟨r37.2.Reader, (⟨r37.1, r37.2.f.Long, r37.2.f.Fast, r37.2.f.Remote, r37.2.f.Size, r37.2.f.Data⟩ : Frame)⟩ : FReader) 1) = r70 →
    (r70.2.f.Data.length ≤ 140737488355328 →
    ((Rok r70.2.Reader ∧ (1 : Int) ≤ 9223372036854775807) ∧
    (∀ r101, (rtakeFS r70.2 1) = r101 →
    (r101.2.f.Data.length ≤ 140737488355328 →
    (∃ inv150 : FReader → Prop,
    (((r101.1 == ([49] : List UInt8)) = true →
      (∃ inv383 : FReader → Prop,
      (((!(r70.1 == ([49] : List UInt8))) = true →
        (∀ r694, (rfailS (⟨r101.2.Reader, (⟨r101.2.f.ID, r101.1 == ([49] : List UInt8), r101.2.f.Fast, r70.1 == ([49] : List UInt8), r101.2.f.Size, r101.2.f.Data⟩ : Frame)⟩ : FReader) 4) = r694 →
        (r694.f.Data.length ≤ 140737488355328 →
        (inv383 r694)))) ∧
      ((!(r70.1 == ([49] : List UInt8))) = false →
        (inv383 (⟨r101.2.Reader, (⟨r101.2.f.ID, r101.1 == ([49] : List UInt8), r101.2.f.Fast, r70.1 == ([49] : List UInt8), r101.2.f.Size, r101.2.f.Data⟩ : Frame)⟩ : FReader)))) ∧
      (∀ (yb1v : FReader), inv383 yb1v →
        ((Rok yb1v.Reader ∧ 0 ≤ (18 : Int) ∧ (18 : Int) ≤ 62) ∧
        ((Rok (⟨(((rnumberS yb1v 18).2).Reader), (⟨bOr .i64 (bShl .i64 yb1v.f.ID 18) ((rnumberS yb1v 18).1), yb1v.f.Long, yb1v.f.Fast, yb1v.f.Remote, yb1v.f.Size, yb1v.f.Data⟩ : Frame)⟩ : FReader).Reader ∧ (1 : Int) ≤ 9223372036854775807) ∧
        (∀ r662, (rtakeFS (⟨(((rnumberS yb1v 18).2).Reader), (⟨bOr .i64 (bShl .i64 yb1v.f.ID 18) ((rnumberS yb1v 18).1), yb1v.f.Long, yb1v.f.Fast, yb1v.f.Remote, yb1v.f.Size, yb1v.f.Data⟩ : Frame)⟩ : FReader) 1) = r662 →
        (r662.2.f.Data.length ≤ 140737488355328 →
        (inv150 (⟨r662.2.Reader, (⟨r662.2.f.ID, r662.2.f.Long, r662.2.f.Fast, r662.1 == ([49] : List UInt8), r662.2.f.Size, r662.2.f.Data⟩ : Frame)⟩ : FReader))))))))) ∧
    ((r101.1 == ([49] : List UInt8)) = false →
      (inv150 (⟨r101.2.Reader, (⟨r101.2.f.ID, r101.1 == ([49] : List UInt8), r101.2.f.Fast, r70.1 == ([49] : List UInt8), r101.2.f.Size, r101.2.f.Data⟩ : Frame)⟩ : FReader)))) ∧
    (∀ (yb1 : FReader), inv150 yb1 →
      ((Rok yb1.Reader ∧ (1 : Int) ≤ 9223372036854775807) ∧
      (∀ r183, (rtakeFS yb1 1) = r183 →
      (r183.2.f.Data.length ≤ 140737488355328 →
      (((r183.1 == ([49] : List UInt8)) = true →
        (∃ inv233 : FReader → Prop,
        ((r183.2.f.Remote = true →
          (∀ r324, (rfailS (⟨r183.2.Reader, (⟨r183.2.f.ID, r183.2.f.Long, r183.1 == ([49] : List UInt8), r183.2.f.Remote, r183.2.f.Size, r183.2.f.Data⟩ : Frame)⟩ : FReader) 4) = r324 →
          (r324.f.Data.length ≤ 140737488355328 →
          (inv233 r324)))) ∧
        (r183.2.f.Remote = false →
          (inv233 (⟨r183.2.Reader, (⟨r183.2.f.ID, r183.2.f.Long, r183.1 == ([49] : List UInt8), r183.2.f.Remote, r183.2.f.Size, r183.2.f.Data⟩ : Frame)⟩ : FReader)))) ∧
        (∀ (yb1v : FReader), inv233 yb1v →
          ((Rok yb1v.Reader) ∧
          (∀ r263, (rwantS yb1v ([48] : List UInt8)) = r263 →
          (r263.f.Data.length ≤ 140737488355328 →
          ((Rok r263.Reader) ∧
          (∀ r283, (rwantS r263 ([49] : List UInt8)) = r283 →
          (r283.f.Data.length ≤ 140737488355328 →
          ((Rok r283.Reader) ∧
          (∀ r303, (rwantS r283 ([48] : List UInt8)) = r303 →
          (r303.f.Data.length ≤ 140737488355328 →
          (K r303))))))))))))) ∧
      ((r183.1 == ([49] : List UInt8)) = false →
        ((r183.2.f.Long = true →
          ((Rok (⟨r183.2.Reader, (⟨r183.2.f.ID, r183.2.f.Long, r183.1 == ([49] : List UInt8), r183.2.f.Remote, r183.2.f.Size, r183.2.f.Data⟩ : Frame)⟩ : FReader).Reader) ∧
          (∀ r362, (rwantS (⟨r183.2.Reader, (⟨r183.2.f.ID, r183.2.f.Long, r183.1 == ([49] : List UInt8), r183.2.f.Remote, r183.2.f.Size, r183.2.f.Data⟩ : Frame)⟩ : FReader) ([48] : List UInt8)) = r362 →
          (r362.f.Data.length ≤ 140737488355328 →
          (K r362))))) ∧
        (r183.2.f.Long = false →
          (K (⟨r183.2.Reader, (⟨r183.2.f.ID, r183.2.f.Long, r183.1 == ([49] : List UInt8), r183.2.f.Remote, r183.2.f.Size, r183.2.f.Data⟩ : Frame)⟩ : FReader))))))))))))))))))))))))
theorem rnames_mono {u0 : FReader} {K K1 : FReader → Prop} (hK : ∀ r, K r → K1 r) (h : rnames_vc u0 K) : rnames_vc u0 K1 :=
  fun z0 => ⟨(h z0).1, fun y2 z2 => fun z3 => ⟨((((h z0).2) y2 z2) z3).1, fun y5 z5 => fun z6 => ⟨(((((((h z0).2) y2 z2) z3).2) y5 z5) z6).1, fun y8 z8 => fun z9 => ⟨((((((((((h z0).2) y2 z2) z3).2) y5 z5) z6).2) y8 z8) z9).1, fun y11 z11 => fun z12 => (Exists.elim (((((((((((((h z0).2) y2 z2) z3).2) y5 z5) z6).2) y8 z8) z9).2) y11 z11) z12) fun i13 e13 => ⟨i13, ⟨fun c14 => (Exists.elim (e13.1.1 c14) fun i15 e15 => ⟨i15, ⟨fun c16 => fun y17 z17 => fun z18 => (((e15.1.1 c16) y17 z17) z18), fun c16 => (e15.1.2 c16)⟩, fun yb1v z15 => ⟨(e15.2 yb1v z15).1, ⟨((e15.2 yb1v z15).2).1, fun y18 z18 => fun z19 => (((((e15.2 yb1v z15).2).2) y18 z18) z19)⟩⟩⟩), fun c14 => (e13.1.2 c14)⟩, fun yb1 z13 => ⟨(e13.2 yb1 z13).1, fun y15 z15 => fun z16 => ⟨fun c17 => (Exists.elim (((((e13.2 yb1 z13).2) y15 z15) z16).1 c17) fun i18 e18 => ⟨i18, ⟨fun c19 => fun y20 z20 => fun z21 => (((e18.1.1 c19) y20 z20) z21), fun c19 => (e18.1.2 c19)⟩, fun yb1v z18 => ⟨(e18.2 yb1v z18).1, fun y20 z20 => fun z21 => ⟨((((e18.2 yb1v z18).2) y20 z20) z21).1, fun y23 z23 => fun z24 => ⟨(((((((e18.2 yb1v z18).2) y20 z20) z21).2) y23 z23) z24).1, fun y26 z26 => fun z27 => hK _ ((((((((((e18.2 yb1v z18).2) y20 z20) z21).2) y23 z23) z24).2) y26 z26) z27)⟩⟩⟩⟩), fun c17 => ⟨fun c18 => ⟨((((((e13.2 yb1 z13).2) y15 z15) z16).2 c17).1 c18).1, fun y20 z20 => fun z21 => hK _ (((((((((e13.2 yb1 z13).2) y15 z15) z16).2 c17).1 c18).2) y20 z20) z21)⟩, fun c18 => hK _ ((((((e13.2 yb1 z13).2) y15 z15) z16).2 c17).2 c18)⟩⟩⟩⟩)⟩⟩⟩⟩

def rfast_vc (u0 : FReader) (K : FReader → Prop) : Prop :=
  (u0.f.Data.length ≤ 140737488355328 →
    (((u0.Reader.Code != 0) = true →
      (K u0)) ∧
    ((u0.Reader.Code != 0) = false →
      ((0 ≤ u0.Reader.At ∧ u0.Reader.At ≤ (u0.Reader.Row.length : Int)) ∧
      ((fheadpre u0.f) ∧
      ((0 ≤ (w64 (((u0.Reader.Row.take u0.Reader.At.toNat).length : Int) - ((fheadS u0.f).length : Int)))) ∧
      ((((u0.Reader.Row.take u0.Reader.At.toNat).length : Int) + ((fcountS (w64 (((u0.Reader.Row.take u0.Reader.At.toNat).length : Int) - ((fheadS u0.f).length : Int)))).length : Int) ≤ 9223372036854775807) ∧
      ((((fcountS (w64 (((u0.Reader.Row.take u0.Reader.At.toNat).length : Int) - ((fheadS u0.f).length : Int)))).length : Int) + (((csumS (fkind u0.f) ((u0.Reader.Row.take u0.Reader.At.toNat) ++ (fcountS (w64 (((u0.Reader.Row.take u0.Reader.At.toNat).length : Int) - ((fheadS u0.f).length : Int)))))).1).length : Int) ≤ 9223372036854775807) ∧
      ((0 ≤ w64 (((u0.Reader.Row.take u0.Reader.At.toNat).length : Int) - 1) ∧ w64 (((u0.Reader.Row.take u0.Reader.At.toNat).length : Int) - 1) < ((u0.Reader.Row.take u0.Reader.At.toNat).length : Int)) ∧
      (∀ c151, (u0.Reader.Row.take u0.Reader.At.toNat)[(w64 (((u0.Reader.Row.take u0.Reader.At.toNat).length : Int) - 1)).toNat]? = some c151 →
      (((0 ≤ u0.Reader.At ∧ u0.Reader.At ≤ (u0.Reader.Row.length : Int) ∧ u0.Reader.Row.length ≤ 1000000) ∧ (((sfixedS ((fcountS (w64 (((u0.Reader.Row.take u0.Reader.At.toNat).length : Int) - ((fheadS u0.f).length : Int)))) ++ ((csumS (fkind u0.f) ((u0.Reader.Row.take u0.Reader.At.toNat) ++ (fcountS (w64 (((u0.Reader.Row.take u0.Reader.At.toNat).length : Int) - ((fheadS u0.f).length : Int)))))).1)) (c151.toNat : Int)).1).length : Int) ≤ 1000000) ∧
      (∀ r188, (rplainFS u0 (((sfixedS ((fcountS (w64 (((u0.Reader.Row.take u0.Reader.At.toNat).length : Int) - ((fheadS u0.f).length : Int)))) ++ ((csumS (fkind u0.f) ((u0.Reader.Row.take u0.Reader.At.toNat) ++ (fcountS (w64 (((u0.Reader.Row.take u0.Reader.At.toNat).length : Int) - ((fheadS u0.f).length : Int)))))).1)) (c151.toNat : Int)).1).length : Int)) = r188 →
      (r188.2.f.Data.length ≤ 140737488355328 →
      (∃ inv209 : Int → FReader → Prop, ∃ mu209 : Int → FReader → Nat, inv209 0 r188.2 ∧
      (∀ (x69 : Int) (yb1 : FReader), inv209 x69 yb1 →
      (((decide (x69 < (r188.1.length : Int))) = true →
        (∃ inv230 : FReader → Prop,
        (((((x69.tmod 5) == 0) && (decide (x69 > 0))) = true →
          ((0 ≤ x69 ∧ x69 < (r188.1.length : Int)) ∧
          (∀ c300, r188.1[x69.toNat]? = some c300 →
          ((0 ≤ w64 (x69 - 1) ∧ w64 (x69 - 1) < (r188.1.length : Int)) ∧
          (∀ c317, r188.1[(w64 (x69 - 1)).toNat]? = some c317 →
          ((((c300.toNat : Int) == (c317.toNat : Int)) = true →
            (∀ r380, (rfailS yb1 5) = r380 →
            (r380.f.Data.length ≤ 140737488355328 →
            (inv230 r380)))) ∧
          (((c300.toNat : Int) == (c317.toNat : Int)) = false →
            (((x69 == 0) = true →
              ((0 ≤ (0 : Int) ∧ (0 : Int) < (r188.1.length : Int)) ∧
              (∀ c403, r188.1[(0 : Int).toNat]? = some c403 →
              ((0 ≤ w64 (((u0.Reader.Row.take u0.Reader.At.toNat).length : Int) - 1) ∧ w64 (((u0.Reader.Row.take u0.Reader.At.toNat).length : Int) - 1) < ((u0.Reader.Row.take u0.Reader.At.toNat).length : Int)) ∧
              (∀ c423, (u0.Reader.Row.take u0.Reader.At.toNat)[(w64 (((u0.Reader.Row.take u0.Reader.At.toNat).length : Int) - 1)).toNat]? = some c423 →
              ((((c403.toNat : Int) == (c423.toNat : Int)) = true →
                (∀ r449, (rfailS yb1 5) = r449 →
                (r449.f.Data.length ≤ 140737488355328 →
                (inv230 r449)))) ∧
              (((c403.toNat : Int) == (c423.toNat : Int)) = false →
                (inv230 yb1)))))))) ∧
            ((x69 == 0) = false →
              (inv230 yb1)))))))))) ∧
        ((((x69.tmod 5) == 0) && (decide (x69 > 0))) = false →
          (((x69 == 0) = true →
            ((0 ≤ (0 : Int) ∧ (0 : Int) < (r188.1.length : Int)) ∧
            (∀ c528, r188.1[(0 : Int).toNat]? = some c528 →
            ((0 ≤ w64 (((u0.Reader.Row.take u0.Reader.At.toNat).length : Int) - 1) ∧ w64 (((u0.Reader.Row.take u0.Reader.At.toNat).length : Int) - 1) < ((u0.Reader.Row.take u0.Reader.At.toNat).length : Int)) ∧
            (∀ c548, (u0.Reader.Row.take u0.Reader.At.toNat)[(w64 (((u0.Reader.Row.take u0.Reader.At.toNat).length : Int) - 1)).toNat]? = some c548 →
            ((((c528.toNat : Int) == (c548.toNat : Int)) = true →
              (∀ r574, (rfailS yb1 5) = r574 →
              (r574.f.Data.length ≤ 140737488355328 →
              (inv230 r574)))) ∧
            (((c528.toNat : Int) == (c548.toNat : Int)) = false →
              (inv230 yb1)))))))) ∧
          ((x69 == 0) = false →
            (inv230 yb1))))) ∧
        (∀ (yb1v : FReader), inv230 yb1v →
          (inv209 (w64 (x69 + 1)) yb1v ∧ mu209 (w64 (x69 + 1)) yb1v < mu209 x69 yb1)))) ∧
      ((decide (x69 < (r188.1.length : Int))) = false →
        ((((yb1.Reader.Code == 0) && (r188.1 != ((sfixedS ((fcountS (w64 (((u0.Reader.Row.take u0.Reader.At.toNat).length : Int) - ((fheadS u0.f).length : Int)))) ++ ((csumS (fkind u0.f) ((u0.Reader.Row.take u0.Reader.At.toNat) ++ (fcountS (w64 (((u0.Reader.Row.take u0.Reader.At.toNat).length : Int) - ((fheadS u0.f).length : Int)))))).1)) (c151.toNat : Int)).1))) = true →
          (∀ r646, (rfailS yb1 6) = r646 →
          (r646.f.Data.length ≤ 140737488355328 →
          (K r646)))) ∧
        (((yb1.Reader.Code == 0) && (r188.1 != ((sfixedS ((fcountS (w64 (((u0.Reader.Row.take u0.Reader.At.toNat).length : Int) - ((fheadS u0.f).length : Int)))) ++ ((csumS (fkind u0.f) ((u0.Reader.Row.take u0.Reader.At.toNat) ++ (fcountS (w64 (((u0.Reader.Row.take u0.Reader.At.toNat).length : Int) - ((fheadS u0.f).length : Int)))))).1)) (c151.toNat : Int)).1))) = false →
          (K yb1))))))))))))))))))))
theorem rfast_mono {u0 : FReader} {K K1 : FReader → Prop} (hK : ∀ r, K r → K1 r) (h : rfast_vc u0 K) : rfast_vc u0 K1 :=
  fun z0 => ⟨fun c1 => hK _ ((h z0).1 c1), fun c1 => ⟨((h z0).2 c1).1, ⟨(((h z0).2 c1).2).1, ⟨((((h z0).2 c1).2).2).1, ⟨(((((h z0).2 c1).2).2).2).1, ⟨((((((h z0).2 c1).2).2).2).2).1, ⟨(((((((h z0).2 c1).2).2).2).2).2).1, fun y8 z8 => ⟨(((((((((h z0).2 c1).2).2).2).2).2).2) y8 z8).1, fun y10 z10 => fun z11 => (Exists.elim ((((((((((((h z0).2 c1).2).2).2).2).2).2) y8 z8).2) y10 z10) z11) fun i12 e12 => Exists.elim e12 fun m12 g12 => ⟨i12, m12, g12.1, fun x69 yb1 z12 => ⟨fun c13 => (Exists.elim ((g12.2 x69 yb1 z12).1 c13) fun i14 e14 => ⟨i14, ⟨fun c15 => ⟨(e14.1.1 c15).1, fun y17 z17 => ⟨(((e14.1.1 c15).2) y17 z17).1, fun y19 z19 => ⟨fun c20 => fun y21 z21 => fun z22 => ((((((((e14.1.1 c15).2) y17 z17).2) y19 z19).1 c20) y21 z21) z22), fun c20 => ⟨fun c21 => ⟨(((((((e14.1.1 c15).2) y17 z17).2) y19 z19).2 c20).1 c21).1, fun y23 z23 => ⟨(((((((((e14.1.1 c15).2) y17 z17).2) y19 z19).2 c20).1 c21).2) y23 z23).1, fun y25 z25 => ⟨fun c26 => fun y27 z27 => fun z28 => ((((((((((((((e14.1.1 c15).2) y17 z17).2) y19 z19).2 c20).1 c21).2) y23 z23).2) y25 z25).1 c26) y27 z27) z28), fun c26 => ((((((((((((e14.1.1 c15).2) y17 z17).2) y19 z19).2 c20).1 c21).2) y23 z23).2) y25 z25).2 c26)⟩⟩⟩, fun c21 => (((((((e14.1.1 c15).2) y17 z17).2) y19 z19).2 c20).2 c21)⟩⟩⟩⟩, fun c15 => ⟨fun c16 => ⟨((e14.1.2 c15).1 c16).1, fun y18 z18 => ⟨((((e14.1.2 c15).1 c16).2) y18 z18).1, fun y20 z20 => ⟨fun c21 => fun y22 z22 => fun z23 => (((((((((e14.1.2 c15).1 c16).2) y18 z18).2) y20 z20).1 c21) y22 z22) z23), fun c21 => (((((((e14.1.2 c15).1 c16).2) y18 z18).2) y20 z20).2 c21)⟩⟩⟩, fun c16 => ((e14.1.2 c15).2 c16)⟩⟩, fun yb1v z14 => (e14.2 yb1v z14)⟩), fun c13 => ⟨fun c14 => fun y15 z15 => fun z16 => hK _ (((((g12.2 x69 yb1 z12).2 c13).1 c14) y15 z15) z16), fun c14 => hK _ (((g12.2 x69 yb1 z12).2 c13).2 c14)⟩⟩⟩)⟩⟩⟩⟩⟩⟩⟩⟩

def fBits_vc (u0 : Frame) (K : ((List UInt8) × Int) → Prop) : Prop :=
  (u0.Data.length ≤ 140737488355328 →
    ((((fcheckfr u0) != 0) = true →
      (K ([], (fcheckfr u0)))) ∧
    (((fcheckfr u0) != 0) = false →
      ((fheadpre u0) ∧
      (((!u0.Fast) = true →
        ((((fheadS u0).length : Int) + (((csumS 0 (fheadS u0)).1).length : Int) ≤ 9223372036854775807) ∧
        (((((sputS ((fheadS u0) ++ ((csumS 0 (fheadS u0)).1))).1).length : Int) + (([49, 49, 49, 49, 49, 49, 49, 49, 49, 49] : List UInt8).length : Int) ≤ 9223372036854775807) ∧
        (K (((sputS ((fheadS u0) ++ ((csumS 0 (fheadS u0)).1))).1) ++ ([49, 49, 49, 49, 49, 49, 49, 49, 49, 49] : List UInt8), 0))))) ∧
      ((!u0.Fast) = false →
        ((0 ≤ (w64 ((((sputS (fheadS u0)).1).length : Int) - ((fheadS u0).length : Int)))) ∧
        (((((sputS (fheadS u0)).1).length : Int) + ((fcountS (w64 ((((sputS (fheadS u0)).1).length : Int) - ((fheadS u0).length : Int)))).length : Int) ≤ 9223372036854775807) ∧
        ((((fcountS (w64 ((((sputS (fheadS u0)).1).length : Int) - ((fheadS u0).length : Int)))).length : Int) + (((csumS (fkind u0) (((sputS (fheadS u0)).1) ++ (fcountS (w64 ((((sputS (fheadS u0)).1).length : Int) - ((fheadS u0).length : Int)))))).1).length : Int) ≤ 9223372036854775807) ∧
        ((0 ≤ w64 ((((sputS (fheadS u0)).1).length : Int) - 1) ∧ w64 ((((sputS (fheadS u0)).1).length : Int) - 1) < (((sputS (fheadS u0)).1).length : Int)) ∧
        (∀ c199, ((sputS (fheadS u0)).1)[(w64 ((((sputS (fheadS u0)).1).length : Int) - 1)).toNat]? = some c199 →
        (((((sputS (fheadS u0)).1).length : Int) + (((sfixedS ((fcountS (w64 ((((sputS (fheadS u0)).1).length : Int) - ((fheadS u0).length : Int)))) ++ ((csumS (fkind u0) (((sputS (fheadS u0)).1) ++ (fcountS (w64 ((((sputS (fheadS u0)).1).length : Int) - ((fheadS u0).length : Int)))))).1)) (c199.toNat : Int)).1).length : Int) ≤ 9223372036854775807) ∧
        ((((((sputS (fheadS u0)).1) ++ ((sfixedS ((fcountS (w64 ((((sputS (fheadS u0)).1).length : Int) - ((fheadS u0).length : Int)))) ++ ((csumS (fkind u0) (((sputS (fheadS u0)).1) ++ (fcountS (w64 ((((sputS (fheadS u0)).1).length : Int) - ((fheadS u0).length : Int)))))).1)) (c199.toNat : Int)).1)).length : Int) + (([49, 49, 49, 49, 49, 49, 49, 49, 49, 49] : List UInt8).length : Int) ≤ 9223372036854775807) ∧
        (K ((((sputS (fheadS u0)).1) ++ ((sfixedS ((fcountS (w64 ((((sputS (fheadS u0)).1).length : Int) - ((fheadS u0).length : Int)))) ++ ((csumS (fkind u0) (((sputS (fheadS u0)).1) ++ (fcountS (w64 ((((sputS (fheadS u0)).1).length : Int) - ((fheadS u0).length : Int)))))).1)) (c199.toNat : Int)).1)) ++ ([49, 49, 49, 49, 49, 49, 49, 49, 49, 49] : List UInt8), 0)))))))))))))))
theorem fBits_mono {u0 : Frame} {K K1 : ((List UInt8) × Int) → Prop} (hK : ∀ r, K r → K1 r) (h : fBits_vc u0 K) : fBits_vc u0 K1 :=
  fun z0 => ⟨fun c1 => hK _ ((h z0).1 c1), fun c1 => ⟨((h z0).2 c1).1, ⟨fun c3 => ⟨((((h z0).2 c1).2).1 c3).1, ⟨(((((h z0).2 c1).2).1 c3).2).1, hK _ ((((((h z0).2 c1).2).1 c3).2).2)⟩⟩, fun c3 => ⟨((((h z0).2 c1).2).2 c3).1, ⟨(((((h z0).2 c1).2).2 c3).2).1, ⟨((((((h z0).2 c1).2).2 c3).2).2).1, ⟨(((((((h z0).2 c1).2).2 c3).2).2).2).1, fun y8 z8 => ⟨(((((((((h z0).2 c1).2).2 c3).2).2).2).2) y8 z8).1, ⟨((((((((((h z0).2 c1).2).2 c3).2).2).2).2) y8 z8).2).1, hK _ (((((((((((h z0).2 c1).2).2 c3).2).2).2).2) y8 z8).2).2)⟩⟩⟩⟩⟩⟩⟩⟩⟩

def flongest_vc (u0 : Bool) (u1 : Bool) (u2 : Int) (K : (Int × Int) → Prop) : Prop :=
  ((((decide (u2 < 0)) || (decide (u2 > 64))) = true →
      (K (0, 2))) ∧
    (((decide (u2 < 0)) || (decide (u2 > 64))) = false →
      ((0 ≤ u2 ∧ u2 ≤ u2 ∧ u2 * 1 ≤ 140737488355328) ∧
      ((((fcheckfr (⟨0, u0, u1, false, 0, (List.replicate u2.toNat (0 : Int))⟩ : Frame)) != 0) = true →
        (K (0, (fcheckfr (⟨0, u0, u1, false, 0, (List.replicate u2.toNat (0 : Int))⟩ : Frame))))) ∧
      (((fcheckfr (⟨0, u0, u1, false, 0, (List.replicate u2.toNat (0 : Int))⟩ : Frame)) != 0) = false →
        ((fheadpre (⟨0, u0, u1, false, 0, (List.replicate u2.toNat (0 : Int))⟩ : Frame)) ∧
        (((!u1) = true →
          (K (w64 (((smost (w64 (((fheadS (⟨0, u0, u1, false, 0, (List.replicate u2.toNat (0 : Int))⟩ : Frame)).length : Int) + 15))).1) + 10), 0))) ∧
        ((!u1) = false →
          (K (w64 ((w64 (((smost ((fheadS (⟨0, u0, u1, false, 0, (List.replicate u2.toNat (0 : Int))⟩ : Frame)).length : Int)).1) + (w64 ((w64 (4 + ((csize (fkind (⟨0, u0, u1, false, 0, (List.replicate u2.toNat (0 : Int))⟩ : Frame))).1))) + (w64 ((w64 ((w64 (4 + ((csize (fkind (⟨0, u0, u1, false, 0, (List.replicate u2.toNat (0 : Int))⟩ : Frame))).1))) + 3)).tdiv 4)))))) + 10), 0))))))))))
theorem flongest_mono {u0 : Bool} {u1 : Bool} {u2 : Int} {K K1 : (Int × Int) → Prop} (hK : ∀ r, K r → K1 r) (h : flongest_vc u0 u1 u2 K) : flongest_vc u0 u1 u2 K1 :=
  ⟨fun c0 => hK _ (h.1 c0), fun c0 => ⟨(h.2 c0).1, ⟨fun c2 => hK _ (((h.2 c0).2).1 c2), fun c2 => ⟨(((h.2 c0).2).2 c2).1, ⟨fun c4 => hK _ (((((h.2 c0).2).2 c2).2).1 c4), fun c4 => hK _ (((((h.2 c0).2).2 c2).2).2 c4)⟩⟩⟩⟩⟩

end Go.Proofs.YtmbdcehmeiiaoaaDoor
