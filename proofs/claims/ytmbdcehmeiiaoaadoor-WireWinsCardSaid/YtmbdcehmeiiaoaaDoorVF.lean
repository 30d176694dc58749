/- What must hold so that each function ends well: pure predicates, made by program. -/
import Derived.Test.YtmbdcehmeiiaoaaDoorPEb
set_option linter.unusedVariables false
set_option linter.unusedSimpArgs false
namespace Go.Proofs.YtmbdcehmeiiaoaaDoor
open Go.Sy Go.RowKit
def fRead_vc (u0 : List UInt8) (K : (Frame × Int × Int) → Prop) : Prop :=
  ((((bcheckS u0) != 0) = true →
      (K ((⟨0, false, false, false, 0, []⟩ : Frame), 0, (bcheckS u0)))) ∧
    (((bcheckS u0) != 0) = false →
      ((Rok (⟨(⟨u0, 0, 0, (⟨0, 0⟩ : Counter)⟩ : Reader), (⟨0, false, false, false, 0, []⟩ : Frame)⟩ : FReader).Reader) ∧
      (∀ r63, (rnamesS (⟨(⟨u0, 0, 0, (⟨0, 0⟩ : Counter)⟩ : Reader), (⟨0, false, false, false, 0, []⟩ : Frame)⟩ : FReader)) = r63 →
      (r63.f.Data.length ≤ 140737488355328 →
      ((Rok r63.Reader ∧ 0 ≤ (4 : Int) ∧ (4 : Int) ≤ 62) ∧
      (∀ r84, (rnumberS r63 4) = r84 →
      (r84.2.f.Data.length ≤ 140737488355328 →
      (∃ inv98 : FReader → Prop,
      (((r84.2.Reader.Code != 0) = true →
        (inv98 r84.2)) ∧
      ((r84.2.Reader.Code != 0) = false →
        ((((!r84.2.f.Fast) && (decide (r84.1 > 8))) = true →
          (∀ r1180, (rfailS r84.2 4) = r1180 →
          (r1180.f.Data.length ≤ 140737488355328 →
          (inv98 r1180)))) ∧
        (((!r84.2.f.Fast) && (decide (r84.1 > 8))) = false →
          ((r84.2.f.Remote = true →
            (inv98 (⟨r84.2.Reader, (⟨r84.2.f.ID, r84.2.f.Long, r84.2.f.Fast, r84.2.f.Remote, r84.1, r84.2.f.Data⟩ : Frame)⟩ : FReader))) ∧
          (r84.2.f.Remote = false →
            (fsizes.length ≤ 140737488355328 →
            ((0 ≤ r84.1 ∧ r84.1 < (fsizes.length : Int)) ∧
            (∀ q1244, fsizes[r84.1.toNat]? = some q1244 →
            ((Rok r84.2.Reader ∧ (w64 (8 * q1244)) ≤ 9223372036854775807) ∧
            (∀ r1271, (rtakeFS r84.2 (w64 (8 * q1244))) = r1271 →
            (r1271.2.f.Data.length ≤ 140737488355328 →
            (((bbytesS r1271.1).1).length ≤ 140737488355328 →
            (inv98 (⟨r1271.2.Reader, (⟨r1271.2.f.ID, r1271.2.f.Long, r1271.2.f.Fast, r1271.2.f.Remote, r1271.2.f.Size, (bbytesS r1271.1).1⟩ : Frame)⟩ : FReader))))))))))))))) ∧
      (∀ (yb47 : FReader), inv98 yb47 →
        (∃ inv125 : FReader → Prop,
        ((yb47.f.Fast = true →
          ((fastpre yb47) ∧
          (∀ r997, (rfastS yb47) = r997 →
          (r997.f.Data.length ≤ 140737488355328 →
          (inv125 r997))))) ∧
        (yb47.f.Fast = false →
          (((yb47.Reader.Code == 0) = true →
            ((fheadpre yb47.f) ∧
            ((Rok yb47.Reader ∧ (15 : Int) ≤ 9223372036854775807) ∧
            (∀ r1067, (rtakeFS yb47 15) = r1067 →
            (r1067.2.f.Data.length ≤ 140737488355328 →
            ((((r1067.2.Reader.Code == 0) && (r1067.1 != ((csumS 0 (fheadS yb47.f)).1))) = true →
              (∀ r1114, (rfailS r1067.2 6) = r1114 →
              (r1114.f.Data.length ≤ 140737488355328 →
              (inv125 r1114)))) ∧
            (((r1067.2.Reader.Code == 0) && (r1067.1 != ((csumS 0 (fheadS yb47.f)).1))) = false →
              (inv125 r1067.2)))))))) ∧
          ((yb47.Reader.Code == 0) = false →
            (inv125 yb47))))) ∧
        (∀ (yb47v : FReader), inv125 yb47v →
          (((0 ≤ yb47v.Reader.At ∧ yb47v.Reader.At ≤ (yb47v.Reader.Row.length : Int) ∧ yb47v.Reader.Row.length ≤ 1000000) ∧ (10 : Int) ≤ 1000000) ∧
          (∀ r155, (rplainFS yb47v 10) = r155 →
          (r155.2.f.Data.length ≤ 140737488355328 →
          (((r155.2.Reader.Code == 0) = true →
            ((0 ≤ (1 : Int) ∧ (1 : Int) ≤ (r155.1.length : Int)) ∧
            ((((r155.1.take (1 : Int).toNat).length : Int) + (([49] : List UInt8).length : Int) ≤ 9223372036854775807) ∧
            ((0 ≤ (2 : Int) ∧ (2 : Int) ≤ (r155.1.length : Int)) ∧
            (((((r155.1.take (1 : Int).toNat) ++ ([49] : List UInt8)).length : Int) + ((r155.1.drop (2 : Int).toNat).length : Int) ≤ 9223372036854775807) ∧
            (∃ inv230 : FReader → Prop,
            ((((((r155.1.take (1 : Int).toNat) ++ ([49] : List UInt8)) ++ (r155.1.drop (2 : Int).toNat)) != ([49, 49, 49, 49, 49, 49, 49, 49, 49, 49] : List UInt8)) = true →
              (∀ r617, (rfailS r155.2 4) = r617 →
              (r617.f.Data.length ≤ 140737488355328 →
              (inv230 r617)))) ∧
            (((((r155.1.take (1 : Int).toNat) ++ ([49] : List UInt8)) ++ (r155.1.drop (2 : Int).toNat)) != ([49, 49, 49, 49, 49, 49, 49, 49, 49, 49] : List UInt8)) = false →
              (inv230 r155.2))) ∧
            (∀ (yb47vv : FReader), inv230 yb47vv →
              (((yb47vv.Reader.Code != 0) = true →
                (K ((⟨0, false, false, false, 0, []⟩ : Frame), 0, yb47vv.Reader.Code))) ∧
              ((yb47vv.Reader.Code != 0) = false →
                (K (yb47vv.f, yb47vv.Reader.At, 0))))))))))) ∧
          ((r155.2.Reader.Code == 0) = false →
            (((r155.2.Reader.Code != 0) = true →
              (K ((⟨0, false, false, false, 0, []⟩ : Frame), 0, r155.2.Reader.Code))) ∧
            ((r155.2.Reader.Code != 0) = false →
              (K (r155.2.f, r155.2.Reader.At, 0)))))))))))))))))))))

end Go.Proofs.YtmbdcehmeiiaoaaDoor
