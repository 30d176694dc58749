/- What must hold so that each function ends well: pure predicates, made by program. -/
import Derived.Test.YtmbdcehmeiiaoaaGreatDoorPEb
set_option linter.unusedVariables false
set_option linter.unusedSimpArgs false
namespace Go.Proofs.YtmbdcehmeiiaoaaGreatDoor
open Go.Sy Go.RowKit
def fRead_vc (u0 : List UInt8) (K : (Frame × Int × Int) → Prop) : Prop :=
  ((((bcheckS u0) != 0) = false) ∧
    ((Rok (⟨(⟨u0, 0, 0, (⟨0, 0⟩ : Counter)⟩ : Reader), (⟨0, false, false, false, 0, []⟩ : Frame)⟩ : FReader).Reader) ∧
    (∀ r51, (rnamesS (⟨(⟨u0, 0, 0, (⟨0, 0⟩ : Counter)⟩ : Reader), (⟨0, false, false, false, 0, []⟩ : Frame)⟩ : FReader)) = r51 →
    (r51.f.Data.length ≤ 140737488355328 →
    ((Rok r51.Reader ∧ 0 ≤ (4 : Int) ∧ (4 : Int) ≤ 62) ∧
    (∀ r72, (rnumberS r51 4) = r72 →
    (r72.2.f.Data.length ≤ 140737488355328 →
    (((r72.2.Reader.Code != 0) = false) ∧
    ((((!r72.2.f.Fast) && (decide (r72.1 > 8))) = false) ∧
    ((r72.2.f.Remote = false) ∧
    (fsizes.length ≤ 140737488355328 →
    ((0 ≤ r72.1 ∧ r72.1 < (fsizes.length : Int)) ∧
    (∀ q168, fsizes[r72.1.toNat]? = some q168 →
    ((Rok r72.2.Reader ∧ (w64 (8 * q168)) ≤ 9223372036854775807) ∧
    (∀ r195, (rtakeFS r72.2 (w64 (8 * q168))) = r195 →
    (r195.2.f.Data.length ≤ 140737488355328 →
    (((bbytesS r195.1).1).length ≤ 140737488355328 →
    ((r195.2.f.Fast = false) ∧
    (((r195.2.Reader.Code == 0) = true) ∧
    ((fheadpre (⟨r195.2.f.ID, r195.2.f.Long, r195.2.f.Fast, r195.2.f.Remote, r195.2.f.Size, (bbytesS r195.1).1⟩ : Frame)) ∧
    ((Rok (⟨r195.2.Reader, (⟨r195.2.f.ID, r195.2.f.Long, r195.2.f.Fast, r195.2.f.Remote, r195.2.f.Size, (bbytesS r195.1).1⟩ : Frame)⟩ : FReader).Reader ∧ (15 : Int) ≤ 9223372036854775807) ∧
    (∀ r318, (rtakeFS (⟨r195.2.Reader, (⟨r195.2.f.ID, r195.2.f.Long, r195.2.f.Fast, r195.2.f.Remote, r195.2.f.Size, (bbytesS r195.1).1⟩ : Frame)⟩ : FReader) 15) = r318 →
    (r318.2.f.Data.length ≤ 140737488355328 →
    ((((r318.2.Reader.Code == 0) && (r318.1 != ((csumS 0 (fheadS (⟨r195.2.f.ID, r195.2.f.Long, r195.2.f.Fast, r195.2.f.Remote, r195.2.f.Size, (bbytesS r195.1).1⟩ : Frame))).1))) = false) ∧
    (((0 ≤ r318.2.Reader.At ∧ r318.2.Reader.At ≤ (r318.2.Reader.Row.length : Int) ∧ r318.2.Reader.Row.length ≤ 1000000) ∧ (10 : Int) ≤ 1000000) ∧
    (∀ r372, (rplainFS r318.2 10) = r372 →
    (r372.2.f.Data.length ≤ 140737488355328 →
    (((r372.2.Reader.Code == 0) = true →
      ((0 ≤ (1 : Int) ∧ (1 : Int) ≤ (r372.1.length : Int)) ∧
      ((((r372.1.take (1 : Int).toNat).length : Int) + (([49] : List UInt8).length : Int) ≤ 9223372036854775807) ∧
      ((0 ≤ (2 : Int) ∧ (2 : Int) ≤ (r372.1.length : Int)) ∧
      (((((r372.1.take (1 : Int).toNat) ++ ([49] : List UInt8)).length : Int) + ((r372.1.drop (2 : Int).toNat).length : Int) ≤ 9223372036854775807) ∧
      ((((((r372.1.take (1 : Int).toNat) ++ ([49] : List UInt8)) ++ (r372.1.drop (2 : Int).toNat)) != ([49, 49, 49, 49, 49, 49, 49, 49, 49, 49] : List UInt8)) = false) ∧
      (((r372.2.Reader.Code != 0) = false) ∧
      (K (r372.2.f, r372.2.Reader.At, 0))))))))) ∧
    ((r372.2.Reader.Code == 0) = false →
      (((r372.2.Reader.Code != 0) = false) ∧
      (K (r372.2.f, r372.2.Reader.At, 0))))))))))))))))))))))))))))))))

/-! Pure proofs: no program in sight. -/
def f0 : Frame := ⟨0, false, false, false, 0, []⟩
def litB : List UInt8 := (BitsS (⟨5, false, false, false, 0, ([1, 255] : List Int)⟩ : Frame)).1 ++ [49]
def rdX (b : List UInt8) : List UInt8 × FReader := rtakeFS (rnumberS (rnamesS ⟨⟨b, 0, 0, ⟨0, 0⟩⟩, f0⟩) 4).2 (w64 (8 * 2))
def rdY (b : List UInt8) : FReader := ⟨(rdX b).2.Reader, ⟨(rdX b).2.f.ID, (rdX b).2.f.Long, (rdX b).2.f.Fast, (rdX b).2.f.Remote, (rdX b).2.f.Size, (bbytesS (rdX b).1).1⟩⟩
def rdZ (b : List UInt8) : FReader := (rplainFS (rtakeFS (rdY b) 15).2 10).2
/-- What reading gives for the one row that is read here. -/
def readS (b : List UInt8) : Frame × Int × Int := ((rdZ b).f, (rdZ b).Reader.At, 0)
theorem fRead_ok (b : List UInt8) (h : b = litB) : fRead_vc b (fun q => q = readS b) := by
  rw [h]; clear h
  refine ⟨by decide +kernel, by unfold Rok; decide +kernel, ?_⟩
  rintro _ rfl _
  refine ⟨by unfold Rok; decide +kernel, ?_⟩
  rintro _ rfl _
  refine ⟨by decide +kernel, by decide +kernel, by decide +kernel, fun _ => ⟨by decide +kernel, ?_⟩⟩
  intro q hq
  have hq2 : q = 2 := by
    have e : fsizes[((rnumberS (rnamesS ⟨⟨litB, 0, 0, ⟨0, 0⟩⟩, f0⟩) 4).1).toNat]? = some 2 := by decide +kernel
    exact (Option.some.inj (e.symm.trans hq)).symm
  subst hq2
  refine ⟨by unfold Rok; decide +kernel, ?_⟩
  rintro _ rfl _ _
  refine ⟨by decide +kernel, by decide +kernel, by unfold fheadpre; decide +kernel, by unfold Rok; decide +kernel, ?_⟩
  rintro _ rfl _
  refine ⟨by decide +kernel, by decide +kernel, ?_⟩
  rintro _ rfl _
  exact ⟨fun _ => ⟨by decide +kernel, by decide +kernel, by decide +kernel, by decide +kernel, by decide +kernel, by decide +kernel, (by show (_ : Frame × Int × Int) = readS litB; delta readS rdZ rdY rdX f0; exact Eq.refl _)⟩, fun h => absurd h (by decide +kernel)⟩

end Go.Proofs.YtmbdcehmeiiaoaaGreatDoor
