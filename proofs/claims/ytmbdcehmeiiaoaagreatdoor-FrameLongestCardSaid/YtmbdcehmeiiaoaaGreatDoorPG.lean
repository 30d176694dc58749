/- What must hold so that each function ends well: pure predicates, made by program. -/
import Derived.Test.YtmbdcehmeiiaoaaGreatDoorPF
set_option linter.unusedVariables false
set_option linter.unusedSimpArgs false
namespace Go.Proofs.YtmbdcehmeiiaoaaGreatDoor
open Go.Sy Go.RowKit
def framed_vc  (K : Bool → Prop) : Prop :=
  ((∀ x ∈ (⟨5, false, false, false, 0, ([1, 255] : List Int)⟩ : Frame).Data, 0 ≤ x ∧ x ≤ 255) ∧
    (((((BitsS (⟨5, false, false, false, 0, ([1, 255] : List Int)⟩ : Frame)).1).length : Int) + (([49] : List UInt8).length : Int) ≤ 9223372036854775807) ∧
    (((((BitsS (⟨5, false, false, false, 0, ([1, 255] : List Int)⟩ : Frame)).1) ++ ([49] : List UInt8)) = litB) ∧
    ((((readS (((BitsS (⟨5, false, false, false, 0, ([1, 255] : List Int)⟩ : Frame)).1) ++ ([49] : List UInt8))).1).Data).length ≤ 140737488355328 →
    (K (((((((BitsS (⟨5, false, false, false, 0, ([1, 255] : List Int)⟩ : Frame)).2) == 0) && (((readS (((BitsS (⟨5, false, false, false, 0, ([1, 255] : List Int)⟩ : Frame)).1) ++ ([49] : List UInt8))).2.2) == 0)) && (((readS (((BitsS (⟨5, false, false, false, 0, ([1, 255] : List Int)⟩ : Frame)).1) ++ ([49] : List UInt8))).2.1) == (((BitsS (⟨5, false, false, false, 0, ([1, 255] : List Int)⟩ : Frame)).1).length : Int))) && (sameS (⟨5, false, false, false, 0, ([1, 255] : List Int)⟩ : Frame) ((readS (((BitsS (⟨5, false, false, false, 0, ([1, 255] : List Int)⟩ : Frame)).1) ++ ([49] : List UInt8))).1))) && (hasprefix ((BitsS (⟨5, false, false, false, 0, ([1, 255] : List Int)⟩ : Frame)).1) ([48, 48, 48, 48, 48, 49, 48, 48, 48, 48, 49, 48, 49] : List UInt8))))))))

/-! Pure proofs: no program in sight. -/
theorem framed_ok : framed_vc (fun r => r = true) := by
  refine ⟨by decide, ?_, rfl, fun _ => by decide +kernel⟩
  have h : (BitsS (⟨5, false, false, false, 0, ([1, 255] : List Int)⟩ : Frame)).1.length ≤ 1000 := by decide +kernel
  show ((_ : Nat) : Int) + 1 ≤ _
  omega

end Go.Proofs.YtmbdcehmeiiaoaaGreatDoor
