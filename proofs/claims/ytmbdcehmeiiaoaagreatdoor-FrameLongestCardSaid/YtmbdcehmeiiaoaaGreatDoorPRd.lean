/- What must hold so that each function ends well: pure predicates, made by program. -/
import Derived.Test.YtmbdcehmeiiaoaaGreatDoorPRc
import Derived.Test.YtmbdcehmeiiaoaaGreatDoorPHg
set_option linter.unusedVariables false
set_option linter.unusedSimpArgs false
namespace Go.Proofs.YtmbdcehmeiiaoaaGreatDoor
open Go.Sy Go.RowKit
def LLongest_vc (u0 : Bool) (u1 : Bool) (u2 : Int) (K : Bool → Prop) : Prop :=
  ((((decide (u2 < 0)) || (decide (u2 > 64))) = true →
      (K ((((flongestS u0 u1 u2).2) == 2) && (((flongestS u0 u1 u2).1) == 0)))) ∧
    (((decide (u2 < 0)) || (decide (u2 > 64))) = false →
      ((0 ≤ u2 ∧ u2 ≤ u2 ∧ u2 * 1 ≤ 140737488355328) ∧
      ((((fcheckfr (⟨0, u0, u1, false, 0, (List.replicate u2.toNat (0 : Int))⟩ : Frame)) != 0) = true →
        (K ((((flongestS u0 u1 u2).2) == (fcheckfr (⟨0, u0, u1, false, 0, (List.replicate u2.toNat (0 : Int))⟩ : Frame))) && (((flongestS u0 u1 u2).1) == 0)))) ∧
      (((fcheckfr (⟨0, u0, u1, false, 0, (List.replicate u2.toNat (0 : Int))⟩ : Frame)) != 0) = false →
        (((((flongestS u0 u1 u2).2) == 0) = true →
          ((0 ≤ u2 ∧ u2 ≤ 64 ∧ fcheckfr (lframe u0 u1 u2) = 0) ∧
          (K (((flongestS u0 u1 u2).1) == (rlongS u0 u1 u2))))) ∧
        ((((flongestS u0 u1 u2).2) == 0) = false →
          (K false))))))))

/-! Pure proofs: no program in sight. -/
theorem LLongest_ok (lo fa : Bool) (n : Int) (k0 : True) (k1 : True) (k2 : IntKind.i64.min ≤ n ∧ n ≤ IntKind.i64.max) : LLongest_vc lo fa n (fun r => r = true) := by
  refine ⟨fun h => ?_, fun h => ?_⟩
  · have h : n < 0 ∨ 64 < n := by simpa only [Bool.or_eq_true, decide_eq_true_eq] using h
    unfold flongestS
    rw [if_pos h]
    rfl
  · have h : ¬ (n < 0 ∨ 64 < n) := by
      simp only [Bool.or_eq_false_iff, decide_eq_false_iff_not] at h
      omega
    refine ⟨by omega, fun h1 => ?_, fun h1 => ?_⟩
    · have h1 : fcheckfr (lframe lo fa n) ≠ 0 := by simpa using h1
      unfold flongestS
      rw [if_neg h, if_pos h1]
      show ((fcheckfr (lframe lo fa n) == fcheckfr (lframe lo fa n)) && ((0 : Int) == 0)) = true
      simp
    · have h1 : fcheckfr (lframe lo fa n) = 0 := by simpa using h1
      refine ⟨fun _ => ⟨⟨by omega, by omega, h1⟩, ?_⟩, fun h2 => ?_⟩
      · show ((flongestS lo fa n).1 == rlongS lo fa n) = true
        unfold rlongS
        simp
      · exfalso
        have : (flongestS lo fa n).2 = 0 := by
          unfold flongestS
          rw [if_neg h, if_neg (fun hh => hh h1)]
          split <;> rfl
        rw [this] at h2
        cases h2

end Go.Proofs.YtmbdcehmeiiaoaaGreatDoor
