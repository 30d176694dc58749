/- What must hold so that each function ends well: pure predicates, made by program. -/
import Derived.Test.YtginlmgkimfjmaaPDd
set_option linter.unusedVariables false
set_option linter.unusedSimpArgs false
namespace Go.Proofs.Ytginlmgkimfjmaa
open Go.Sy Go.RowKit
def flongest_vc (u0 : Bool) (u1 : Bool) (u2 : Int) (K : (Int × Int) → Prop) : Prop :=
  ((((decide (u2 < 0)) || (decide (u2 > 64))) = true →
      (K (0, 2))) ∧
    (((decide (u2 < 0)) || (decide (u2 > 64))) = false →
      ((0 ≤ u2 ∧ u2 ≤ u2 ∧ u2 * 1 ≤ 140737488355328) ∧
      ((((fcheckfr (⟨0, u0, u1, false, 0, (List.replicate u2.toNat (0 : Int))⟩ : Frame)) != 0) = true →
        (K (0, (fcheckfr (⟨0, u0, u1, false, 0, (List.replicate u2.toNat (0 : Int))⟩ : Frame))))) ∧
      (((fcheckfr (⟨0, u0, u1, false, 0, (List.replicate u2.toNat (0 : Int))⟩ : Frame)) != 0) = false →
        ((fheadpre (⟨0, u0, u1, false, 0, (List.replicate u2.toNat (0 : Int))⟩ : Frame)) ∧
        (((!u1) = true →
          (K (w64 (((smost (w64 (((fheadS (⟨0, u0, u1, false, 0, (List.replicate u2.toNat (0 : Int))⟩ : Frame)).length : Int) + 15))).1) + 10), 0))) ∧
        ((!u1) = false →
          (K (w64 ((w64 (((smost ((fheadS (⟨0, u0, u1, false, 0, (List.replicate u2.toNat (0 : Int))⟩ : Frame)).length : Int)).1) + (w64 ((w64 (4 + ((csize (fkind (⟨0, u0, u1, false, 0, (List.replicate u2.toNat (0 : Int))⟩ : Frame))).1))) + (w64 ((w64 ((w64 (4 + ((csize (fkind (⟨0, u0, u1, false, 0, (List.replicate u2.toNat (0 : Int))⟩ : Frame))).1))) + 3)).tdiv 4)))))) + 10), 0))))))))))

/-! Pure proofs: no program in sight. -/
abbrev lframe (lo fa : Bool) (n : Int) : Frame := ⟨0, lo, fa, false, 0, List.replicate n.toNat (0 : Int)⟩
def flongestS (lo fa : Bool) (n : Int) : Int × Int :=
  if n < 0 ∨ 64 < n then (0, 2) else if fcheckfr (lframe lo fa n) ≠ 0 then (0, fcheckfr (lframe lo fa n)) else
  if fa = false then (w64 ((smost (w64 (((fheadS (lframe lo fa n)).length : Int) + 15))).1 + 10), 0)
  else (w64 (w64 ((smost ((fheadS (lframe lo fa n)).length : Int)).1 + w64 (w64 (4 + (csize (fkind (lframe lo fa n))).1) + w64 ((w64 (w64 (4 + (csize (fkind (lframe lo fa n))).1) + 3)).tdiv 4))) + 10), 0)
theorem flongest_ok (lo fa : Bool) (n : Int) : flongest_vc lo fa n (fun r => r = flongestS lo fa n) := by
  refine ⟨fun h => ?_, fun h => ⟨?_, fun h1 => ?_, fun h1 => ⟨?_, fun h2 => ?_, fun h2 => ?_⟩⟩⟩
  · unfold flongestS
    rw [if_pos (by simpa using h)]
  · simp at h; omega
  all_goals
    have h : ¬ (n < 0 ∨ 64 < n) := by simp at h; omega
  · have h1 : fcheckfr (lframe lo fa n) ≠ 0 := by simpa using h1
    unfold flongestS
    rw [if_neg h, if_pos h1]
  · have h1 : fcheckfr (lframe lo fa n) = 0 := by simpa using h1
    obtain ⟨c1, c2, c3, c4, c5, c6, c7, c8, c9, c10⟩ := fcheckfr_zero h1
    refine ⟨c1, c2, c5, c6, c8, fun x hx => ?_, fun _ => c10⟩
    have : x = 0 := List.eq_of_mem_replicate hx
    omega
  · have h1' : fcheckfr (lframe lo fa n) = 0 := by simpa using h1
    have h1 : ¬ fcheckfr (lframe lo fa n) ≠ 0 := fun h => h h1'
    unfold flongestS
    rw [if_neg h, if_neg h1, if_pos (by simpa using h2)]
  · have h1' : fcheckfr (lframe lo fa n) = 0 := by simpa using h1
    have h1 : ¬ fcheckfr (lframe lo fa n) ≠ 0 := fun h => h h1'
    unfold flongestS
    rw [if_neg h, if_neg h1, if_neg (by simpa using h2)]

end Go.Proofs.Ytginlmgkimfjmaa
