/- What must hold so that each function ends well: pure predicates, made by program. -/
import Derived.Test.YtmbdcehmeiiaoaaGreatDoorPRb
import Derived.Test.YtmbdcehmeiiaoaaGreatDoorPE
set_option linter.unusedVariables false
set_option linter.unusedSimpArgs false
namespace Go.Proofs.YtmbdcehmeiiaoaaGreatDoor
open Go.Sy Go.RowKit
def rlong_vc (u0 : Bool) (u1 : Bool) (u2 : Int) (K : Int → Prop) : Prop :=
  ((0 ≤ u2 ∧ u2 ≤ u2 ∧ u2 * 1 ≤ 140737488355328) ∧
    ((fcheckfr (⟨0, u0, u1, false, 0, (List.replicate u2.toNat (0 : Int))⟩ : Frame) = 0 ∧ ∀ x ∈ (⟨0, u0, u1, false, 0, (List.replicate u2.toNat (0 : Int))⟩ : Frame).Data, 0 ≤ x ∧ x ≤ 255) ∧
    (((!u1) = true →
      (K (w64 ((rlmost (w64 (((fheadS (⟨0, u0, u1, false, 0, (List.replicate u2.toNat (0 : Int))⟩ : Frame)).length : Int) + 15))) + 10)))) ∧
    ((!u1) = false →
      (((decide (u2 > 16)) = true →
        (K (w64 ((w64 ((w64 ((rlmost ((fheadS (⟨0, u0, u1, false, 0, (List.replicate u2.toNat (0 : Int))⟩ : Frame)).length : Int)) + 25)) + 7)) + 10)))) ∧
      ((decide (u2 > 16)) = false →
        (K (w64 ((w64 ((w64 ((rlmost ((fheadS (⟨0, u0, u1, false, 0, (List.replicate u2.toNat (0 : Int))⟩ : Frame)).length : Int)) + 21)) + 6)) + 10)))))))))

/-! Pure proofs: no program in sight. -/
theorem smost_pos (n : Int) (h : 1 ≤ n ∧ n ≤ 1000) : (smost n).1 = rlmost n := by
  unfold smost rlmost
  have e1 : ((decide (n < 0)) || (decide (n > 1000))) = false := by
    rw [decide_eq_false (by omega), decide_eq_false (by omega)]
    rfl
  have e2 : (n == 0) = false := by rw [beq_eq_false_iff_ne]; omega
  rw [e1, e2]
  rfl
theorem rlmost_bound (n : Int) (h : 1 ≤ n ∧ n ≤ 1000) : 1 ≤ rlmost n ∧ rlmost n ≤ 1250 := by
  unfold rlmost
  rw [w64_eq (n - 1) (by omega), Int.tdiv_eq_ediv_of_nonneg (by omega), w64_eq ((n - 1) / 4) (by omega), w64_eq _ (by omega)]
  omega
def rlongS (lo fa : Bool) (n : Int) : Int := (flongestS lo fa n).1
theorem rlong_ok (lo fa : Bool) (n : Int) (h : 0 ≤ n ∧ n ≤ 64 ∧ fcheckfr (lframe lo fa n) = 0) : rlong_vc lo fa n (fun r => r = rlongS lo fa n) := by
  obtain ⟨n0, n1, hc⟩ := h
  have hz : ∀ x ∈ (lframe lo fa n).Data, 0 ≤ x ∧ x ≤ 255 := fun x hx => by
    have : x = 0 := List.eq_of_mem_replicate hx
    omega
  have hl := fheadS_len (lframe lo fa n)
  obtain ⟨c1, c2, c3, c4, c5, c6, c7, c8, c9, c10⟩ := fcheckfr_zero hc
  have hh : 1 ≤ (fheadS (lframe lo fa n)).length ∧ (fheadS (lframe lo fa n)).length ≤ 900 := by
    rw [hl]
    have : (lframe lo fa n).Data.length ≤ 64 := c8
    constructor
    · omega
    · split <;> split <;> (try split) <;> omega
  have hd : (lframe lo fa n).Data.length = n.toNat := List.length_replicate
  have hS : rlongS lo fa n = if fa = false then w64 ((smost (w64 (((fheadS (lframe lo fa n)).length : Int) + 15))).1 + 10)
      else w64 (w64 ((smost ((fheadS (lframe lo fa n)).length : Int)).1 + w64 (w64 (4 + (csize (fkind (lframe lo fa n))).1) + w64 ((w64 (w64 (4 + (csize (fkind (lframe lo fa n))).1) + 3)).tdiv 4))) + 10) := by
    unfold rlongS flongestS
    rw [if_neg (by omega), if_neg (fun h => h hc)]
    split <;> rfl
  rw [hS]
  have eL : (⟨0, lo, fa, false, 0, List.replicate n.toNat (0 : Int)⟩ : Frame) = lframe lo fa n := rfl
  unfold rlong_vc
  rw [eL]
  have hk : fkind (lframe lo fa n) = bif !fa then 0 else bif decide (((lframe lo fa n).Data.length : Int) ≤ 16) then 1 else 2 := rfl
  rw [hd] at hk
  generalize fheadS (lframe lo fa n) = H at *
  have hb := rlmost_bound (H.length : Int) (by omega)
  refine ⟨by omega, ⟨hc, hz⟩, fun hF => ?_, fun hF => ⟨fun h16 => ?_, fun h16 => ?_⟩⟩
  · have hF : fa = false := by simpa using hF
    rw [if_pos hF, w64_eq ((H.length : Int) + 15) (by omega), smost_pos _ (by omega)]
  all_goals
    have hF : fa = true := by simpa using hF
    rw [if_neg (by rw [hF]; simp), smost_pos _ (by omega)]
    subst hF
  · have h16 := of_decide_eq_true h16
    have e : fkind (lframe lo true n) = 2 := by rw [hk, decide_eq_false (by omega)]; rfl
    have e2 : (csize 2).1 = 21 := rfl
    have e3 : w64 (w64 (4 + 21) + w64 ((w64 (w64 (4 + 21) + 3)).tdiv 4)) = 32 := rfl
    rw [e, e2, e3, w64_eq (rlmost (H.length : Int) + 25) (by omega), w64_eq (rlmost (H.length : Int) + 25 + 7) (by omega), w64_eq (rlmost (H.length : Int) + 32) (by omega)]
    congr 1
    omega
  · have h16 := of_decide_eq_false h16
    have e : fkind (lframe lo true n) = 1 := by rw [hk, decide_eq_true (by omega)]; rfl
    have e2 : (csize 1).1 = 17 := rfl
    have e3 : w64 (w64 (4 + 17) + w64 ((w64 (w64 (4 + 17) + 3)).tdiv 4)) = 27 := rfl
    rw [e, e2, e3, w64_eq (rlmost (H.length : Int) + 21) (by omega), w64_eq (rlmost (H.length : Int) + 21 + 6) (by omega), w64_eq (rlmost (H.length : Int) + 27) (by omega)]
    congr 1
    omega

end Go.Proofs.YtmbdcehmeiiaoaaGreatDoor
