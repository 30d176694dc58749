/- What must hold so that each function ends well: pure predicates, made by program. -/
import Derived.Test.YtfafpnacflcgmaaDoorPRa
set_option linter.unusedVariables false
set_option linter.unusedSimpArgs false
namespace Go.Proofs.YtfafpnacflcgmaaDoor
open Go.Sy Go.RowKit
def LBytes_vc (u0 : List Int) (u1 : List UInt8) (K : Bool → Prop) : Prop :=
  (u0.length ≤ 140737488355328 →
    ((∀ x ∈ u0, 0 ≤ x ∧ x ≤ 255) ∧
    (((bbytesS u1).1).length ≤ 140737488355328 →
    (((decide ((u0.length : Int) > 125)) = true →
      ((((((bofS u0).2) != 2) || (((bofS u0).1) != ([] : List UInt8))) = true →
        (K false)) ∧
      (((((bofS u0).2) != 2) || (((bofS u0).1) != ([] : List UInt8))) = false →
        (((((bcheckS u1) == 0) && (((u1.length : Int).tmod 8) != 0)) = true →
          (K ((((bbytesS u1).2) == 4) && ((((bbytesS u1).1).length : Int) == 0)))) ∧
        ((((bcheckS u1) == 0) && (((u1.length : Int).tmod 8) != 0)) = false →
          ((((bcheckS u1) != 0) = true →
            (K ((((bbytesS u1).2) == (bcheckS u1)) && ((((bbytesS u1).1).length : Int) == 0)))) ∧
          (((bcheckS u1) != 0) = false →
            (((((bbytesS u1).2) == 0) = true →
              (((∀ x ∈ ((bbytesS u1).1), 0 ≤ x ∧ x ≤ 255) ∧ ((bbytesS u1).1).length ≤ 1000) ∧
              (K ((ofb ((bbytesS u1).1)) == u1)))) ∧
            ((((bbytesS u1).2) == 0) = false →
              (K false)))))))))) ∧
    ((decide ((u0.length : Int) > 125)) = false →
      (((((bofS u0).2) != 0) = true →
        (K false)) ∧
      ((((bofS u0).2) != 0) = false →
        (((∀ x ∈ u0, 0 ≤ x ∧ x ≤ 255) ∧ u0.length ≤ 1000) ∧
        (((((bofS u0).1) != (ofb u0)) = true →
          (K false)) ∧
        ((((bofS u0).1) != (ofb u0)) = false →
          (((((bcheckS u1) == 0) && (((u1.length : Int).tmod 8) != 0)) = true →
            (K ((((bbytesS u1).2) == 4) && ((((bbytesS u1).1).length : Int) == 0)))) ∧
          ((((bcheckS u1) == 0) && (((u1.length : Int).tmod 8) != 0)) = false →
            ((((bcheckS u1) != 0) = true →
              (K ((((bbytesS u1).2) == (bcheckS u1)) && ((((bbytesS u1).1).length : Int) == 0)))) ∧
            (((bcheckS u1) != 0) = false →
              (((((bbytesS u1).2) == 0) = true →
                (((∀ x ∈ ((bbytesS u1).1), 0 ≤ x ∧ x ≤ 255) ∧ ((bbytesS u1).1).length ≤ 1000) ∧
                (K ((ofb ((bbytesS u1).1)) == u1)))) ∧
              ((((bbytesS u1).2) == 0) = false →
                (K false)))))))))))))))))

/-! Pure proofs: no program in sight. -/
theorem bytes_mod (b : List UInt8) : (((b.length : Int).tmod 8) != 0) = decide (b.length % 8 ≠ 0) := by
  rw [Int.tmod_eq_emod_of_nonneg (by omega), Bool.eq_iff_iff]
  simp
  omega
/-- What is asked of the row that is read as bytes. -/
theorem bytes_part (b : List UInt8) :
    (((((bcheckS b) == 0) && (((b.length : Int).tmod 8) != 0)) = true →
      ((((bbytesS b).2) == 4) && ((((bbytesS b).1).length : Int) == 0)) = true) ∧
    ((((bcheckS b) == 0) && (((b.length : Int).tmod 8) != 0)) = false →
      ((((bcheckS b) != 0) = true →
        ((((bbytesS b).2) == (bcheckS b)) && ((((bbytesS b).1).length : Int) == 0)) = true) ∧
      (((bcheckS b) != 0) = false →
        (((((bbytesS b).2) == 0) = true →
          (((∀ x ∈ ((bbytesS b).1), 0 ≤ x ∧ x ≤ 255) ∧ ((bbytesS b).1).length ≤ 1000) ∧
          ((ofb ((bbytesS b).1)) == b) = true)) ∧
        ((((bbytesS b).2) == 0) = false → false = true)))))) := by
  rw [bytes_mod]
  by_cases h : bcheckS b = 0
  · obtain ⟨hl, hr⟩ := (bcheck_zero b).1 h
    by_cases h8 : b.length % 8 = 0
    · have hS : bbytesS b = (byb (b.length / 8) b, 0) := by unfold bbytesS; rw [if_neg (by rw [h]; simp), if_neg (by omega)]
      rw [hS, h]
      refine ⟨fun h1 => by (simp [h8] at h1), fun _ => ⟨fun h1 => by (simp at h1), fun _ => ⟨fun _ => ⟨⟨byb_range _ _ hr, ?_⟩, ?_⟩, fun h1 => by (simp at h1)⟩⟩⟩
      · show (byb _ b).length ≤ 1000
        rw [byb_len]; omega
      · show (ofb (byb _ b) == b) = true
        rw [ofb_byb _ b hr (by omega)]
        simp
    · have hS : bbytesS b = ([], 4) := by unfold bbytesS; rw [if_neg (by rw [h]; simp), if_pos h8]
      rw [hS, h]
      exact ⟨fun _ => rfl, fun h1 => by simp [h8] at h1⟩
  · have hS : bbytesS b = ([], bcheckS b) := by unfold bbytesS; rw [if_pos h]
    rw [hS]
    refine ⟨fun h1 => by simp [h] at h1, fun _ => ⟨fun _ => by simp, fun h1 => by simp [h] at h1⟩⟩
theorem LBytes_ok (l : List Int) (b : List UInt8) (kk : (∀ y0 ∈ l, IntKind.u8.min ≤ y0 ∧ y0 ≤ IntKind.u8.max) ∧ l.length * 1 ≤ lim) (k1 : b.length ≤ lim) : LBytes_vc l b (fun r => r = true) := by
  have k0 : ∀ x ∈ l, 0 ≤ x ∧ x ≤ 255 := fun x hx => kk.1 x hx
  have hp := bytes_part b
  intro _
  refine ⟨k0, fun _ => ⟨fun h => ?_, fun h => ?_⟩⟩
  · have h : 125 < l.length := by have := of_decide_eq_true h; omega
    have hS : bofS l = ([], 2) := by unfold bofS; rw [if_pos h]
    rw [hS]
    exact ⟨fun h1 => by simp at h1, fun _ => hp⟩
  · have h : ¬ 125 < l.length := by have := of_decide_eq_false h; omega
    have hS : bofS l = (ofb l, 0) := by unfold bofS; rw [if_neg h]
    rw [hS]
    exact ⟨fun h1 => by simp at h1, fun _ => ⟨⟨k0, by omega⟩, fun h1 => by simp at h1, fun _ => hp⟩⟩

end Go.Proofs.YtfafpnacflcgmaaDoor
