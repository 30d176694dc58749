/- What must hold so that each function ends well: pure predicates, made by program. -/
import Derived.Test.YtinegicenfndkaaDoorPBj
set_option linter.unusedVariables false
set_option linter.unusedSimpArgs false
namespace Go.Proofs.YtinegicenfndkaaDoor
open Go.Sy Go.RowKit
def LSum_vc (u0 : Int) (u1 : List UInt8) (K : Bool → Prop) : Prop :=
  ((((((decide (u0 < 0)) || (decide (u0 > 4))) != (((csize u0).2) == 8)) || (((decide (u0 < 0)) || (decide (u0 > 4))) && (((csize u0).1) != 0))) = true →
      (K false)) ∧
    (((((decide (u0 < 0)) || (decide (u0 > 4))) != (((csize u0).2) == 8)) || (((decide (u0 < 0)) || (decide (u0 > 4))) && (((csize u0).1) != 0))) = false →
      (((((bcheckS u1) == 0) && ((decide (u0 < 0)) || (decide (u0 > 4)))) = true →
        (K ((((((csumS u0 u1).2) == 8) && (((choldsS u0 u1).2) == 8)) && (((csumS u0 u1).1) == ([] : List UInt8))) && (!((choldsS u0 u1).1))))) ∧
      ((((bcheckS u1) == 0) && ((decide (u0 < 0)) || (decide (u0 > 4)))) = false →
        ((((bcheckS u1) != 0) = true →
          (K ((((((csumS u0 u1).2) == (bcheckS u1)) && (((choldsS u0 u1).2) == (bcheckS u1))) && (((csumS u0 u1).1) == ([] : List UInt8))) && (!((choldsS u0 u1).1))))) ∧
        (((bcheckS u1) != 0) = false →
          (((((csize u0).2) != 0) = true →
            (K false)) ∧
          ((((csize u0).2) != 0) = false →
            ((0 ≤ u0 ∧ u0 < (([15, 17, 21, 8, 16] : List Int).length : Int)) ∧
            (∀ q311, ([15, 17, 21, 8, 16] : List Int)[u0.toNat]? = some q311 →
            ((((((csize u0).1) != q311) || (((csumS u0 u1).2) != 0)) = true →
              (K false)) ∧
            (((((csize u0).1) != q311) || (((csumS u0 u1).2) != 0)) = false →
              (((0 ≤ u0 ∧ u0 < 5) ∧ isRow u1 = true ∧ u1.length ≤ 1000) ∧
              (((((csumS u0 u1).1) != (sumR u0 u1)) = true →
                (K false)) ∧
              ((((csumS u0 u1).1) != (sumR u0 u1)) = false →
                (((decide ((u1.length : Int) < ((csize u0).1))) = true →
                  (K ((((choldsS u0 u1).2) == 7) && (!((choldsS u0 u1).1))))) ∧
                ((decide ((u1.length : Int) < ((csize u0).1))) = false →
                  (((((choldsS u0 u1).2) == 0) = true →
                    ((0 ≤ w64 ((u1.length : Int) - ((csize u0).1)) ∧ w64 ((u1.length : Int) - ((csize u0).1)) ≤ (u1.length : Int)) ∧
                    (((0 ≤ u0 ∧ u0 < 5) ∧ isRow (u1.take (w64 ((u1.length : Int) - ((csize u0).1))).toNat) = true ∧ (u1.take (w64 ((u1.length : Int) - ((csize u0).1))).toNat).length ≤ 1000) ∧
                    ((0 ≤ w64 ((u1.length : Int) - ((csize u0).1)) ∧ w64 ((u1.length : Int) - ((csize u0).1)) ≤ (u1.length : Int)) ∧
                    (K (((choldsS u0 u1).1) == ((sumR u0 (u1.take (w64 ((u1.length : Int) - ((csize u0).1))).toNat)) == (u1.drop (w64 ((u1.length : Int) - ((csize u0).1))).toNat)))))))) ∧
                  ((((choldsS u0 u1).2) == 0) = false →
                    (K false))))))))))))))))))))

/-! Pure proofs: no program in sight. -/
theorem csize_eq (i : Int) : csize i = if isKind i = true then ((kindS i).Size, 0) else (0, 8) := by
  cases hk : isKind i with
  | true =>
    have := isKind_iff.1 hk
    rcases kind_cases this with rfl | rfl | rfl | rfl | rfl <;> rfl
  | false =>
    unfold csize
    rw [bad_kind, hk]
    rfl
theorem LSum_ok (i : Int) (b : List UInt8) (k0 : IntKind.i64.min ≤ i ∧ i ≤ IntKind.i64.max) (k1 : b.length ≤ lim) : LSum_vc i b (fun r => r = true) := by
  unfold LSum_vc
  have hwho : ((decide (i < 0)) || (decide (i > 4))) = !isKind i := by
    unfold isKind
    by_cases h : i < 0 <;> by_cases h2 : i > 4 <;> simp [h, h2] <;> omega
  rw [hwho, csize_eq]
  by_cases hb : bcheckS b = 0
  · obtain ⟨hl, hr⟩ := (bcheck_zero b).1 hb
    cases hk : isKind i with
    | false =>
      have hc : csumS i b = ([], 8) := by unfold csumS; rw [if_neg (by rw [hb]; simp), if_neg (by rw [hk]; simp)]
      have hh : choldsS i b = (false, 8) := by unfold choldsS; rw [if_neg (by rw [hb]; simp), if_neg (by rw [hk]; simp)]
      rw [hc, hh, hb]
      exact ⟨fun h => by simp at h, fun _ => ⟨fun _ => rfl, fun h => by simp at h⟩⟩
    | true =>
      have hkk := isKind_iff.1 hk
      have hsz := kind_size hkk
      have hc : csumS i b = (sumR i b, 0) := by unfold csumS; rw [if_neg (by rw [hb]; simp), if_pos hk]
      have hh : choldsS i b = if b.length < sizeN i then (false, 7) else (sumR i (b.take (b.length - sizeN i)) == b.drop (b.length - sizeN i), 0) := by unfold choldsS; rw [if_neg (by rw [hb]; simp), if_pos hk]
      rw [hc, hh, hb, if_pos rfl]
      dsimp only
      refine ⟨fun h => by simp at h, fun _ => ⟨fun h => by simp at h, fun _ => ⟨fun h => by simp at h, fun _ => ⟨fun h => by simp at h, fun _ => ⟨⟨hkk.1, hkk.2⟩, fun q hq => ?_⟩⟩⟩⟩⟩
      obtain rfl := kl1 hkk hq
      refine ⟨fun h => by simp at h, fun _ => ⟨⟨hkk, hr, hl⟩, fun h => by simp at h, fun _ => ⟨fun h2 => ?_, fun h2 => ?_⟩⟩⟩
      · have h2 := of_decide_eq_true h2
        rw [if_pos (by unfold sizeN; omega)]
        rfl
      · have h2 := of_decide_eq_false h2
        have hn : ¬ b.length < sizeN i := by unfold sizeN; omega
        rw [if_neg hn]
        refine ⟨fun _ => ?_, fun h => by simp at h⟩
        have e : w64 ((b.length : Int) - (kindS i).Size) = ((b.length - sizeN i : Nat) : Int) := by
          rw [w64_eq _ (by omega)]
          unfold sizeN at *
          omega
        rw [e, Int.toNat_natCast]
        refine ⟨by omega, ⟨hkk, isRow_take hr _, by rw [List.length_take]; omega⟩, by omega, ?_⟩
        simp
  · have hc : csumS i b = ([], bcheckS b) := by unfold csumS; rw [if_pos hb]
    have hh : choldsS i b = (false, bcheckS b) := by unfold choldsS; rw [if_pos hb]
    rw [hc, hh]
    refine ⟨fun h => ?_, fun _ => ⟨fun h => ?_, fun _ => ⟨fun _ => ?_, fun h => ?_⟩⟩⟩
    · exfalso
      cases hk : isKind i <;> rw [hk] at h <;> simp at h
    · exfalso
      rw [Bool.and_eq_true, beq_iff_eq] at h
      exact hb h.1
    · simp
    · exact absurd (by simpa using h) hb

end Go.Proofs.YtinegicenfndkaaDoor
