/- Pure proofs: no program in sight. -/
import Derived.Test.YtginlmgkimfjmaaVD
set_option linter.unusedVariables false
set_option linter.unusedSimpArgs false
namespace Go.Proofs.Ytginlmgkimfjmaa
open Go.Sy Go.RowKit
def gseeS (g : Guard) (d : List Int) (most : Int) : Guard × Int :=
  if gcheck g ≠ 0 then (⟨0, 0, 0, 0⟩, gcheck g) else if most < 1 ∨ 15 ≤ most then (⟨0, 0, 0, 0⟩, 3) else if d.length < 2 then (⟨0, 0, 0, 0⟩, 7) else if 64 < d.length then (⟨0, 0, 0, 0⟩, 2)
  else if 15 ≤ bAnd .u8 (d.getD 1 0) 15 ∨ d.getD 0 0 ≠ gsumS g.Key d then ((gbadS g).1, 0)
  else if g.Last < 0 ∨ (bAnd .u8 (d.getD 1 0) 15 - g.Last + 15) % 15 = 1 then (⟨g.Key, bAnd .u8 (d.getD 1 0) 15, 0, 1⟩, 0)
  else if (bAnd .u8 (d.getD 1 0) 15 - g.Last + 15) % 15 = 0 then (⟨g.Key, bAnd .u8 (d.getD 1 0) 15, g.Bad, 3⟩, 0)
  else if (bAnd .u8 (d.getD 1 0) 15 - g.Last + 15) % 15 ≤ most then (⟨g.Key, bAnd .u8 (d.getD 1 0) 15, 0, 2⟩, 0)
  else ((gbadS ⟨g.Key, bAnd .u8 (d.getD 1 0) 15, g.Bad, g.State⟩).1, 0)
theorem and15 : ∀ x : Fin 256, 0 ≤ bAnd .u8 ((x.val : Nat) : Int) 15 ∧ bAnd .u8 ((x.val : Nat) : Int) 15 ≤ 15 := by decide +kernel
theorem gcheck_zero (g : Guard) (h : gcheck g = 0) : 0 ≤ g.Key ∧ g.Key ≤ 65535 ∧ -1 ≤ g.Last ∧ g.Last < 15 ∧ 0 ≤ g.Bad ∧ 0 ≤ g.State ∧ g.State ≤ 4 := by
  unfold gcheck at h
  cases h1 : ((((((decide (g.Key < 0)) || (decide (g.Key > 65535))) || (decide (g.Last < (-1)))) || (decide (g.Last ≥ 15))) || (decide (g.Bad < 0))) || (decide (g.State < 0))) || (decide (g.State > 4)) with
  | true => rw [h1] at h; cases h
  | false =>
    simp only [Bool.or_eq_false_iff, decide_eq_false_iff_not] at h1
    omega
theorem gsee_ok (g : Guard) (d : List Int) (most : Int) (h : ∀ x ∈ d, 0 ≤ x ∧ x ≤ 255) : gsee_vc g d most (fun r => r = gseeS g d most) := by
  intro hl
  refine ⟨fun h0 => ?_, fun h0 => ⟨fun h1 => ?_, fun h1 => ⟨fun h2 => ?_, fun h2 => ⟨fun h3 => ?_, fun h3 => ?_⟩⟩⟩⟩
  · unfold gseeS
    rw [if_pos (by simpa using h0)]
  all_goals
    have h0 : gcheck g = 0 := by simpa using h0
  · unfold gseeS
    rw [if_neg (fun hc => hc h0), if_pos (by simpa using h1)]
  all_goals
    have h1 : ¬ (most < 1 ∨ 15 ≤ most) := by
      simp only [Bool.or_eq_false_iff, decide_eq_false_iff_not] at h1
      omega
  · unfold gseeS
    rw [if_neg (fun hc => hc h0), if_neg h1, if_pos (by simp at h2; omega)]
  · unfold gseeS
    rw [if_neg (fun hc => hc h0), if_neg h1, if_neg (by simp at h2; omega), if_pos (by simp at h3; omega)]
  · have hl2 : 2 ≤ d.length ∧ d.length ≤ 64 := by simp at h2 h3; omega
    obtain ⟨g1, g2, g3, g4, g5, g6, g7⟩ := gcheck_zero g h0
    unfold gseeS
    rw [if_neg (fun hc => hc h0), if_neg h1, if_neg (by omega), if_neg (by omega)]
    refine ⟨by omega, fun q hq => ?_⟩
    have hq : d[1]? = some q := hq
    have e1 : d.getD 1 0 = q := by rw [List.getD_eq_getElem?_getD, hq]; rfl
    rw [e1]
    have hqb := h q (List.mem_of_getElem? hq)
    have ha : 0 ≤ bAnd .u8 q 15 ∧ bAnd .u8 q 15 ≤ 15 := by
      have := and15 ⟨q.toNat, by omega⟩
      rwa [show ((q.toNat : Nat) : Int) = q by omega] at this
    rw [w64_eq (bAnd .u8 q 15) (by omega)]
    generalize bAnd .u8 q 15 = n at ha ⊢
    refine ⟨fun h4 => ?_, fun h4 => ⟨by omega, fun p hp => ⟨⟨h, by omega, by omega⟩, fun h5 => ?_, fun h5 => ?_⟩⟩⟩
    · rw [if_pos (.inl (by simpa using h4))]
      rfl
    all_goals
      have hp : d[0]? = some p := hp
      have e0 : d.getD 0 0 = p := by rw [List.getD_eq_getElem?_getD, hp]; rfl
      rw [e0]
    · rw [if_pos (.inr (by simpa using h5))]
      rfl
    · have h4 : ¬ 15 ≤ n := by simpa using h4
      have h5 : p = gsumS g.Key d := by simpa using h5
      rw [if_neg (by rintro (hc | hc); exact h4 hc; exact hc h5)]
      have e : (w64 (w64 (n - g.Last) + 15)).tmod 15 = (n - g.Last + 15) % 15 := by
        rw [w64_eq (n - g.Last) (by omega), w64_eq _ (by omega), Int.tmod_eq_emod_of_nonneg (by omega)]
      rw [e]
      generalize hs : (n - g.Last + 15) % 15 = s
      refine ⟨fun h6 => ?_, fun h6 => ⟨fun h7 => ?_, fun h7 => ⟨fun h8 => ?_, fun h8 => ?_⟩⟩⟩
      · rw [if_pos (by simpa using h6)]
      all_goals
        have h6 : ¬ (g.Last < 0 ∨ s = 1) := by
          simp only [Bool.or_eq_false_iff, decide_eq_false_iff_not, beq_eq_false_iff_ne] at h6
          omega
        rw [if_neg h6]
      · rw [if_pos (by simpa using h7)]
      · rw [if_neg (by simpa using h7), if_pos (by simpa using h8)]
      · rw [if_neg (by simpa using h7), if_neg (by simpa using h8)]
        rfl

end Go.Proofs.Ytginlmgkimfjmaa
