/- Pure proofs: no program in sight. -/
import Derived.Test.YtfafpnacflcgmaaDoorVC
set_option linter.unusedVariables false
set_option linter.unusedSimpArgs false
namespace Go.Proofs.YtfafpnacflcgmaaDoor
open Go.Sy Go.RowKit
theorem Rok_start (b : List UInt8) (hl : b.length ≤ 1000000) (hr : isRow b = true) : Rok ⟨b, 0, 0, ⟨0, 0⟩⟩ :=
  ⟨Int.le_refl 0, by show (0 : Int) ≤ (b.length : Int); omega, hl, hr, Int.le_refl 0, by show (0 : Int) ≤ 4; decide⟩
def stakeS (b : List UInt8) (n : Int) : List UInt8 × Int × Int := if bcheckS b ≠ 0 then ([], 0, bcheckS b) else if n < 0 ∨ 1000 < n then ([], 0, 3) else takebitsS b n
theorem stake_ok (b : List UInt8) (n : Int) (hn : n ≤ 9223372036854775807) : stake_vc b n (fun r => r = stakeS b n) := by
  refine ⟨fun h => ?_, fun h => ⟨fun h1 => ?_, fun h1 => ?_⟩⟩
  · have h : bcheckS b ≠ 0 := by simpa using h
    unfold stakeS
    rw [if_pos h]
  all_goals
    have h : ¬ bcheckS b ≠ 0 := by simpa using h
  · unfold stakeS
    rw [if_neg h, if_pos (by simpa using h1)]
  · have h1 : ¬ (n < 0 ∨ 1000 < n) := by simp at h1; omega
    obtain ⟨hl, hr⟩ := (bcheck_zero b).1 (by simpa using h)
    have hR : Rok ⟨b, 0, 0, ⟨0, 0⟩⟩ := Rok_start b (by omega) hr
    have hS : stakeS b n = takebitsS b n := by unfold stakeS; rw [if_neg h, if_neg h1]
    rw [hS]
    refine ⟨⟨hR, hn⟩, ?_⟩
    have key := rloop_take n.toNat ⟨b, 0, 0, ⟨0, 0⟩⟩ [] hR rfl
    rintro _ rfl
    unfold rtakeS takebitsS
    dsimp only at key
    rw [show (0 : Int).toNat = 0 from rfl, List.drop_zero] at key
    cases hT : takeF ⟨0, 0⟩ b n.toNat with
    | error e =>
      rw [hT] at key
      obtain ⟨q, k1, k2, k3, _⟩ := key
      rw [k1]
      refine ⟨fun _ => by rw [k2], fun h2 => ?_⟩
      exfalso
      simp [k2, k3] at h2
    | ok q =>
      rw [hT] at key
      rw [key.1]
      exact ⟨fun h2 => (by simp at h2), fun _ => rfl⟩
theorem rowed_ok : rowed_vc (fun r => r = true) := by
  refine ⟨by omega, ?_⟩
  decide
def unbF : Nat → List UInt8 → List Int
  | 0, _ => []
  | k + 1, b => ((val (b.take 8) : Nat) : Int) :: unbF k (b.drop 8)
def bbytesS (b : List UInt8) : List Int × Int := if bcheckS b ≠ 0 then ([], bcheckS b) else if b.length % 8 ≠ 0 then ([], 4) else (unbF (b.length / 8) b, 0)
theorem val8 (b : List UInt8) (h : isRow b = true) (hl : b.length ≤ 8) : val b < 256 := by
  have := val_lt h
  have hp : 2 ^ b.length ≤ 2 ^ 8 := Nat.pow_le_pow_right (by omega) hl
  omega
theorem bbytes_ok (b : List UInt8) : bbytes_vc b (fun r => r = bbytesS b) := by
  have e8 : (((b.length : Int).tmod 8) != 0) = decide (b.length % 8 ≠ 0) := by
    rw [Int.tmod_eq_emod_of_nonneg (by omega), Bool.eq_iff_iff]
    simp
    omega
  unfold bbytes_vc
  rw [e8]
  refine ⟨fun h => ?_, fun h => ⟨fun h1 => ?_, fun h1 => ?_⟩⟩
  · have h : bcheckS b ≠ 0 := by simpa using h
    unfold bbytesS
    rw [if_pos h]
  all_goals
    have h : ¬ bcheckS b ≠ 0 := by simpa using h
  · unfold bbytesS
    rw [if_neg h, if_pos (of_decide_eq_true h1)]
  · have h1 := of_decide_eq_false h1
    obtain ⟨hl, hr⟩ := (bcheck_zero b).1 (by simpa using h)
    have hS : bbytesS b = (unbF (b.length / 8) b, 0) := by unfold bbytesS; rw [if_neg h, if_neg h1]
    rw [hS]
    refine ⟨fun x y => isRow x = true ∧ x.length % 8 = 0 ∧ x.length ≤ b.length ∧ y.length ≤ 1000 - x.length ∧ y ++ unbF (x.length / 8) x = unbF (b.length / 8) b, fun x _ => x.length, ⟨hr, by omega, by omega, by simp, rfl⟩, ?_⟩
    rintro x y ⟨g1, g2, g3, g4, g5⟩
    refine ⟨fun h2 => ?_, fun h2 => ?_⟩
    · have hx : 8 ≤ x.length := by simp at h2; omega
      have e : (8 : Int).toNat = 8 := rfl
      rw [e]
      have hv := val8 (x.take 8) (isRow_take g1 8) (by rw [List.length_take]; omega)
      have ew : w8 (breadS (x.take 8)) = ((val (x.take 8) : Nat) : Int) := w8_eq _ (by unfold breadS; omega)
      rw [ew]
      refine ⟨by omega, ⟨by rw [List.length_take]; omega, isRow_take g1 8⟩, by omega, by omega, ⟨isRow_drop g1 8, by rw [List.length_drop]; omega, by rw [List.length_drop]; omega, by simp; omega, ?_⟩, by (try dsimp only); rw [List.length_drop]; omega⟩
      obtain ⟨m, hm⟩ : ∃ m, x.length / 8 = m + 1 := ⟨x.length / 8 - 1, by omega⟩
      have hm2 : (x.drop 8).length / 8 = m := by rw [List.length_drop]; omega
      rw [hm, unbF] at g5
      rw [hm2, ← g5]
      simp
    · have hx : x.length = 0 := by simp at h2; simp [h2]
      rw [hx] at g5
      simpa [unbF] using g5

end Go.Proofs.YtfafpnacflcgmaaDoor
