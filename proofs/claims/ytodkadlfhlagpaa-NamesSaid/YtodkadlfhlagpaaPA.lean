/- Pure proofs: no program in sight. -/
import Derived.Test.YtodkadlfhlagpaaVA
set_option linter.unusedVariables false
set_option linter.unusedSimpArgs false
namespace Go.Proofs.Ytodkadlfhlagpaa
open Go.Sy Go.RowKit
theorem sequal_ok (a b : List Int) : sequal_vc a b (fun r => r = decide (a = b)) := by
  intro ha hb
  refine ⟨fun h => ?_, fun h => ?_⟩
  · simp at h
    exact (decide_eq_false (fun e => h (by rw [e]))).symm
  · have hl : a.length = b.length := by simp at h; omega
    refine ⟨fun x => ∃ k : Nat, x = k ∧ k ≤ a.length ∧ ∀ j, j < k → a[j]? = b[j]?, fun x => (a.length - x).toNat, ⟨0, rfl, by omega, by simp⟩, ?_⟩
    rintro _ ⟨k, rfl, hk, he⟩
    refine ⟨fun h1 => ?_, fun h1 => ?_⟩
    · have h2 : k < a.length := by simpa using h1
      refine ⟨by omega, fun q hq => ⟨by omega, fun q' hq' => ⟨fun h3 => ?_, fun h3 => ?_⟩⟩⟩
      · simp only [Int.toNat_natCast] at hq hq'
        refine (decide_eq_false (fun e => ?_)).symm
        subst e
        rw [hq] at hq'
        simp_all
      · simp only [Int.toNat_natCast] at hq hq'
        rw [w64_succ k (by omega)]
        refine ⟨⟨k + 1, rfl, by omega, fun j hj => ?_⟩, by dsimp only; omega⟩
        rcases Nat.lt_or_ge j k with h4 | h4
        · exact he j h4
        · have : j = k := by omega
          subst this
          rw [hq, hq']
          simp at h3
          rw [h3]
    · have h2 : k = a.length := by simp at h1; omega
      subst h2
      refine (decide_eq_true (List.ext_getElem? fun j => ?_)).symm
      rcases Nat.lt_or_ge j a.length with h4 | h4
      · exact he j h4
      · rw [List.getElem?_eq_none h4, List.getElem?_eq_none (by omega)]
theorem sequal_any (a b : List Int) (K : Bool → Prop) (h : K (decide (a = b))) : sequal_vc a b K := sequal_mono (fun _ e => by rw [e]; exact h) (sequal_ok a b)
theorem names_ok : names_vc (fun r => r = true) := by
  refine ⟨fun x => ∃ k : Nat, x = k ∧ k ≤ 15, fun x => (15 - x).toNat, ⟨0, rfl, by omega⟩, ?_⟩
  rintro _ ⟨k, rfl, hk⟩
  refine ⟨fun h1 => ?_, fun h1 => ?_⟩
  · have h2 : k < 15 := by have := of_decide_eq_true h1; omega
    refine ⟨by simp; omega, fun q hq => ⟨fun h3 => ?_, fun h3 => ?_⟩⟩
    · exfalso
      simp only [Int.toNat_natCast] at hq
      have : k = 0 ∨ k = 1 ∨ k = 2 ∨ k = 3 ∨ k = 4 ∨ k = 5 ∨ k = 6 ∨ k = 7 ∨ k = 8 ∨ k = 9 ∨ k = 10 ∨ k = 11 ∨ k = 12 ∨ k = 13 ∨ k = 14 := by omega
      rcases this with rfl | rfl | rfl | rfl | rfl | rfl | rfl | rfl | rfl | rfl | rfl | rfl | rfl | rfl | rfl <;> simp at hq <;> subst hq <;> simp at h3
    · rw [w64_succ k (by omega)]
      exact ⟨⟨k + 1, rfl, by omega⟩, by dsimp only; omega⟩
  · refine sequal_any _ _ _ ⟨fun _ => sequal_any _ _ _ ?_, fun h => ?_⟩
    · simp
    · simp at h

end Go.Proofs.Ytodkadlfhlagpaa
