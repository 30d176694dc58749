/- What must hold so that each function ends well: pure predicates, made by program. -/
import Derived.Test.YtdndfbamhnchfaaDoorPR
set_option linter.unusedVariables false
set_option linter.unusedSimpArgs false
namespace Go.Proofs.YtdndfbamhnchfaaDoor
open Go.Sy Go.RowKit
def LPlaces_vc (u0 : Signal) (u1 : Signal) (u2 : Int) (u3 : List UInt8) (K : Bool → Prop) : Prop :=
  (((splcS u0 u2).1).length ≤ 140737488355328 →
    (((((checkS u0 u2) != (checkS u0 u2)) || ((nameS u3) != (nameS u3))) = true →
      (K false)) ∧
    ((((checkS u0 u2) != (checkS u0 u2)) || ((nameS u3) != (nameS u3))) = false →
      (((((checkS u0 64) == 0) && ((checkS u1 64) == 0)) = true →
        ((((0 ≤ u0.Start ∧ u0.Start ≤ 512) ∧ 1 ≤ u0.Size ∧ u0.Size ≤ 40) ∧ (0 ≤ u1.Start ∧ u1.Start ≤ 512) ∧ 1 ≤ u1.Size ∧ u1.Size ≤ 40) ∧
        ((((overS u0 u1) != (roverS u0 u1)) = true →
          (K false)) ∧
        (((overS u0 u1) != (roverS u0 u1)) = false →
          ((((checkS u0 u2) != 0) = true →
            (K ((((splcS u0 u2).2) == (checkS u0 u2)) && ((((splcS u0 u2).1).length : Int) == 0)))) ∧
          (((checkS u0 u2) != 0) = false →
            (((((splcS u0 u2).2) == 0) = true →
              (((0 ≤ u0.Start ∧ u0.Start ≤ 512) ∧ 1 ≤ u0.Size ∧ u0.Size ≤ 40) ∧
              ((placesS u0).length ≤ 140737488355328 →
              (K (ieqS ((splcS u0 u2).1) (placesS u0)))))) ∧
            ((((splcS u0 u2).2) == 0) = false →
              (K false))))))))) ∧
      ((((checkS u0 64) == 0) && ((checkS u1 64) == 0)) = false →
        ((((overS u0 u1) != false) = true →
          (K false)) ∧
        (((overS u0 u1) != false) = false →
          ((((checkS u0 u2) != 0) = true →
            (K ((((splcS u0 u2).2) == (checkS u0 u2)) && ((((splcS u0 u2).1).length : Int) == 0)))) ∧
          (((checkS u0 u2) != 0) = false →
            (((((splcS u0 u2).2) == 0) = true →
              (((0 ≤ u0.Start ∧ u0.Start ≤ 512) ∧ 1 ≤ u0.Size ∧ u0.Size ≤ 40) ∧
              ((placesS u0).length ≤ 140737488355328 →
              (K (ieqS ((splcS u0 u2).1) (placesS u0)))))) ∧
            ((((splcS u0 u2).2) == 0) = false →
              (K false))))))))))))

/-! Pure proofs: no program in sight. -/
theorem places_part (s : Signal) (n : Int) :
    ((((checkS s n) != 0) = true →
      ((((splcS s n).2) == (checkS s n)) && ((((splcS s n).1).length : Int) == 0)) = true) ∧
    (((checkS s n) != 0) = false →
      (((((splcS s n).2) == 0) = true →
        (((0 ≤ s.Start ∧ s.Start ≤ 512) ∧ 1 ≤ s.Size ∧ s.Size ≤ 40) ∧
        ((placesS s).length ≤ 140737488355328 →
        (ieqS ((splcS s n).1) (placesS s)) = true))) ∧
      ((((splcS s n).2) == 0) = false → false = true)))) := by
  unfold splcS
  refine ⟨fun h => ?_, fun h => ?_⟩
  · rw [if_pos (by simpa using h)]
    simp
  · have h0 : checkS s n = 0 := by simpa using h
    obtain ⟨h1, h2, h3, _⟩ := check_zero h0
    rw [if_neg (by rw [h0]; decide)]
    refine ⟨fun _ => ⟨⟨⟨h3.1, by omega⟩, h1.2.2⟩, fun _ => ?_⟩, fun hh => by simp at hh⟩
    unfold ieqS
    simp
theorem LPlaces_ok {A B C D : Prop} (s t : Signal) (n : Int) (l : List UInt8) (k0 : A) (k1 : B) (k2 : C) (k3 : D) : LPlaces_vc s t n l (fun r => r = true) := by
  have hp := places_part s n
  intro _
  refine ⟨fun h => (by simp at h), fun _ => ⟨fun h => ?_, fun h => ?_⟩⟩
  · have h1 : checkS s 64 = 0 ∧ checkS t 64 = 0 := by simpa using h
    obtain ⟨a1, a2, a3, a4⟩ := check_zero h1.1
    obtain ⟨b1, b2, b3, b4⟩ := check_zero h1.2
    refine ⟨⟨⟨⟨a3.1, by omega⟩, a1.2.2⟩, ⟨b3.1, by omega⟩, b1.2.2⟩, fun hh => ?_, fun _ => hp⟩
    rw [over_eq h1.1 h1.2] at hh
    simp at hh
  · have h1 : ¬ (checkS s 64 = 0 ∧ checkS t 64 = 0) := by
      intro hh
      rw [hh.1, hh.2] at h
      simp at h
    have ho : overS s t = false := by
      unfold overS
      rw [if_pos (by
        by_cases hs : checkS s 64 = 0
        · exact .inr (fun ht => h1 ⟨hs, ht⟩)
        · exact .inl hs)]
    rw [ho]
    exact ⟨fun hh => (by simp at hh), fun _ => hp⟩

end Go.Proofs.YtdndfbamhnchfaaDoor
