/- What must hold so that each function ends well: pure predicates, made by program. -/
import Derived.Test.YtdndfbamhnchfaaDoorPE
set_option linter.unusedVariables false
set_option linter.unusedSimpArgs false
namespace Go.Proofs.YtdndfbamhnchfaaDoor
open Go.Sy Go.RowKit
def sover_vc (u0 : Signal) (u1 : Signal) (K : Bool → Prop) : Prop :=
  (((((checkS u0 64) != 0) || ((checkS u1 64) != 0)) = true →
      (K false)) ∧
    ((((checkS u0 64) != 0) || ((checkS u1 64) != 0)) = false →
      (((0 ≤ u0.Start ∧ u0.Start ≤ 512) ∧ 1 ≤ u0.Size ∧ u0.Size ≤ 40) ∧
      (((0 ≤ u1.Start ∧ u1.Start ≤ 512) ∧ 1 ≤ u1.Size ∧ u1.Size ≤ 40) ∧
      ((isortS (placesS u0)).length ≤ 140737488355328 →
      ((isortS (placesS u1)).length ≤ 140737488355328 →
      (∃ inv153 : (List Int) → (List Int) → Prop, ∃ mu153 : (List Int) → (List Int) → Nat, inv153 (isortS (placesS u0)) (isortS (placesS u1)) ∧
      (∀ (x5 : List Int) (x6 : List Int), inv153 x5 x6 →
      ((((decide ((x5.length : Int) > 0)) && (decide ((x6.length : Int) > 0))) = true →
        ((0 ≤ (0 : Int) ∧ (0 : Int) < (x5.length : Int)) ∧
        (∀ q209, x5[(0 : Int).toNat]? = some q209 →
        ((0 ≤ (0 : Int) ∧ (0 : Int) < (x6.length : Int)) ∧
        (∀ q228, x6[(0 : Int).toNat]? = some q228 →
        ((((icmpS q209 q228) == 0) = true →
          (K true)) ∧
        (((icmpS q209 q228) == 0) = false →
          (((decide ((icmpS q209 q228) < 0)) = true →
            ((0 ≤ (1 : Int) ∧ (1 : Int) ≤ (x5.length : Int)) ∧
            (inv153 (x5.drop (1 : Int).toNat) x6 ∧ mu153 (x5.drop (1 : Int).toNat) x6 < mu153 x5 x6))) ∧
          ((decide ((icmpS q209 q228) < 0)) = false →
            ((0 ≤ (1 : Int) ∧ (1 : Int) ≤ (x6.length : Int)) ∧
            (inv153 x5 (x6.drop (1 : Int).toNat) ∧ mu153 x5 (x6.drop (1 : Int).toNat) < mu153 x5 x6))))))))))) ∧
      (((decide ((x5.length : Int) > 0)) && (decide ((x6.length : Int) > 0))) = false →
        (K false)))))))))))

/-! Pure proofs: no program in sight. -/
def Common (x y : List Int) : Prop := ∃ p, p ∈ x ∧ p ∈ y
theorem isort_up (l : List Int) : (isortS l).Pairwise (· ≤ ·) := by
  have h := List.pairwise_mergeSort (le := fun x y : Int => decide (x ≤ y)) (fun a b c h1 h2 => by rw [decide_eq_true_eq] at *; omega) (fun a b => by rw [Bool.or_eq_true, decide_eq_true_eq, decide_eq_true_eq]; omega) l
  exact h.imp (fun hh => of_decide_eq_true hh)
theorem isort_mem (l : List Int) (p : Int) : p ∈ isortS l ↔ p ∈ l := List.mem_mergeSort
theorem over_common {s t : Signal} (h1 : checkS s 64 = 0) (h2 : checkS t 64 = 0) : overS s t = true ↔ Common (placesS s) (placesS t) := by
  unfold overS
  rw [if_neg (by rw [h1, h2]; simp), List.any_eq_true]
  unfold Common placesS
  constructor
  · rintro ⟨p, hp, hq⟩
    exact ⟨p, List.mem_map.2 ⟨p, hp, rfl⟩, List.mem_map.2 ⟨p, by simpa using hq, rfl⟩⟩
  · rintro ⟨q, hp, hq⟩
    obtain ⟨a, ha, rfl⟩ := List.mem_map.1 hp
    obtain ⟨b, hb, e⟩ := List.mem_map.1 hq
    have e : b = a := by have e : (b : Int) = (a : Int) := e; omega
    subst e
    exact ⟨b, ha, by simpa using hb⟩
theorem sover_ok (s t : Signal) : sover_vc s t (fun r => r = overS s t) := by
  refine ⟨fun h => ?_, fun h => ?_⟩
  · unfold overS
    rw [if_pos (by simpa using h)]
  · have h1 : checkS s 64 = 0 ∧ checkS t 64 = 0 := by simpa using h
    obtain ⟨a1, a2, a3, a4⟩ := check_zero h1.1
    obtain ⟨b1, b2, b3, b4⟩ := check_zero h1.2
    have hov := over_common h1.1 h1.2
    refine ⟨⟨⟨a3.1, by omega⟩, a1.2.2⟩, ⟨⟨b3.1, by omega⟩, b1.2.2⟩, fun _ _ => ⟨fun x y => x.Pairwise (· ≤ ·) ∧ y.Pairwise (· ≤ ·) ∧ (overS s t = true ↔ Common x y), fun x y => x.length + y.length, ⟨isort_up _, isort_up _, ?_⟩, ?_⟩⟩
    · rw [hov]
      unfold Common
      simp only [isort_mem]
    rintro x y ⟨hx, hy, hc⟩
    refine ⟨fun h2 => ?_, fun h2 => ?_⟩
    · rw [Bool.and_eq_true, decide_eq_true_eq, decide_eq_true_eq] at h2
      cases x with
      | nil => simp at h2
      | cons a r =>
        cases y with
        | nil => simp at h2
        | cons b q =>
          rw [List.pairwise_cons] at hx hy
          refine ⟨by simp only [List.length_cons]; omega, fun u hu => ⟨by simp only [List.length_cons]; omega, fun v hv => ?_⟩⟩
          have hu : a = u := by simpa using hu
          have hv : b = v := by simpa using hv
          subst hu hv
          unfold icmpS
          refine ⟨fun h3 => ?_, fun h3 => ⟨fun h4 => ?_, fun h4 => ?_⟩⟩
          · have e : a = b := by
              rw [beq_iff_eq] at h3
              split at h3
              · omega
              · split at h3 <;> omega
            exact (hc.2 ⟨a, List.mem_cons_self, by rw [e]; exact List.mem_cons_self⟩).symm
          · have hab : a < b := by
              have h4 := of_decide_eq_true h4
              split at h4
              · assumption
              · split at h4 <;> omega
            refine ⟨by simp only [List.length_cons]; omega, ⟨hx.2, List.pairwise_cons.2 hy, hc.trans ⟨?_, ?_⟩⟩, by (try dsimp only); simp only [List.length_cons, List.length_drop]; omega⟩
            · rintro ⟨p, hp, hq⟩
              rw [List.mem_cons] at hp
              rcases hp with rfl | hp
              · exfalso
                rw [List.mem_cons] at hq
                rcases hq with rfl | hq
                · omega
                · have := hy.1 _ hq; omega
              · exact ⟨p, hp, hq⟩
            · rintro ⟨p, hp, hq⟩
              exact ⟨p, List.mem_cons_of_mem _ hp, hq⟩
          · have hab : b < a := by
              have h4 := of_decide_eq_false h4
              rw [beq_eq_false_iff_ne] at h3
              split at h3
              · rename_i h5; rw [if_pos h5] at h4; omega
              · split at h3
                · assumption
                · omega
            refine ⟨by simp only [List.length_cons]; omega, ⟨List.pairwise_cons.2 hx, hy.2, hc.trans ⟨?_, ?_⟩⟩, by (try dsimp only); simp only [List.length_cons, List.length_drop]; omega⟩
            · rintro ⟨p, hp, hq⟩
              rw [List.mem_cons] at hq
              rcases hq with rfl | hq
              · exfalso
                rw [List.mem_cons] at hp
                rcases hp with rfl | hp
                · omega
                · have := hx.1 _ hp; omega
              · exact ⟨p, hp, hq⟩
            · rintro ⟨p, hp, hq⟩
              exact ⟨p, hp, List.mem_cons_of_mem _ hq⟩
    · cases ho : overS s t with
      | false => rfl
      | true =>
        obtain ⟨p, hp, hq⟩ := hc.1 ho
        rw [Bool.and_eq_false_iff, decide_eq_false_iff_not, decide_eq_false_iff_not] at h2
        rcases h2 with h2 | h2
        · cases x with
          | nil => cases hp
          | cons a r => simp only [List.length_cons] at h2; omega
        · cases y with
          | nil => cases hq
          | cons a r => simp only [List.length_cons] at h2; omega

end Go.Proofs.YtdndfbamhnchfaaDoor
