/- What must hold so that each function ends well: pure predicates, made by program. -/
import Derived.Test.YtmbdcehmeiiaoaaDoorPK
set_option linter.unusedVariables false
set_option linter.unusedSimpArgs false
namespace Go.Proofs.YtmbdcehmeiiaoaaDoor
open Go.Sy Go.RowKit

/-! Pure proofs: no program in sight. -/
theorem lexle_antisymm : ∀ a b : List UInt8, lexle a b = true → lexle b a = true → a = b := by
  intro a
  induction a with
  | nil =>
    intro b _ h
    cases b with
    | nil => rfl
    | cons y b => cases h
  | cons x a ih =>
    intro b h1 h2
    cases b with
    | nil => cases h1
    | cons y b =>
      rw [lexle] at h1 h2
      by_cases e : x = y
      · subst e
        rw [if_pos rfl] at h1 h2
        rw [ih b h1 h2]
      · rw [if_neg e, decide_eq_true_eq, UInt8.lt_iff_toNat_lt] at h1
        rw [if_neg (fun h => e h.symm), decide_eq_true_eq, UInt8.lt_iff_toNat_lt] at h2
        omega
theorem minR_unique {l : List (List UInt8)} {b : List UInt8} (hb : b ∈ l) (hm : ∀ r ∈ l, lexle b r = true) : minR l = b := by
  have hne : l ≠ [] := fun h => by rw [h] at hb; cases hb
  obtain ⟨h1, h2⟩ := minR_spec l hne
  exact lexle_antisymm _ _ (h2 b hb) (hm _ h1)
theorem minR_reverse (l : List (List UInt8)) : minR l.reverse = minR l := by
  by_cases h : l = []
  · rw [h]; rfl
  · obtain ⟨h1, h2⟩ := minR_spec l h
    exact minR_unique (List.mem_reverse.2 h1) (fun r hr => h2 r (List.mem_reverse.1 hr))
theorem lostL_reverse (rows : List (List UInt8)) : lostL rows.reverse = (lostL rows).reverse := by
  unfold lostL
  rw [minR_reverse, List.map_reverse]
theorem rowsOf_reverse (l : List Frame) : rowsOf l.reverse = (rowsOf l).reverse := List.map_reverse
theorem count_two {l : List Int} {i j : Nat} {a : Int} (hij : i < j) (hi : l[i]? = some a) (hj : l[j]? = some a) : 2 ≤ l.count a := by
  have e : l = l.take j ++ l.drop j := (List.take_append_drop j l).symm
  rw [e, List.count_append]
  have h1 : 0 < (l.take j).count a := List.count_pos_iff.2 (List.mem_of_getElem? (i := i) (by rw [List.getElem?_take, if_pos hij]; exact hi))
  have h2 : 0 < (l.drop j).count a := List.count_pos_iff.2 (List.mem_of_getElem? (i := 0) (by rw [List.getElem?_drop]; exact hj))
  omega
theorem sidx_at1 {l : List Int} {k : Nat} (hc : ¬ 1 < l.count (-1)) (hk : l[k]? = some (-1)) : sidx (fun q => q == (-1 : Int)) l = (k : Int) := by
  refine sidx_at _ _ k (-1) hk rfl fun j x hj hx => ?_
  cases e : (x == (-1 : Int))
  · rfl
  · have e : x = -1 := by simpa using e
    subst e
    exact absurd (count_two hj hx hk) (by omega)
theorem firstBad_reverse (l : List Frame) : firstBad l.reverse = 0 ↔ firstBad l = 0 := by
  rw [← firstBad_zero, ← firstBad_zero]
  exact ⟨fun h f hf => h f (List.mem_reverse.2 hf), fun h f hf => h f (List.mem_reverse.1 hf)⟩
/-- When sending goes well, and what it says then. -/
theorem sendS_zero (l : List Frame) : (sendS l).2.2.2 = 0 ↔ (l.length ≤ 6 ∧ l.length ≠ 0 ∧ firstBad l = 0 ∧ ¬ 1 < (lostL (rowsOf l)).count (-1)) := by
  unfold sendS
  by_cases h1 : 6 < l.length
  · rw [if_pos h1]
    constructor
    · intro h; cases h
    · intro h; omega
  · rw [if_neg h1]
    by_cases h2 : l.length = 0
    · rw [if_pos h2]
      constructor
      · intro h; cases h
      · intro h; exact absurd h2 h.2.1
    · rw [if_neg h2]
      by_cases h3 : firstBad l ≠ 0
      · rw [if_pos h3]
        constructor
        · intro h; exact absurd h h3
        · intro h; exact absurd h.2.2.1 h3
      · rw [if_neg h3]
        by_cases h4 : 1 < (lostL (rowsOf l)).count (-1)
        · rw [if_pos h4]
          constructor
          · intro h; cases h
          · intro h; exact absurd h4 h.2.2.2
        · rw [if_neg h4]
          exact ⟨fun _ => ⟨by omega, h2, by simpa using h3, h4⟩, fun _ => rfl⟩
theorem sendS_well {l : List Frame} (h : (sendS l).2.2.2 = 0) : sendS l = (minR (rowsOf l), sidx (fun q => q == (-1 : Int)) (lostL (rowsOf l)), lostL (rowsOf l), 0) := by
  obtain ⟨h1, h2, h3, h4⟩ := (sendS_zero l).1 h
  unfold sendS
  rw [if_neg (by omega), if_neg h2, if_neg (by rw [h3]; simp), if_neg h4]
theorem lost_best {rows : List (List UInt8)} (h : rows ≠ []) : ∃ k, k < rows.length ∧ rows[k]? = some (minR rows) ∧ (lostL rows)[k]? = some (-1) := by
  obtain ⟨h1, _⟩ := minR_spec rows h
  obtain ⟨k, hk⟩ := List.mem_iff_getElem?.1 h1
  refine ⟨k, (List.getElem?_eq_some_iff.1 hk).1, hk, ?_⟩
  unfold lostL
  rw [List.getElem?_map, hk, Option.map_some, lostAt_none (fd_self _)]

end Go.Proofs.YtmbdcehmeiiaoaaDoor
