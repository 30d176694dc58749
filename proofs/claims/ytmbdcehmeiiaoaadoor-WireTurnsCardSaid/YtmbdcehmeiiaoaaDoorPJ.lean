/- Pure proofs: no program in sight. -/
import Derived.Test.YtmbdcehmeiiaoaaDoorVJ
set_option linter.unusedVariables false
set_option linter.unusedSimpArgs false
namespace Go.Proofs.YtmbdcehmeiiaoaaDoor
open Go.Sy Go.RowKit
def ieqS (a b : List Int) : Bool := decide (a = b)
theorem ieq_ok (a b : List Int) : ieq_vc a b (fun r => r = ieqS a b) := by
  intro ha hb
  refine ⟨fun h => ?_, fun h => ?_⟩
  · have h : ¬ (a.length : Int) = (b.length : Int) := by simpa using h
    unfold ieqS
    rw [decide_eq_false]
    intro e
    rw [e] at h
    exact h rfl
  · have h : a.length = b.length := by
      have h : (a.length : Int) = (b.length : Int) := by simpa only [bne_eq_false_iff_eq] using h
      omega
    refine ⟨fun i => ∃ k : Nat, i = k ∧ k ≤ a.length ∧ ∀ (j : Nat) (x y : Int), j < k → a[j]? = some x → b[j]? = some y → x = y, fun i => a.length - i.toNat, ⟨0, rfl, by omega, fun j _ _ hj => absurd hj (Nat.not_lt_zero _)⟩, ?_⟩
    rintro _ ⟨k, rfl, hk, hj⟩
    refine ⟨fun h1 => ?_, fun h1 => ?_⟩
    · have hk : k < a.length := by have := of_decide_eq_true h1; omega
      rw [w64_succ k (by omega)]
      refine ⟨by omega, fun q hq => ⟨by omega, fun p hp => ⟨fun h2 => ?_, fun h2 => ?_⟩⟩⟩
      · unfold ieqS
        rw [decide_eq_false]
        rintro rfl
        rw [hq] at hp
        cases hp
        simp at h2
      · have h2 : q = p := by simpa using h2
        rw [Int.toNat_natCast] at hq hp
        refine ⟨⟨k + 1, rfl, by omega, fun j x y hj1 hx hy => ?_⟩, by (try dsimp only); omega⟩
        rcases Nat.lt_or_ge j k with hc | hc
        · exact hj j x y hc hx hy
        · have : j = k := by omega
          subst this
          rw [hq] at hx
          rw [hp] at hy
          cases hx; cases hy; exact h2
    · have : k = a.length := by have := of_decide_eq_false h1; omega
      subst this
      unfold ieqS
      rw [decide_eq_true]
      exact list_eq_at h fun k x y hx hy => hj k x y (List.getElem?_eq_some_iff.1 hx).1 hx hy
def fcloneS (l : List Frame) : List Frame := l
theorem fclone_ok (l : List Frame) (h : l.length * 48 ≤ 140737488355328) : fclone_vc l (fun r => r = fcloneS l) := by
  intro _ nb hnb
  refine ⟨fun h1 => ?_, fun _ => ⟨by simp; omega, by simp [fcloneS]⟩⟩
  have : l = [] := Classical.byContradiction fun hne => by rw [hnb hne] at h1; cases h1
  rw [this]
  rfl
/-- So many at both ends have changed places. -/
def Rev {α : Type} (u : List α) (k : Nat) (z : List α) : Prop := z.length = u.length ∧ ∀ j, j < u.length → z[j]? = if j < k ∨ u.length ≤ j + k then u[u.length - 1 - j]? else u[j]?
theorem Rev.start {α : Type} (u : List α) : Rev u 0 u := ⟨rfl, fun j hj => by rw [if_neg (by omega)]⟩
theorem Rev.step {α : Type} {u z : List α} {k : Nat} {x y : α} (h : Rev u k z) (hk : 2 * k + 1 < u.length) (hx : z[u.length - 1 - k]? = some x) (hy : z[k]? = some y) : Rev u (k + 1) ((z.set k x).set (u.length - 1 - k) y) := by
  obtain ⟨h1, h2⟩ := h
  refine ⟨by simp [h1], fun j hj => ?_⟩
  have ex := h2 (u.length - 1 - k) (by omega)
  have ey := h2 k (by omega)
  rw [if_neg (by omega)] at ex ey
  rw [hx] at ex
  rw [hy] at ey
  rw [List.getElem?_set, List.getElem?_set]
  by_cases e1 : u.length - 1 - k = j
  · subst e1
    rw [if_pos rfl, if_pos (by rw [List.length_set]; omega), if_pos (by omega), ey]
    congr 1
    omega
  · rw [if_neg e1]
    by_cases e2 : k = j
    · subst e2
      rw [if_pos rfl, if_pos (by omega), if_pos (by omega), ex]
    · rw [if_neg e2, h2 j hj]
      have : (j < k + 1 ∨ u.length ≤ j + (k + 1)) ↔ (j < k ∨ u.length ≤ j + k) := by omega
      simp only [this]
theorem Rev.done {α : Type} {u z : List α} {k : Nat} (h : Rev u k z) (hk : u.length ≤ 2 * k + 1) : z = u.reverse := by
  obtain ⟨h1, h2⟩ := h
  apply List.ext_getElem?
  intro j
  rcases Nat.lt_or_ge j u.length with hj | hj
  · rw [h2 j hj, List.getElem?_reverse hj]
    split
    · rfl
    · congr 1
      omega
  · rw [List.getElem?_eq_none (by omega), List.getElem?_eq_none (by rw [List.length_reverse]; omega)]
def frevS (l : List Frame) : List Frame := l.reverse
theorem frev_ok (l : List Frame) : frev_vc l (fun r => r = frevS l) := by
  intro hl
  refine ⟨fun x y z => ∃ k : Nat, x = k ∧ y = (l.length : Int) - 1 - k ∧ 2 * k ≤ l.length + 1 ∧ Rev l k z, fun x _ _ => l.length - x.toNat, ⟨0, rfl, by rw [w64_eq _ (by omega)]; omega, by omega, Rev.start l⟩, ?_⟩
  rintro _ _ z ⟨k, rfl, rfl, hk, hR⟩
  refine ⟨fun h1 => ?_, fun h1 => ?_⟩
  · have h1 := of_decide_eq_true h1
    have e1 : (((l.length : Int) - 1 - (k : Int))).toNat = l.length - 1 - k := by omega
    have hz := hR.1
    rw [e1, Int.toNat_natCast]
    refine ⟨by omega, fun x hx => ⟨by omega, fun y hy => ⟨by omega, by omega, ?_, ?_⟩⟩⟩
    · rw [w64_succ k (by omega), w64_eq _ (by omega)]
      exact ⟨k + 1, rfl, by omega, by omega, hR.step (by omega) hx hy⟩
    · rw [w64_succ k (by omega)]
      (try dsimp only)
      omega
  · have h1 := of_decide_eq_false h1
    exact ⟨hR.1, hR.done (by omega)⟩
def irevS (l : List Int) : List Int := l.reverse
theorem irev_ok (l : List Int) : irev_vc l (fun r => r = irevS l) := by
  intro hl
  refine ⟨fun x y z => ∃ k : Nat, x = k ∧ y = (l.length : Int) - 1 - k ∧ 2 * k ≤ l.length + 1 ∧ Rev l k z, fun x _ _ => l.length - x.toNat, ⟨0, rfl, by rw [w64_eq _ (by omega)]; omega, by omega, Rev.start l⟩, ?_⟩
  rintro _ _ z ⟨k, rfl, rfl, hk, hR⟩
  refine ⟨fun h1 => ?_, fun h1 => ?_⟩
  · have h1 := of_decide_eq_true h1
    have e1 : (((l.length : Int) - 1 - (k : Int))).toNat = l.length - 1 - k := by omega
    have hz := hR.1
    rw [e1, Int.toNat_natCast]
    refine ⟨by omega, fun x hx => ⟨by omega, fun y hy => ⟨by omega, by omega, ?_, ?_⟩⟩⟩
    · rw [w64_succ k (by omega), w64_eq _ (by omega)]
      exact ⟨k + 1, rfl, by omega, by omega, hR.step (by omega) hx hy⟩
    · rw [w64_succ k (by omega)]
      (try dsimp only)
      omega
  · have h1 := of_decide_eq_false h1
    exact ⟨hR.1, hR.done (by omega)⟩

end Go.Proofs.YtmbdcehmeiiaoaaDoor
