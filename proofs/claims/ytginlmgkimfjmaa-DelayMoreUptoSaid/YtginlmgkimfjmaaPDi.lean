/- Pure proofs: no program in sight. -/
import Derived.Test.YtginlmgkimfjmaaVDi
set_option linter.unusedVariables false
set_option linter.unusedSimpArgs false
namespace Go.Proofs.Ytginlmgkimfjmaa
open Go.Sy Go.RowKit
def stopAt (l : List Task) (i : Nat) : Stop := ⟨worstS l i, decide (worstS l i ≥ 0) && decide (worstS l i ≤ (l[i]?.getD nil_task).Late)⟩
def worstL (l : List Task) : List Stop := (List.range l.length).map (stopAt l)
def WorstS (l : List Task) : List Stop × Int := if dcheckS l ≠ 0 then ([], dcheckS l) else (worstL l, 0)
theorem dWorst_ok (l : List Task) : dWorst_vc l (fun r => r = WorstS l) := by
  intro hl
  refine ⟨fun h => ?_, fun h => ?_⟩
  · have h : dcheckS l ≠ 0 := by simpa using h
    unfold WorstS
    rw [if_pos h]
  · have h0 : dcheckS l = 0 := by simpa using h
    have hS : WorstS l = (worstL l, 0) := by unfold WorstS; rw [if_neg (fun hc => hc h0)]
    have h20 := (dcheckS_zero h0).1
    rw [hS]
    refine rg1b hl (fun k x => x = (List.range k).map (stopAt l)) rfl ?_ ?_
    · rintro k _ q hk hq rfl inv mu hn
      refine ⟨⟨h0, by omega, by omega⟩, by simp; omega, hn _ ?_⟩
      rw [List.range_succ, List.map_append]
      congr 1
      show _ = [stopAt l k]
      unfold stopAt
      rw [hq]
      rfl
    · rintro _ rfl
      rfl
def tasksS : List Task := [⟨1, 8, 1000, 1000, 0⟩, ⟨2, 8, 1000, 1000, 0⟩]
theorem dtasks_ok : dtasks_vc (fun r => r = tasksS) := rfl
def stopeqS (a b : List Stop) : Bool := decide (a = b)
theorem list_eq_at {α : Type} {a b : List α} (hl : a.length = b.length) (h : ∀ (k : Nat) (x y : α), a[k]? = some x → b[k]? = some y → x = y) : a = b := by
  apply List.ext_getElem? 
  intro k
  rcases Nat.lt_or_ge k a.length with hk | hk
  · have h1 := List.getElem?_eq_getElem hk
    have h2 := List.getElem?_eq_getElem (l := b) (show k < b.length by omega)
    rw [h1, h2, h k _ _ h1 h2]
  · rw [List.getElem?_eq_none hk, List.getElem?_eq_none (by omega)]
theorem stopeq_ok (a b : List Stop) : stopeq_vc a b (fun r => r = stopeqS a b) := by
  intro ha hb
  refine ⟨fun h => ?_, fun h => ?_⟩
  · have h : ¬ (a.length : Int) = (b.length : Int) := by simpa using h
    unfold stopeqS
    rw [decide_eq_false]
    intro e
    rw [e] at h
    exact h rfl
  · have h : a.length = b.length := by
      have h : (a.length : Int) = (b.length : Int) := by simpa only [bne_eq_false_iff_eq] using h
      omega
    refine rg0 ha (fun k => ∀ (j : Nat) (x y : Stop), j < k → a[j]? = some x → b[j]? = some y → x = y) (fun j _ _ hj => absurd hj (Nat.not_lt_zero _)) ?_ ?_
    · intro k q hk hq hj inv mu hn
      refine ⟨by omega, fun p hp => ⟨fun h1 => ?_, fun h1 => hn fun j x y hj1 hx hy => ?_⟩⟩
      · unfold stopeqS
        rw [decide_eq_false]
        rintro rfl
        rw [Int.toNat_natCast] at hp
        obtain rfl := Option.some.inj (hq.symm.trans hp)
        simp at h1
      · rcases Nat.lt_or_ge j k with hc | hc
        · exact hj j x y hc hx hy
        · have : j = k := by omega
          subst this
          rw [Int.toNat_natCast] at hp
          obtain rfl := Option.some.inj (hx.symm.trans hq)
          obtain rfl := Option.some.inj (hy.symm.trans hp)
          simp at h1
          cases x; cases y; simp_all
    · intro hj
      unfold stopeqS
      rw [decide_eq_true]
      exact list_eq_at h fun k x y hx hy => hj k x y (List.getElem?_eq_some_iff.1 hx).1 hx hy

end Go.Proofs.Ytginlmgkimfjmaa
