/- What must hold so that each function ends well: pure predicates, made by program. -/
import Derived.Test.YtdndfbamhnchfaaDoorPD
set_option linter.unusedVariables false
set_option linter.unusedSimpArgs false
namespace Go.Proofs.YtdndfbamhnchfaaDoor
open Go.Sy Go.RowKit
def icmp_vc (u0 : Int) (u1 : Int) (K : Int → Prop) : Prop :=
  (((iisnan u0) = true →
      (((iisnan u1) = true →
        (K 0)) ∧
      ((iisnan u1) = false →
        (K (-1))))) ∧
    ((iisnan u0) = false →
      (((iisnan u1) = true →
        (K 1)) ∧
      ((iisnan u1) = false →
        (((decide (u0 < u1)) = true →
          (K (-1))) ∧
        ((decide (u0 < u1)) = false →
          (((decide (u0 > u1)) = true →
            (K 1)) ∧
          ((decide (u0 > u1)) = false →
            (K 0)))))))))

/-! Pure proofs: no program in sight. -/
def isortS (l : List Int) : List Int := l.mergeSort fun x y => decide (x ≤ y)
theorem isort_len (l : List Int) : (isortS l).length = l.length := List.length_mergeSort l
def icmpS (a b : Int) : Int := if a < b then -1 else if a > b then 1 else 0
theorem icmp_ok (a b : Int) : icmp_vc a b (fun r => r = icmpS a b) := by
  have hn : ∀ x : Int, iisnan x = false := fun x => by unfold iisnan; simp
  unfold icmp_vc icmpS
  rw [hn, hn]
  refine ⟨fun h => (by cases h), fun _ => ⟨fun h => (by cases h), fun _ => ⟨fun h => ?_, fun h => ⟨fun h2 => ?_, fun h2 => ?_⟩⟩⟩⟩
  · rw [if_pos (of_decide_eq_true h)]
  · rw [if_neg (of_decide_eq_false h), if_pos (of_decide_eq_true h2)]
  · rw [if_neg (of_decide_eq_false h), if_neg (of_decide_eq_false h2)]

end Go.Proofs.YtdndfbamhnchfaaDoor
