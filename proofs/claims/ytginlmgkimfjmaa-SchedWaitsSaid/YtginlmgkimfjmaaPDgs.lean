/- What must hold so that each function ends well: pure predicates, made by program. -/
import Derived.Test.YtginlmgkimfjmaaPDf
set_option linter.unusedVariables false
set_option linter.unusedSimpArgs false
namespace Go.Proofs.Ytginlmgkimfjmaa
open Go.Sy Go.RowKit
def dtasks_vc  (K : (List Task) → Prop) : Prop :=
  (K ([(⟨1, 8, 1000, 1000, 0⟩ : Task), (⟨2, 8, 1000, 1000, 0⟩ : Task)] : List Task))

/-! Pure proofs: no program in sight. -/
theorem dchk_ok (l : List Task) : ∀ last, dchk last l = 0 → ∀ o ∈ l, tok o = true := by
  induction l with
  | nil => intro _ _ o ho; cases ho
  | cons t r ih =>
    intro last h o ho
    rw [dchk] at h
    by_cases h1 : tok t = false
    · rw [if_pos h1] at h; cases h
    · rw [if_neg h1] at h
      by_cases h2 : t.ID ≤ last
      · rw [if_pos h2] at h; cases h
      · rw [if_neg h2] at h
        rcases List.mem_cons.1 ho with rfl | ho
        · simpa using h1
        · exact ih t.ID h o ho
theorem dcheckS_zero {l : List Task} (h : dcheckS l = 0) : l.length ≤ 20 ∧ ∀ o ∈ l, tok o = true := by
  unfold dcheckS at h
  by_cases h1 : 20 < l.length
  · rw [if_pos h1] at h; cases h
  · rw [if_neg h1] at h
    exact ⟨by omega, dchk_ok l _ h⟩
def tasksS : List Task := [⟨1, 8, 1000, 1000, 0⟩, ⟨2, 8, 1000, 1000, 0⟩]
theorem dtasks_ok : dtasks_vc (fun r => r = tasksS) := rfl

end Go.Proofs.Ytginlmgkimfjmaa
