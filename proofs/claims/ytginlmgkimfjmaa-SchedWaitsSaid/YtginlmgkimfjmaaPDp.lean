/- What must hold so that each function ends well: pure predicates, made by program. -/
import Derived.Test.YtginlmgkimfjmaaPDo
set_option linter.unusedVariables false
set_option linter.unusedSimpArgs false
namespace Go.Proofs.Ytginlmgkimfjmaa
open Go.Sy Go.RowKit
def sdel_vc (u0 : List Job) (u1 : Int) (u2 : Int) (K : (List Job) → Prop) : Prop :=
  (u0.length ≤ 140737488355328 →
    ((0 ≤ u1 ∧ u1 ≤ u2 ∧ u2 ≤ (u0.length : Int) ∧ (u0.length : Int) ≤ (u0.length : Int)) ∧
    (((u1 == u2) = true →
      (K u0)) ∧
    ((u1 == u2) = false →
      ((0 ≤ u1 ∧ u1 ≤ (u0.length : Int)) ∧
      ((0 ≤ u2 ∧ u2 ≤ (u0.length : Int)) ∧
      ((u1.toNat ≤ u2.toNat) ∧
      (K (u0.take u1.toNat ++ u0.drop u2.toNat)))))))))

/-! Pure proofs: no program in sight. -/
def sdelS (l : List Job) (i j : Int) : List Job := l.take i.toNat ++ l.drop j.toNat
theorem sdel_ok (l : List Job) (i j : Int) (h : 0 ≤ i ∧ i ≤ j ∧ j ≤ (l.length : Int)) : sdel_vc l i j (fun r => r = sdelS l i j) := by
  intro _
  refine ⟨by omega, fun h1 => ?_, fun _ => ⟨by omega, by omega, by omega, rfl⟩⟩
  have h1 : i = j := by simpa using h1
  subst h1
  unfold sdelS
  rw [List.take_append_drop]
def sstabS (l : List Job) (n : Int) (cmp : Job → Job → Int) : List Job := sortC cmp l
def sstabPre (l : List Job) (n : Int) (cmp : Job → Job → Int) : Prop := n = (l.length : Int) ∧ (∃ key, Keyed cmp key l) ∧ l.length ≤ 1000000
theorem sstab_ok2 (l : List Job) (n : Int) (cmp : Job → Job → Int) (h : sstabPre l n cmp) : sstab_vc l n cmp (fun r => r = sstabS l n cmp) := by
  obtain ⟨h1, ⟨key, h2⟩, h3⟩ := h
  exact sstab_ok l n cmp key h1 h2 h3

end Go.Proofs.Ytginlmgkimfjmaa
