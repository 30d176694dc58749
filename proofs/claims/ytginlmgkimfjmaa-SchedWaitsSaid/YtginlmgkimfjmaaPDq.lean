/- What must hold so that each function ends well: pure predicates, made by program. -/
import Derived.Test.YtginlmgkimfjmaaPDp
set_option linter.unusedVariables false
set_option linter.unusedSimpArgs false
namespace Go.Proofs.Ytginlmgkimfjmaa
open Go.Sy Go.RowKit
def ssort_vc (u0 : List Job) (u1 : Job → Job → Int) (K : (List Job) → Prop) : Prop :=
  (u0.length ≤ 140737488355328 →
    ((sstabPre u0 (u0.length : Int) u1) ∧
    ((sstabS u0 (u0.length : Int) u1).length ≤ 140737488355328 →
    (((sstabS u0 (u0.length : Int) u1).length = u0.length) ∧
    (K (sstabS u0 (u0.length : Int) u1))))))

def cmpj_vc (u0 : Job) (u1 : Job) (K : Int → Prop) : Prop :=
  (K (w64 (u0.asked - u1.asked)))
def cmpj (u0 : Job) (u1 : Job) : Int :=
  w64 (u0.asked - u1.asked)
theorem cmpj_ok (u0 : Job) (u1 : Job) : cmpj_vc u0 u1 (fun r => r = cmpj u0 u1) := (by rfl)

def ahead_vc (u0 : Job) (u1 : Job) (u2 : Int) (K : Bool → Prop) : Prop :=
  (K ((decide (u0.asked ≤ u2)) && ((decide (u0.task < u1.task)) || ((u0.task == u1.task) && (decide (u0.from_ < u1.from_))))))
def ahead (u0 : Job) (u1 : Job) (u2 : Int) : Bool :=
  (decide (u0.asked ≤ u2)) && ((decide (u0.task < u1.task)) || ((u0.task == u1.task) && (decide (u0.from_ < u1.from_))))
theorem ahead_ok (u0 : Job) (u1 : Job) (u2 : Int) : ahead_vc u0 u1 u2 (fun r => r = ahead u0 u1 u2) := (by rfl)

/-! Pure proofs: no program in sight. -/
def ssortS (l : List Job) (cmp : Job → Job → Int) : List Job := sortC cmp l
def ssortPre (l : List Job) (cmp : Job → Job → Int) : Prop := (∃ key, Keyed cmp key l) ∧ l.length ≤ 1000000
theorem ssort_ok (l : List Job) (cmp : Job → Job → Int) (h : ssortPre l cmp) : ssort_vc l cmp (fun r => r = ssortS l cmp) := by
  intro _
  obtain ⟨⟨key, h1⟩, h2⟩ := h
  refine ⟨⟨rfl, ⟨key, h1⟩, h2⟩, fun _ => ⟨?_, rfl⟩⟩
  exact (sortC_spec h1).2.len

end Go.Proofs.Ytginlmgkimfjmaa
