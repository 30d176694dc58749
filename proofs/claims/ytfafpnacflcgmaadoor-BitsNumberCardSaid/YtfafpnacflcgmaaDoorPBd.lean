/- What must hold so that each function ends well: pure predicates, made by program. -/
import Derived.Test.YtfafpnacflcgmaaDoorPBc
set_option linter.unusedVariables false
set_option linter.unusedSimpArgs false
namespace Go.Proofs.YtfafpnacflcgmaaDoor
open Go.Sy Go.RowKit
def rvalue_vc (u0 : List UInt8) (K : BInt → Prop) : Prop :=
  (((u0 != ([] : List UInt8)) = true →
      ((isRow u0 = true ∧ u0 ≠ [] ∧ u0.length ≤ 1000) ∧
      (∀ r30, (gsetstrS (⟨false, []⟩ : BInt) u0) = r30 →
      (r30.2.2.abs.length ≤ 140737488355328 →
      (K r30.2.2))))) ∧
    ((u0 != ([] : List UInt8)) = false →
      (K (⟨false, []⟩ : BInt))))

/-! Pure proofs: no program in sight. -/
def rvalueS (s : List UInt8) : BInt := bigN (val s)
theorem rvalue_ok (s : List UInt8) (h : isRow s = true ∧ s.length ≤ 1000) : rvalue_vc s (fun r => r = rvalueS s) := by
  refine ⟨fun h1 => ?_, fun h1 => ?_⟩
  · refine ⟨⟨h.1, by simpa using h1, h.2⟩, ?_⟩
    rintro _ rfl _
    rfl
  · have h1 : s = [] := by simpa using h1
    subst h1
    unfold rvalueS bigN
    rw [val, ws_zero]

end Go.Proofs.YtfafpnacflcgmaaDoor
