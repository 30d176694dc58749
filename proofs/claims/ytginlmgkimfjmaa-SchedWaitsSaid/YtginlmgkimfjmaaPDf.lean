/- What must hold so that each function ends well: pure predicates, made by program. -/
import Derived.Test.YtginlmgkimfjmaaPDe
set_option linter.unusedVariables false
set_option linter.unusedSimpArgs false
namespace Go.Proofs.Ytginlmgkimfjmaa
open Go.Sy Go.RowKit
def dlong_vc (u0 : Task) (K : Int → Prop) : Prop :=
  (K (w64 (((flongestS false false u0.Bytes).1) + 3)))

/-! Pure proofs: no program in sight. -/
def dlongS (t : Task) : Int := w64 ((flongestS false false t.Bytes).1 + 3)
theorem dlong_ok (t : Task) : dlong_vc t (fun r => r = dlongS t) := rfl
def longB (b : Int) : Int := 34 + 8 * b + (33 + 8 * b) / 4 + 13
theorem longs : ∀ b : Fin 9, w64 ((flongestS false false (b.val : Int)).1 + 3) = longB b.val := by decide +kernel
theorem dlongS_eq {t : Task} (h : tok t = true) : dlongS t = longB t.Bytes ∧ 55 ≤ dlongS t ∧ dlongS t ≤ 135 := by
  have hb := tok_spec h
  have e := longs ⟨t.Bytes.toNat, by omega⟩
  have e2 : ((t.Bytes.toNat : Nat) : Int) = t.Bytes := by omega
  dsimp only at e
  rw [e2] at e
  have e3 : dlongS t = longB t.Bytes := e
  rw [e3]
  refine ⟨rfl, ?_⟩
  unfold longB
  omega
attribute [irreducible] dlongS

end Go.Proofs.Ytginlmgkimfjmaa
