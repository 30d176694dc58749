/- What must hold so that each function ends well: pure predicates, made by program. -/
import Derived.Test.YtinegicenfndkaaDoorPGa
set_option linter.unusedVariables false
set_option linter.unusedSimpArgs false
namespace Go.Proofs.YtinegicenfndkaaDoor
open Go.Sy Go.RowKit
def gsum_vc (u0 : Int) (u1 : List Int) (K : Int → Prop) : Prop :=
  (u1.length ≤ 140737488355328 →
    ((0 ≤ (1 : Int) ∧ (1 : Int) ≤ (u1.length : Int)) ∧
    (((([w8 (bShr .i64 u0 8), w8 u0] : List Int).length + (u1.drop (1 : Int).toNat).length) * 1 ≤ 140737488355328) ∧
    ((∀ x ∈ (([w8 (bShr .i64 u0 8), w8 u0] : List Int) ++ (u1.drop (1 : Int).toNat)), 0 ≤ x ∧ x ≤ 255) ∧
    (K (cbyteS (([w8 (bShr .i64 u0 8), w8 u0] : List Int) ++ (u1.drop (1 : Int).toNat))))))))

/-! Pure proofs: no program in sight. -/
def gsumS (key : Int) (d : List Int) : Int := cbyteS ([w8 (bShr .i64 key 8), w8 key] ++ d.drop 1)
theorem w8_byte (x : Int) : 0 ≤ w8 x ∧ w8 x ≤ 255 := by
  show 0 ≤ IntKind.u8.wrap x ∧ IntKind.u8.wrap x ≤ 255
  rw [IntKind.wrap_u8]
  omega
theorem gsum_bytes (key : Int) (d : List Int) (h : ∀ x ∈ d, 0 ≤ x ∧ x ≤ 255) : ∀ x ∈ [w8 (bShr .i64 key 8), w8 key] ++ d.drop 1, 0 ≤ x ∧ x ≤ 255 := by
  intro x hx
  simp only [List.mem_append, List.mem_cons, List.not_mem_nil, or_false] at hx
  rcases hx with (rfl | rfl) | hx
  · exact w8_byte _
  · exact w8_byte _
  · exact h x (List.mem_of_mem_drop hx)
theorem gsum_ok (key : Int) (d : List Int) (h : (∀ x ∈ d, 0 ≤ x ∧ x ≤ 255) ∧ 1 ≤ d.length ∧ d.length ≤ 1000000) : gsum_vc key d (fun r => r = gsumS key d) := by
  intro hl
  refine ⟨by omega, ?_, gsum_bytes key d h.1, rfl⟩
  rw [List.length_drop]
  simp only [List.length_cons, List.length_nil]
  omega

end Go.Proofs.YtinegicenfndkaaDoor
