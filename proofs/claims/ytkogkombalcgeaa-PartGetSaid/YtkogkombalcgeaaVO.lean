/- What must hold so that each function ends well: pure predicates, made by program. -/
import Derived.Test.YtkogkombalcgeaaPN
set_option linter.unusedVariables false
set_option linter.unusedSimpArgs false
namespace Go.Proofs.Ytkogkombalcgeaa
open Go.Sy Go.RowKit
def parted_vc  (K : Bool → Prop) : Prop :=
  (((psplitS ([1, 2, 3, 4, 5, 6, 7, 8] : List Int)).1).length ≤ 140737488355328 →
    ((∀ x ∈ ([1, 2, 3, 4, 5, 6, 7, 8] : List Int), 0 ≤ x ∧ x ≤ 255) ∧
    (((psendS ([1, 2, 3, 4, 5, 6, 7, 8] : List Int) 0).1).length ≤ 140737488355328 →
    (((((((psplitS ([1, 2, 3, 4, 5, 6, 7, 8] : List Int)).2) == 0) && (((psendS ([1, 2, 3, 4, 5, 6, 7, 8] : List Int) 0).2.2) == 0)) && ((((psplitS ([1, 2, 3, 4, 5, 6, 7, 8] : List Int)).1).length : Int) == 2)) = true →
      ((0 ≤ (1 : Int) ∧ (1 : Int) < (((psplitS ([1, 2, 3, 4, 5, 6, 7, 8] : List Int)).1).length : Int)) ∧
      (∀ q117, ((psplitS ([1, 2, 3, 4, 5, 6, 7, 8] : List Int)).1)[(1 : Int).toNat]? = some q117 →
      (q117.length ≤ 140737488355328 →
      (((beqS q117 ([33, 7, 8] : List Int)) = true →
        (K ((beqS ((psendS ([1, 2, 3, 4, 5, 6, 7, 8] : List Int) 0).1) ([1, 2, 3, 4, 5, 6, 7, 8] : List Int)) && (((psendS ([1, 2, 3, 4, 5, 6, 7, 8] : List Int) 0).2.1) == 3)))) ∧
      ((beqS q117 ([33, 7, 8] : List Int)) = false →
        (K false))))))) ∧
    ((((((psplitS ([1, 2, 3, 4, 5, 6, 7, 8] : List Int)).2) == 0) && (((psendS ([1, 2, 3, 4, 5, 6, 7, 8] : List Int) 0).2.2) == 0)) && ((((psplitS ([1, 2, 3, 4, 5, 6, 7, 8] : List Int)).1).length : Int) == 2)) = false →
      (K false))))))
theorem parted_mono  {K K1 : Bool → Prop} (hK : ∀ r, K r → K1 r) (h : parted_vc  K) : parted_vc  K1 :=
  fun z0 => ⟨(h z0).1, fun z2 => ⟨fun c3 => ⟨((((h z0).2) z2).1 c3).1, fun q117 z5 => fun z6 => ⟨fun c7 => hK _ ((((((((h z0).2) z2).1 c3).2) q117 z5) z6).1 c7), fun c7 => hK _ ((((((((h z0).2) z2).1 c3).2) q117 z5) z6).2 c7)⟩⟩, fun c3 => hK _ ((((h z0).2) z2).2 c3)⟩⟩

end Go.Proofs.Ytkogkombalcgeaa
