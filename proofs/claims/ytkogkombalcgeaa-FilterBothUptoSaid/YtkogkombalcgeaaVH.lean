/- What must hold so that each function ends well: pure predicates, made by program. -/
import Derived.Test.YtkogkombalcgeaaPG
set_option linter.unusedVariables false
set_option linter.unusedSimpArgs false
namespace Go.Proofs.Ytkogkombalcgeaa
open Go.Sy Go.RowKit
def LBoth_vc (u0 : List Filter) (u1 : List Filter) (u2 : Frame) (K : Bool → Prop) : Prop :=
  (u0.length ≤ 140737488355328 →
    (u1.length ≤ 140737488355328 →
    (u2.Data.length ≤ 140737488355328 →
    (((finS u0 u2).1).length ≤ 140737488355328 →
    (((finS u1 u2).1).length ≤ 140737488355328 →
    (((∀ l ∈ ([u0, u1] : List (List Filter)), l.length ≤ 1048576) ∧ ([u0, u1] : List (List Filter)).length ≤ 2) ∧
    (((((((finS u0 u2).2) != 0) || (((finS u1 u2).2) != 0)) || (((finS (fconcatS ([u0, u1] : List (List Filter))) u2).2) != 0)) = true →
      (K true)) ∧
    ((((((finS u0 u2).2) != 0) || (((finS u1 u2).2) != 0)) || (((finS (fconcatS ([u0, u1] : List (List Filter))) u2).2) != 0)) = false →
      (∃ inv309 : (List Int) → Int → Prop, ∃ mu309 : (List Int) → Int → Nat, inv309 ((finS u0 u2).1) 0 ∧
      (∀ (x7 : List Int) (x55 : Int), inv309 x7 x55 →
      (((decide (x55 < (((finS u1 u2).1).length : Int))) = true →
        ((0 ≤ x55 ∧ x55 < (((finS u1 u2).1).length : Int)) ∧
        (∀ q338, ((finS u1 u2).1)[x55.toNat]? = some q338 →
        (((x7.length + 1) * 8 ≤ 140737488355328) ∧
        (inv309 (x7 ++ [w64 ((u0.length : Int) + q338)]) (w64 (x55 + 1)) ∧ mu309 (x7 ++ [w64 ((u0.length : Int) + q338)]) (w64 (x55 + 1)) < mu309 x7 x55))))) ∧
      ((decide (x55 < (((finS u1 u2).1).length : Int))) = false →
        (((∀ l ∈ ([u0, u1] : List (List Filter)), l.length ≤ 1048576) ∧ ([u0, u1] : List (List Filter)).length ≤ 2) ∧
        (K ((((sequalS x7 ((finS (fconcatS ([u0, u1] : List (List Filter))) u2).1)) && (((fCountS (fconcatS ([u0, u1] : List (List Filter))) u2.Long).2) == 0)) && (((fCountS u0 u2.Long).2) == 0)) && (decide (((fCountS (fconcatS ([u0, u1] : List (List Filter))) u2.Long).1) ≥ ((fCountS u0 u2.Long).1))))))))))))))))))
theorem LBoth_mono {u0 : List Filter} {u1 : List Filter} {u2 : Frame} {K K1 : Bool → Prop} (hK : ∀ r, K r → K1 r) (h : LBoth_vc u0 u1 u2 K) : LBoth_vc u0 u1 u2 K1 :=
  fun z0 => fun z1 => fun z2 => fun z3 => fun z4 => ⟨(((((h z0) z1) z2) z3) z4).1, ⟨fun c6 => hK _ (((((((h z0) z1) z2) z3) z4).2).1 c6), fun c6 => (Exists.elim (((((((h z0) z1) z2) z3) z4).2).2 c6) fun i7 e7 => Exists.elim e7 fun m7 g7 => ⟨i7, m7, g7.1, fun x7 x55 z7 => ⟨fun c8 => ⟨((g7.2 x7 x55 z7).1 c8).1, fun q338 z10 => ⟨((((g7.2 x7 x55 z7).1 c8).2) q338 z10).1, ((((g7.2 x7 x55 z7).1 c8).2) q338 z10).2⟩⟩, fun c8 => ⟨((g7.2 x7 x55 z7).2 c8).1, hK _ (((g7.2 x7 x55 z7).2 c8).2)⟩⟩⟩)⟩⟩

end Go.Proofs.Ytkogkombalcgeaa
