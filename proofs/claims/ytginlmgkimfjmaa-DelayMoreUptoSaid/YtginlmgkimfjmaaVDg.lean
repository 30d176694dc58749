/- What must hold so that each function ends well: pure predicates, made by program. -/
import Derived.Test.YtginlmgkimfjmaaPDf
set_option linter.unusedVariables false
set_option linter.unusedSimpArgs false
namespace Go.Proofs.Ytginlmgkimfjmaa
open Go.Sy Go.RowKit
def dw1_vc (u0 : Int) (u1 : Int) (u2 : List Task) (u3 : Int) (K : Int → Prop) : Prop :=
  ((0 ≤ w64 (u3 + 1) ∧ w64 (u3 + 1) ≤ (u2.length : Int)) ∧
    (∃ inv41 : Int → Int → Prop, ∃ mu41 : Int → Int → Nat, inv41 u1 0 ∧
    (∀ (x6 : Int) (x15 : Int), inv41 x6 x15 →
    (((decide (x15 < ((u2.take (w64 (u3 + 1)).toNat).length : Int))) = true →
      ((0 ≤ x15 ∧ x15 < ((u2.take (w64 (u3 + 1)).toNat).length : Int)) ∧
      (∀ q65, (u2.take (w64 (u3 + 1)).toNat)[x15.toNat]? = some q65 →
      ((q65.Every ≠ 0) ∧
      (inv41 (w64 (x6 + (w64 ((dasksS q65 u0 false) * (dlongS q65))))) (w64 (x15 + 1)) ∧ mu41 (w64 (x6 + (w64 ((dasksS q65 u0 false) * (dlongS q65))))) (w64 (x15 + 1)) < mu41 x6 x15))))) ∧
    ((decide (x15 < ((u2.take (w64 (u3 + 1)).toNat).length : Int))) = false →
      (K x6))))))
theorem dw1_mono {u0 : Int} {u1 : Int} {u2 : List Task} {u3 : Int} {K K1 : Int → Prop} (hK : ∀ r, K r → K1 r) (h : dw1_vc u0 u1 u2 u3 K) : dw1_vc u0 u1 u2 u3 K1 :=
  ⟨h.1, (Exists.elim h.2 fun i1 e1 => Exists.elim e1 fun m1 g1 => ⟨i1, m1, g1.1, fun x6 x15 z1 => ⟨fun c2 => ⟨((g1.2 x6 x15 z1).1 c2).1, fun q65 z4 => ⟨((((g1.2 x6 x15 z1).1 c2).2) q65 z4).1, ((((g1.2 x6 x15 z1).1 c2).2) q65 z4).2⟩⟩, fun c2 => hK _ ((g1.2 x6 x15 z1).2 c2)⟩⟩)⟩

def dw2_vc (u0 : Int) (u1 : Int) (u2 : Int) (u3 : Task) (u4 : List Task) (u5 : Int) (K : Int → Prop) : Prop :=
  ((0 ≤ u5 ∧ u5 ≤ (u4.length : Int)) ∧
    (∃ inv65 : Int → Int → Prop, ∃ mu65 : Int → Int → Nat, inv65 (w64 (u1 + (w64 (u2 * (dlongS u3))))) 0 ∧
    (∀ (x8 : Int) (x21 : Int), inv65 x8 x21 →
    (((decide (x21 < ((u4.take u5.toNat).length : Int))) = true →
      ((0 ≤ x21 ∧ x21 < ((u4.take u5.toNat).length : Int)) ∧
      (∀ q89, (u4.take u5.toNat)[x21.toNat]? = some q89 →
      ((q89.Every ≠ 0) ∧
      (inv65 (w64 (x8 + (w64 ((dasksS q89 u0 true) * (dlongS q89))))) (w64 (x21 + 1)) ∧ mu65 (w64 (x8 + (w64 ((dasksS q89 u0 true) * (dlongS q89))))) (w64 (x21 + 1)) < mu65 x8 x21))))) ∧
    ((decide (x21 < ((u4.take u5.toNat).length : Int))) = false →
      (K x8))))))
theorem dw2_mono {u0 : Int} {u1 : Int} {u2 : Int} {u3 : Task} {u4 : List Task} {u5 : Int} {K K1 : Int → Prop} (hK : ∀ r, K r → K1 r) (h : dw2_vc u0 u1 u2 u3 u4 u5 K) : dw2_vc u0 u1 u2 u3 u4 u5 K1 :=
  ⟨h.1, (Exists.elim h.2 fun i1 e1 => Exists.elim e1 fun m1 g1 => ⟨i1, m1, g1.1, fun x8 x21 z1 => ⟨fun c2 => ⟨((g1.2 x8 x21 z1).1 c2).1, fun q89 z4 => ⟨((((g1.2 x8 x21 z1).1 c2).2) q89 z4).1, ((((g1.2 x8 x21 z1).1 c2).2) q89 z4).2⟩⟩, fun c2 => hK _ ((g1.2 x8 x21 z1).2 c2)⟩⟩)⟩

end Go.Proofs.Ytginlmgkimfjmaa
