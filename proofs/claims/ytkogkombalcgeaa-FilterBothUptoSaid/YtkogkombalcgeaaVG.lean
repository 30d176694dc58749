/- What must hold so that each function ends well: pure predicates, made by program. -/
import Derived.Test.YtkogkombalcgeaaPF
set_option linter.unusedVariables false
set_option linter.unusedSimpArgs false
namespace Go.Proofs.Ytkogkombalcgeaa
open Go.Sy Go.RowKit
def fconcat_vc (u0 : List (List Filter)) (K : (List Filter) → Prop) : Prop :=
  (u0.length ≤ 140737488355328 →
    (∃ inv19 : Int → Int → Prop, ∃ mu19 : Int → Int → Nat, inv19 0 0 ∧
    (∀ (x3 : Int) (x11 : Int), inv19 x3 x11 →
    (((decide (x11 < (u0.length : Int))) = true →
      ((0 ≤ x11 ∧ x11 < (u0.length : Int)) ∧
      (∀ q43, u0[x11.toNat]? = some q43 →
      (q43.length ≤ 140737488355328 →
      (((decide ((w64 (x3 + (q43.length : Int))) < 0)) = true →
        False) ∧
      ((decide ((w64 (x3 + (q43.length : Int))) < 0)) = false →
        (inv19 (w64 (x3 + (q43.length : Int))) (w64 (x11 + 1)) ∧ mu19 (w64 (x3 + (q43.length : Int))) (w64 (x11 + 1)) < mu19 x3 x11))))))) ∧
    ((decide (x11 < (u0.length : Int))) = false →
      ((0 ≤ x3 ∧ x3 ≤ 4000000) ∧
      ((fgrowS x3).length ≤ 140737488355328 →
      (∃ inv108 : (List Filter) → Int → Prop, ∃ mu108 : (List Filter) → Int → Nat, inv108 (fgrowS x3) 0 ∧
      (∀ (x6 : List Filter) (x27 : Int), inv108 x6 x27 →
      (((decide (x27 < (u0.length : Int))) = true →
        ((0 ≤ x27 ∧ x27 < (u0.length : Int)) ∧
        (∀ q132, u0[x27.toNat]? = some q132 →
        (q132.length ≤ 140737488355328 →
        (((x6.length + q132.length) * 24 ≤ 140737488355328) ∧
        (inv108 (x6 ++ q132) (w64 (x27 + 1)) ∧ mu108 (x6 ++ q132) (w64 (x27 + 1)) < mu108 x6 x27)))))) ∧
      ((decide (x27 < (u0.length : Int))) = false →
        (K x6))))))))))))
theorem fconcat_mono {u0 : List (List Filter)} {K K1 : (List Filter) → Prop} (hK : ∀ r, K r → K1 r) (h : fconcat_vc u0 K) : fconcat_vc u0 K1 :=
  fun z0 => (Exists.elim (h z0) fun i1 e1 => Exists.elim e1 fun m1 g1 => ⟨i1, m1, g1.1, fun x3 x11 z1 => ⟨fun c2 => ⟨((g1.2 x3 x11 z1).1 c2).1, fun q43 z4 => fun z5 => ⟨fun c6 => ((((((g1.2 x3 x11 z1).1 c2).2) q43 z4) z5).1 c6), fun c6 => ((((((g1.2 x3 x11 z1).1 c2).2) q43 z4) z5).2 c6)⟩⟩, fun c2 => ⟨((g1.2 x3 x11 z1).2 c2).1, fun z4 => (Exists.elim ((((g1.2 x3 x11 z1).2 c2).2) z4) fun i5 e5 => Exists.elim e5 fun m5 g5 => ⟨i5, m5, g5.1, fun x6 x27 z5 => ⟨fun c6 => ⟨((g5.2 x6 x27 z5).1 c6).1, fun q132 z8 => fun z9 => ⟨(((((g5.2 x6 x27 z5).1 c6).2) q132 z8) z9).1, (((((g5.2 x6 x27 z5).1 c6).2) q132 z8) z9).2⟩⟩, fun c6 => hK _ ((g5.2 x6 x27 z5).2 c6)⟩⟩)⟩⟩⟩)

end Go.Proofs.Ytkogkombalcgeaa
