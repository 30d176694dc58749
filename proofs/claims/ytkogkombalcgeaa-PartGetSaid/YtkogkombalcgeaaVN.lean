/- What must hold so that each function ends well: pure predicates, made by program. -/
import Derived.Test.YtkogkombalcgeaaPM
set_option linter.unusedVariables false
set_option linter.unusedSimpArgs false
namespace Go.Proofs.Ytkogkombalcgeaa
open Go.Sy Go.RowKit
def psend_vc (u0 : List Int) (u1 : Int) (K : ((List Int) × Int × Int) → Prop) : Prop :=
  (u0.length ≤ 140737488355328 →
    ((((decide (u1 < 0)) || (decide (u1 > 255))) = true →
      (K (([] : List Int), 0, 3))) ∧
    (((decide (u1 < 0)) || (decide (u1 > 255))) = false →
      ((((pbeginS u0).1).Data).length ≤ 140737488355328 →
      (((pbeginS u0).2.1).length ≤ 140737488355328 →
      (((((pbeginS u0).2.2) != 0) = true →
        (K (([] : List Int), 0, (pbeginS u0).2.2))) ∧
      ((((pbeginS u0).2.2) != 0) = false →
        (∃ inv109 : Int → (List Int) → Getter → Sender → Prop, ∃ mu109 : Int → (List Int) → Getter → Sender → Nat, inv109 0 ((pbeginS u0).2.1) (⟨0, [], 0, u1, 0⟩ : Getter) ((pbeginS u0).1) ∧
        (∀ (x5 : Int) (x8 : List Int) (yb100 : Getter) (yb65 : Sender), inv109 x5 x8 yb100 yb65 →
        ((∀ x ∈ x8, 0 ≤ x ∧ x ≤ 255) ∧
        (((pgetS yb100 x8).2.1).length ≤ 140737488355328 →
        (((pgetS yb100 x8).2.2.1).length ≤ 140737488355328 →
        ((((pgetS yb100 x8).1).Data).length ≤ 140737488355328 →
        (((((pgetS yb100 x8).2.2.2.1) != 0) = true →
          (K (([] : List Int), 0, (pgetS yb100 x8).2.2.2.1))) ∧
        ((((pgetS yb100 x8).2.2.2.1) != 0) = false →
          (((!((pgetS yb100 x8).2.2.2.2.2)) = true →
            (K ((pgetS yb100 x8).2.2.1, w64 (x5 + 1), 0))) ∧
          ((!((pgetS yb100 x8).2.2.2.2.2)) = false →
            (((!((pgetS yb100 x8).2.2.2.2.1)) = true →
              ((((ptold yb65 ((pgetS yb100 x8).2.1)).1).Data).length ≤ 140737488355328 →
              (((((ptold yb65 ((pgetS yb100 x8).2.1)).2) != 0) = true →
                (K (([] : List Int), 0, (ptold yb65 ((pgetS yb100 x8).2.1)).2))) ∧
              ((((ptold yb65 ((pgetS yb100 x8).2.1)).2) != 0) = false →
                (((pnext ((ptold yb65 ((pgetS yb100 x8).2.1)).1)).2.1).length ≤ 140737488355328 →
                ((((pnext ((ptold yb65 ((pgetS yb100 x8).2.1)).1)).1).Data).length ≤ 140737488355328 →
                (((((pnext ((ptold yb65 ((pgetS yb100 x8).2.1)).1)).2.2) != 0) = true →
                  (K (([] : List Int), 0, (pnext ((ptold yb65 ((pgetS yb100 x8).2.1)).1)).2.2))) ∧
                ((((pnext ((ptold yb65 ((pgetS yb100 x8).2.1)).1)).2.2) != 0) = false →
                  (inv109 (w64 ((w64 (x5 + 1)) + 1)) ((pnext ((ptold yb65 ((pgetS yb100 x8).2.1)).1)).2.1) ((pgetS yb100 x8).1) ((pnext ((ptold yb65 ((pgetS yb100 x8).2.1)).1)).1) ∧ mu109 (w64 ((w64 (x5 + 1)) + 1)) ((pnext ((ptold yb65 ((pgetS yb100 x8).2.1)).1)).2.1) ((pgetS yb100 x8).1) ((pnext ((ptold yb65 ((pgetS yb100 x8).2.1)).1)).1) < mu109 x5 x8 yb100 yb65))))))))) ∧
            ((!((pgetS yb100 x8).2.2.2.2.1)) = false →
              (((pnext yb65).2.1).length ≤ 140737488355328 →
              ((((pnext yb65).1).Data).length ≤ 140737488355328 →
              (((((pnext yb65).2.2) != 0) = true →
                (K (([] : List Int), 0, (pnext yb65).2.2))) ∧
              ((((pnext yb65).2.2) != 0) = false →
                (inv109 (w64 (x5 + 1)) ((pnext yb65).2.1) ((pgetS yb100 x8).1) ((pnext yb65).1) ∧ mu109 (w64 (x5 + 1)) ((pnext yb65).2.1) ((pgetS yb100 x8).1) ((pnext yb65).1) < mu109 x5 x8 yb100 yb65))))))))))))))))))))))))
theorem psend_mono {u0 : List Int} {u1 : Int} {K K1 : ((List Int) × Int × Int) → Prop} (hK : ∀ r, K r → K1 r) (h : psend_vc u0 u1 K) : psend_vc u0 u1 K1 :=
  fun z0 => ⟨fun c1 => hK _ ((h z0).1 c1), fun c1 => fun z2 => fun z3 => ⟨fun c4 => hK _ (((((h z0).2 c1) z2) z3).1 c4), fun c4 => (Exists.elim (((((h z0).2 c1) z2) z3).2 c4) fun i5 e5 => Exists.elim e5 fun m5 g5 => ⟨i5, m5, g5.1, fun x5 x8 yb100 yb65 z5 => ⟨(g5.2 x5 x8 yb100 yb65 z5).1, fun z7 => fun z8 => fun z9 => ⟨fun c10 => hK _ ((((((g5.2 x5 x8 yb100 yb65 z5).2) z7) z8) z9).1 c10), fun c10 => ⟨fun c11 => hK _ (((((((g5.2 x5 x8 yb100 yb65 z5).2) z7) z8) z9).2 c10).1 c11), fun c11 => ⟨fun c12 => fun z13 => ⟨fun c14 => hK _ ((((((((((g5.2 x5 x8 yb100 yb65 z5).2) z7) z8) z9).2 c10).2 c11).1 c12) z13).1 c14), fun c14 => fun z15 => fun z16 => ⟨fun c17 => hK _ (((((((((((((g5.2 x5 x8 yb100 yb65 z5).2) z7) z8) z9).2 c10).2 c11).1 c12) z13).2 c14) z15) z16).1 c17), fun c17 => (((((((((((((g5.2 x5 x8 yb100 yb65 z5).2) z7) z8) z9).2 c10).2 c11).1 c12) z13).2 c14) z15) z16).2 c17)⟩⟩, fun c12 => fun z13 => fun z14 => ⟨fun c15 => hK _ (((((((((((g5.2 x5 x8 yb100 yb65 z5).2) z7) z8) z9).2 c10).2 c11).2 c12) z13) z14).1 c15), fun c15 => (((((((((((g5.2 x5 x8 yb100 yb65 z5).2) z7) z8) z9).2 c10).2 c11).2 c12) z13) z14).2 c15)⟩⟩⟩⟩⟩⟩)⟩⟩

end Go.Proofs.Ytkogkombalcgeaa
