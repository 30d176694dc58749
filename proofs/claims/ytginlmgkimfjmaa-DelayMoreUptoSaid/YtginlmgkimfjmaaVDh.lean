/- What must hold so that each function ends well: pure predicates, made by program. -/
import Derived.Test.YtginlmgkimfjmaaPDg
set_option linter.unusedVariables false
set_option linter.unusedSimpArgs false
namespace Go.Proofs.Ytginlmgkimfjmaa
open Go.Sy Go.RowKit
def dworst_vc (u0 : List Task) (u1 : Int) (K : Int → Prop) : Prop :=
  (u0.length ≤ 140737488355328 →
    ((0 ≤ u1 ∧ u1 < (u0.length : Int)) ∧
    (∀ q28, u0[u1.toNat]? = some q28 →
    ((0 ≤ w64 (u1 + 1) ∧ w64 (u1 + 1) ≤ (u0.length : Int)) ∧
    (∃ inv74 : Int → Int → Prop, ∃ mu74 : Int → Int → Nat, inv74 0 0 ∧
    (∀ (x22 : Int) (yb46c0 : Int), inv74 x22 yb46c0 →
    (((decide (x22 < ((u0.drop (w64 (u1 + 1)).toNat).length : Int))) = true →
      ((0 ≤ x22 ∧ x22 < ((u0.drop (w64 (u1 + 1)).toNat).length : Int)) ∧
      (∀ q98, (u0.drop (w64 (u1 + 1)).toNat)[x22.toNat]? = some q98 →
      (inv74 (w64 (x22 + 1)) (max yb46c0 (dlongS q98)) ∧ mu74 (w64 (x22 + 1)) (max yb46c0 (dlongS q98)) < mu74 x22 yb46c0)))) ∧
    ((decide (x22 < ((u0.drop (w64 (u1 + 1)).toNat).length : Int))) = false →
      ((fixpre (w64 (yb46c0 + (dlongS q28))) (fun x0 => dw1S x0 yb46c0 u0 u1)) ∧
      (((0 ≤ u1 ∧ u1 < (u0.length : Int)) ∧ (∀ o ∈ u0, o.Every ≠ 0) ∧ u0.length ≤ 1000000) ∧
      (((decide ((dfixS (w64 (yb46c0 + (dlongS q28))) (fun x0 => dw1S x0 yb46c0 u0 u1)) < 0)) = true →
        (K (-1))) ∧
      ((decide ((dfixS (w64 (yb46c0 + (dlongS q28))) (fun x0 => dw1S x0 yb46c0 u0 u1)) < 0)) = false →
        ((q28.Every ≠ 0) ∧
        (∃ inv261 : Int → Int → Prop, ∃ mu261 : Int → Int → Nat, inv261 0 0 ∧
        (∀ (x10 : Int) (x42 : Int), inv261 x10 x42 →
        (((decide (x42 < (dasksS q28 (dfixS (w64 (yb46c0 + (dlongS q28))) (fun x0 => dw1S x0 yb46c0 u0 u1)) false))) = true →
          ((fixpre (w64 (yb46c0 + (w64 (x42 * (dlongS q28))))) (fun x0 => dw2S x0 yb46c0 x42 q28 u0 u1)) ∧
          (((0 ≤ u1 ∧ u1 < (u0.length : Int)) ∧ (∀ o ∈ u0, o.Every ≠ 0) ∧ u0.length ≤ 1000000) ∧
          (inv261 (max x10 (w64 ((w64 ((w64 (q28.Jitter + (dfixS (w64 (yb46c0 + (w64 (x42 * (dlongS q28))))) (fun x0 => dw2S x0 yb46c0 x42 q28 u0 u1)))) - (w64 (x42 * q28.Every)))) + (dlongS q28)))) (w64 (x42 + 1)) ∧ mu261 (max x10 (w64 ((w64 ((w64 (q28.Jitter + (dfixS (w64 (yb46c0 + (w64 (x42 * (dlongS q28))))) (fun x0 => dw2S x0 yb46c0 x42 q28 u0 u1)))) - (w64 (x42 * q28.Every)))) + (dlongS q28)))) (w64 (x42 + 1)) < mu261 x10 x42)))) ∧
        ((decide (x42 < (dasksS q28 (dfixS (w64 (yb46c0 + (dlongS q28))) (fun x0 => dw1S x0 yb46c0 u0 u1)) false))) = false →
          (K x10))))))))))))))))))
theorem dworst_mono {u0 : List Task} {u1 : Int} {K K1 : Int → Prop} (hK : ∀ r, K r → K1 r) (h : dworst_vc u0 u1 K) : dworst_vc u0 u1 K1 :=
  fun z0 => ⟨(h z0).1, fun q28 z2 => ⟨(((h z0).2) q28 z2).1, (Exists.elim ((((h z0).2) q28 z2).2) fun i4 e4 => Exists.elim e4 fun m4 g4 => ⟨i4, m4, g4.1, fun x22 yb46c0 z4 => ⟨fun c5 => ⟨((g4.2 x22 yb46c0 z4).1 c5).1, fun q98 z7 => ((((g4.2 x22 yb46c0 z4).1 c5).2) q98 z7)⟩, fun c5 => ⟨((g4.2 x22 yb46c0 z4).2 c5).1, ⟨(((g4.2 x22 yb46c0 z4).2 c5).2).1, ⟨fun c8 => hK _ (((((g4.2 x22 yb46c0 z4).2 c5).2).2).1 c8), fun c8 => ⟨(((((g4.2 x22 yb46c0 z4).2 c5).2).2).2 c8).1, (Exists.elim ((((((g4.2 x22 yb46c0 z4).2 c5).2).2).2 c8).2) fun i10 e10 => Exists.elim e10 fun m10 g10 => ⟨i10, m10, g10.1, fun x10 x42 z10 => ⟨fun c11 => ⟨((g10.2 x10 x42 z10).1 c11).1, ⟨(((g10.2 x10 x42 z10).1 c11).2).1, (((g10.2 x10 x42 z10).1 c11).2).2⟩⟩, fun c11 => hK _ ((g10.2 x10 x42 z10).2 c11)⟩⟩)⟩⟩⟩⟩⟩⟩)⟩⟩

end Go.Proofs.Ytginlmgkimfjmaa
