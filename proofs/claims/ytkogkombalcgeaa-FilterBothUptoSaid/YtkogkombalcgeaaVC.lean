/- What must hold so that each function ends well: pure predicates, made by program. -/
import Derived.Test.YtkogkombalcgeaaPB
set_option linter.unusedVariables false
set_option linter.unusedSimpArgs false
namespace Go.Proofs.Ytkogkombalcgeaa
open Go.Sy Go.RowKit
def fCount_vc (u0 : List Filter) (u1 : Bool) (K : (Int × Int) → Prop) : Prop :=
  (u0.length ≤ 140737488355328 →
    ((((fcheckS u0) != 0) = true →
      (K (0, (fcheckS u0)))) ∧
    (((fcheckS u0) != 0) = false →
      (∃ inv45 : (List Filter) → Int → Prop, ∃ mu45 : (List Filter) → Int → Nat, inv45 ([] : List Filter) 0 ∧
      (∀ (x7 : List Filter) (x17 : Int), inv45 x7 x17 →
      (((decide (x17 < (u0.length : Int))) = true →
        ((0 ≤ x17 ∧ x17 < (u0.length : Int)) ∧
        (∀ q70, u0[x17.toNat]? = some q70 →
        (((q70.Long == u1) = true →
          (((x7.length + 1) * 24 ≤ 140737488355328) ∧
          (inv45 (x7 ++ [q70]) (w64 (x17 + 1)) ∧ mu45 (x7 ++ [q70]) (w64 (x17 + 1)) < mu45 x7 x17))) ∧
        ((q70.Long == u1) = false →
          (inv45 x7 (w64 (x17 + 1)) ∧ mu45 x7 (w64 (x17 + 1)) < mu45 x7 x17)))))) ∧
      ((decide (x17 < (u0.length : Int))) = false →
        ((cpre x7 (ftop u1) (0 : Int) (0 : Int)) ∧
        (K ((countS x7 (ftop u1) 0 0), 0))))))))))
theorem fCount_mono {u0 : List Filter} {u1 : Bool} {K K1 : (Int × Int) → Prop} (hK : ∀ r, K r → K1 r) (h : fCount_vc u0 u1 K) : fCount_vc u0 u1 K1 :=
  fun z0 => ⟨fun c1 => hK _ ((h z0).1 c1), fun c1 => (Exists.elim ((h z0).2 c1) fun i2 e2 => Exists.elim e2 fun m2 g2 => ⟨i2, m2, g2.1, fun x7 x17 z2 => ⟨fun c3 => ⟨((g2.2 x7 x17 z2).1 c3).1, fun q70 z5 => ⟨fun c6 => ⟨(((((g2.2 x7 x17 z2).1 c3).2) q70 z5).1 c6).1, (((((g2.2 x7 x17 z2).1 c3).2) q70 z5).1 c6).2⟩, fun c6 => (((((g2.2 x7 x17 z2).1 c3).2) q70 z5).2 c6)⟩⟩, fun c3 => ⟨((g2.2 x7 x17 z2).2 c3).1, hK _ (((g2.2 x7 x17 z2).2 c3).2)⟩⟩⟩)⟩

end Go.Proofs.Ytkogkombalcgeaa
