/- What must hold so that each function ends well: pure predicates, made by program. -/
import Derived.Test.YtginlmgkimfjmaaPDj
set_option linter.unusedVariables false
set_option linter.unusedSimpArgs false
namespace Go.Proofs.Ytginlmgkimfjmaa
open Go.Sy Go.RowKit
def LMore_vc (u0 : List Task) (u1 : Task) (K : Bool → Prop) : Prop :=
  (u0.length ≤ 140737488355328 →
    (((WorstS u0).1).length ≤ 140737488355328 →
    ((u0.length ≤ 2000000) ∧
    ((((tcloneS u0).length + 1) * 40 ≤ 140737488355328) ∧
    ((((((WorstS u0).2) != 0) || (((WorstS ((tcloneS u0) ++ [u1])).2) != 0)) = true →
      (K true)) ∧
    (((((WorstS u0).2) != 0) || (((WorstS ((tcloneS u0) ++ [u1])).2) != 0)) = false →
      (∃ inv237 : Int → Prop, ∃ mu237 : Int → Nat, inv237 0 ∧
      (∀ (x37 : Int), inv237 x37 →
      (((decide (x37 < (((WorstS u0).1).length : Int))) = true →
        ((0 ≤ x37 ∧ x37 < (((WorstS ((tcloneS u0) ++ [u1])).1).length : Int)) ∧
        (∀ q284, ((WorstS ((tcloneS u0) ++ [u1])).1)[x37.toNat]? = some q284 →
        ((0 ≤ x37 ∧ x37 < (((WorstS u0).1).length : Int)) ∧
        (∀ q317, ((WorstS u0).1)[x37.toNat]? = some q317 →
        ((0 ≤ x37 ∧ x37 < (((WorstS u0).1).length : Int)) ∧
        (∀ q352, ((WorstS u0).1)[x37.toNat]? = some q352 →
        ((0 ≤ x37 ∧ x37 < (((WorstS ((tcloneS u0) ++ [u1])).1).length : Int)) ∧
        (∀ q380, ((WorstS ((tcloneS u0) ++ [u1])).1)[x37.toNat]? = some q380 →
        ((((decide (q284.Wait ≥ 0)) && ((decide (q317.Wait < 0)) || (decide (q352.Wait > q380.Wait)))) = true →
          (K false)) ∧
        (((decide (q284.Wait ≥ 0)) && ((decide (q317.Wait < 0)) || (decide (q352.Wait > q380.Wait)))) = false →
          (inv237 (w64 (x37 + 1)) ∧ mu237 (w64 (x37 + 1)) < mu237 x37)))))))))))) ∧
      ((decide (x37 < (((WorstS u0).1).length : Int))) = false →
        (K true)))))))))))
theorem LMore_mono {u0 : List Task} {u1 : Task} {K K1 : Bool → Prop} (hK : ∀ r, K r → K1 r) (h : LMore_vc u0 u1 K) : LMore_vc u0 u1 K1 :=
  fun z0 => fun z1 => ⟨((h z0) z1).1, ⟨(((h z0) z1).2).1, ⟨fun c4 => hK _ (((((h z0) z1).2).2).1 c4), fun c4 => (Exists.elim (((((h z0) z1).2).2).2 c4) fun i5 e5 => Exists.elim e5 fun m5 g5 => ⟨i5, m5, g5.1, fun x37 z5 => ⟨fun c6 => ⟨((g5.2 x37 z5).1 c6).1, fun q284 z8 => ⟨((((g5.2 x37 z5).1 c6).2) q284 z8).1, fun q317 z10 => ⟨((((((g5.2 x37 z5).1 c6).2) q284 z8).2) q317 z10).1, fun q352 z12 => ⟨((((((((g5.2 x37 z5).1 c6).2) q284 z8).2) q317 z10).2) q352 z12).1, fun q380 z14 => ⟨fun c15 => hK _ (((((((((((g5.2 x37 z5).1 c6).2) q284 z8).2) q317 z10).2) q352 z12).2) q380 z14).1 c15), fun c15 => (((((((((((g5.2 x37 z5).1 c6).2) q284 z8).2) q317 z10).2) q352 z12).2) q380 z14).2 c15)⟩⟩⟩⟩⟩, fun c6 => hK _ ((g5.2 x37 z5).2 c6)⟩⟩)⟩⟩⟩

end Go.Proofs.Ytginlmgkimfjmaa
