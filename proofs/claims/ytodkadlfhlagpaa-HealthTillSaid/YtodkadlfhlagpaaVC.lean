/- What must hold so that each function ends well: pure predicates, made by program. -/
import Derived.Test.YtodkadlfhlagpaaPB
set_option linter.unusedVariables false
set_option linter.unusedSimpArgs false
namespace Go.Proofs.Ytodkadlfhlagpaa
open Go.Sy Go.RowKit
def HStep_vc (u0 : Health) (u1 : List Int) (K : Bool → Prop) : Prop :=
  (u1.length ≤ 140737488355328 →
    ((((hcheck u0) != (rcheckh u0)) = true →
      (K false)) ∧
    (((hcheck u0) != (rcheckh u0)) = false →
      ((((rcheckh u0) != 0) = true →
        (K (((((((hstepS u0 u1).2.2) == (rcheckh u0)) && (((hState u0).2) == (rcheckh u0))) && (((((hstepS u0 u1).1).Sent) == 0) && (((((hstepS u0 u1).1).Got) == 0) && (((((hstepS u0 u1).1).Rest) == 0) && true)))) && (((hstepS u0 u1).2.1) == 0)) && (((hState u0).1) == 0)))) ∧
      (((rcheckh u0) != 0) = false →
        ((((((hState u0).2) != 0) || (((hState u0).1) != (rstate u0))) = true →
          (K false)) ∧
        (((((hState u0).2) != 0) || (((hState u0).1) != (rstate u0))) = false →
          (((decide ((u1.length : Int) > 1000)) = true →
            (K (((((hstepS u0 u1).2.2) == 2) && (((((hstepS u0 u1).1).Sent) == 0) && (((((hstepS u0 u1).1).Got) == 0) && (((((hstepS u0 u1).1).Rest) == 0) && true)))) && (((hstepS u0 u1).2.1) == 0)))) ∧
          ((decide ((u1.length : Int) > 1000)) = false →
            (∃ inv226 : Int → Health → Prop, ∃ mu226 : Int → Health → Nat, inv226 0 u0 ∧
            (∀ (x84 : Int) (yb6 : Health), inv226 x84 yb6 →
            (((decide (x84 < (u1.length : Int))) = true →
              ((0 ≤ x84 ∧ x84 < (u1.length : Int)) ∧
              (∀ q252, u1[x84.toNat]? = some q252 →
              (((!((rstep yb6 q252).2)) = true →
                (K (((((hstepS u0 u1).2.2) == 8) && (((hstepS u0 u1).2.1) == x84)) && (((((hstepS u0 u1).1).Sent) == 0) && (((((hstepS u0 u1).1).Got) == 0) && (((((hstepS u0 u1).1).Rest) == 0) && true)))))) ∧
              ((!((rstep yb6 q252).2)) = false →
                (inv226 (w64 (x84 + 1)) ((rstep yb6 q252).1) ∧ mu226 (w64 (x84 + 1)) ((rstep yb6 q252).1) < mu226 x84 yb6)))))) ∧
            ((decide (x84 < (u1.length : Int))) = false →
              (K (((((hstepS u0 u1).2.2) == 0) && (((hstepS u0 u1).2.1) == 0)) && (((((hstepS u0 u1).1).Sent) == yb6.Sent) && (((((hstepS u0 u1).1).Got) == yb6.Got) && (((((hstepS u0 u1).1).Rest) == yb6.Rest) && true))))))))))))))))))
theorem HStep_mono {u0 : Health} {u1 : List Int} {K K1 : Bool → Prop} (hK : ∀ r, K r → K1 r) (h : HStep_vc u0 u1 K) : HStep_vc u0 u1 K1 :=
  fun z0 => ⟨fun c1 => hK _ ((h z0).1 c1), fun c1 => ⟨fun c2 => hK _ (((h z0).2 c1).1 c2), fun c2 => ⟨fun c3 => hK _ ((((h z0).2 c1).2 c2).1 c3), fun c3 => ⟨fun c4 => hK _ (((((h z0).2 c1).2 c2).2 c3).1 c4), fun c4 => (Exists.elim (((((h z0).2 c1).2 c2).2 c3).2 c4) fun i5 e5 => Exists.elim e5 fun m5 g5 => ⟨i5, m5, g5.1, fun x84 yb6 z5 => ⟨fun c6 => ⟨((g5.2 x84 yb6 z5).1 c6).1, fun q252 z8 => ⟨fun c9 => hK _ (((((g5.2 x84 yb6 z5).1 c6).2) q252 z8).1 c9), fun c9 => (((((g5.2 x84 yb6 z5).1 c6).2) q252 z8).2 c9)⟩⟩, fun c6 => hK _ ((g5.2 x84 yb6 z5).2 c6)⟩⟩)⟩⟩⟩⟩

def HTill_vc (u0 : Health) (K : Bool → Prop) : Prop :=
  ((((rcheckh u0) != 0) = true →
      (K ((((hTill u0).2) == (rcheckh u0)) && (((hTill u0).1) == 0)))) ∧
    (((rcheckh u0) != 0) = false →
      ((((((((hTill u0).2) != 0) || (decide (((hTill u0).1) < 0))) || (decide (((hTill u0).1) > 32))) || ((((hTill u0).1) == 0) != ((rstate u0) == 2))) = true →
        (K false)) ∧
      (((((((hTill u0).2) != 0) || (decide (((hTill u0).1) < 0))) || (decide (((hTill u0).1) > 32))) || ((((hTill u0).1) == 0) != ((rstate u0) == 2))) = false →
        (∃ inv148 : Int → Health → Prop, ∃ mu148 : Int → Health → Nat, inv148 0 u0 ∧
        (∀ (x51 : Int) (yb134 : Health), inv148 x51 yb134 →
        (((decide (x51 < ((hTill u0).1))) = true →
          ((((rstate yb134) == 2) = true →
            (K (x51 == ((hTill u0).1)))) ∧
          (((rstate yb134) == 2) = false →
            (inv148 (w64 (x51 + 1)) ((rstep yb134 3).1) ∧ mu148 (w64 (x51 + 1)) ((rstep yb134 3).1) < mu148 x51 yb134)))) ∧
        ((decide (x51 < ((hTill u0).1))) = false →
          (K ((rstate yb134) == 2))))))))))
theorem HTill_mono {u0 : Health} {K K1 : Bool → Prop} (hK : ∀ r, K r → K1 r) (h : HTill_vc u0 K) : HTill_vc u0 K1 :=
  ⟨fun c0 => hK _ (h.1 c0), fun c0 => ⟨fun c1 => hK _ ((h.2 c0).1 c1), fun c1 => (Exists.elim ((h.2 c0).2 c1) fun i2 e2 => Exists.elim e2 fun m2 g2 => ⟨i2, m2, g2.1, fun x51 yb134 z2 => ⟨fun c3 => ⟨fun c4 => hK _ (((g2.2 x51 yb134 z2).1 c3).1 c4), fun c4 => (((g2.2 x51 yb134 z2).1 c3).2 c4)⟩, fun c3 => hK _ ((g2.2 x51 yb134 z2).2 c3)⟩⟩)⟩⟩

def HRests_vc (u0 : Health) (u1 : List Int) (K : Bool → Prop) : Prop :=
  (u1.length ≤ 140737488355328 →
    (((((hstepS u0 u1).2.2) != 0) = true →
      (K true)) ∧
    ((((hstepS u0 u1).2.2) != 0) = false →
      ((((hcheck ((hstepS u0 u1).1)) != 0) = true →
        (K false)) ∧
      (((hcheck ((hstepS u0 u1).1)) != 0) = false →
        ((([3] : List Int).length * (32 : Int).toNat ≤ 1000000 ∧ ([3] : List Int).length ≤ 1000000 ∧ 0 ≤ (32 : Int) ∧ (32 : Int) ≤ 1000000) ∧
        (((((hstepS u0 (srepS ([3] : List Int) 32)).2.2) != 0) = true →
          (K false)) ∧
        ((((hstepS u0 (srepS ([3] : List Int) 32)).2.2) != 0) = false →
          (∃ inv286 : (List Int) → Int → Prop, ∃ mu286 : (List Int) → Int → Nat, inv286 ([] : List Int) 0 ∧
          (∀ (x10 : List Int) (x47 : Int), inv286 x10 x47 →
          (((decide (x47 < (u1.length : Int))) = true →
            ((0 ≤ x47 ∧ x47 < (u1.length : Int)) ∧
            (∀ q311, u1[x47.toNat]? = some q311 →
            (((q311 != 6) = true →
              (((x10.length + 1) * 8 ≤ 140737488355328) ∧
              (inv286 (x10 ++ [q311]) (w64 (x47 + 1)) ∧ mu286 (x10 ++ [q311]) (w64 (x47 + 1)) < mu286 x10 x47))) ∧
            ((q311 != 6) = false →
              (inv286 x10 (w64 (x47 + 1)) ∧ mu286 x10 (w64 (x47 + 1)) < mu286 x10 x47)))))) ∧
          ((decide (x47 < (u1.length : Int))) = false →
            ((([6] : List Int).length * (w64 (128 - (((hstepS u0 (srepS ([3] : List Int) 32)).1).Rest))).toNat ≤ 1000000 ∧ ([6] : List Int).length ≤ 1000000 ∧ 0 ≤ (w64 (128 - (((hstepS u0 (srepS ([3] : List Int) 32)).1).Rest))) ∧ (w64 (128 - (((hstepS u0 (srepS ([3] : List Int) 32)).1).Rest))) ≤ 1000000) ∧
            (K ((((((hstepS ((hstepS u0 (srepS ([3] : List Int) 32)).1) x10).2.2) == 0) && (((hstepS ((hstepS u0 (srepS ([3] : List Int) 32)).1) (srepS ([6] : List Int) (w64 (128 - (((hstepS u0 (srepS ([3] : List Int) 32)).1).Rest))))).2.2) == 0)) && (((((hstepS ((hstepS u0 (srepS ([3] : List Int) 32)).1) x10).1).Sent) == (((hstepS u0 (srepS ([3] : List Int) 32)).1).Sent)) && (((((hstepS ((hstepS u0 (srepS ([3] : List Int) 32)).1) x10).1).Got) == (((hstepS u0 (srepS ([3] : List Int) 32)).1).Got)) && (((((hstepS ((hstepS u0 (srepS ([3] : List Int) 32)).1) x10).1).Rest) == (((hstepS u0 (srepS ([3] : List Int) 32)).1).Rest)) && true)))) && (((((hstepS ((hstepS u0 (srepS ([3] : List Int) 32)).1) (srepS ([6] : List Int) (w64 (128 - (((hstepS u0 (srepS ([3] : List Int) 32)).1).Rest))))).1).Sent) == 0) && (((((hstepS ((hstepS u0 (srepS ([3] : List Int) 32)).1) (srepS ([6] : List Int) (w64 (128 - (((hstepS u0 (srepS ([3] : List Int) 32)).1).Rest))))).1).Got) == 0) && (((((hstepS ((hstepS u0 (srepS ([3] : List Int) 32)).1) (srepS ([6] : List Int) (w64 (128 - (((hstepS u0 (srepS ([3] : List Int) 32)).1).Rest))))).1).Rest) == 0) && true))))))))))))))))))
theorem HRests_mono {u0 : Health} {u1 : List Int} {K K1 : Bool → Prop} (hK : ∀ r, K r → K1 r) (h : HRests_vc u0 u1 K) : HRests_vc u0 u1 K1 :=
  fun z0 => ⟨fun c1 => hK _ ((h z0).1 c1), fun c1 => ⟨fun c2 => hK _ (((h z0).2 c1).1 c2), fun c2 => ⟨(((h z0).2 c1).2 c2).1, ⟨fun c4 => hK _ (((((h z0).2 c1).2 c2).2).1 c4), fun c4 => (Exists.elim (((((h z0).2 c1).2 c2).2).2 c4) fun i5 e5 => Exists.elim e5 fun m5 g5 => ⟨i5, m5, g5.1, fun x10 x47 z5 => ⟨fun c6 => ⟨((g5.2 x10 x47 z5).1 c6).1, fun q311 z8 => ⟨fun c9 => ⟨(((((g5.2 x10 x47 z5).1 c6).2) q311 z8).1 c9).1, (((((g5.2 x10 x47 z5).1 c6).2) q311 z8).1 c9).2⟩, fun c9 => (((((g5.2 x10 x47 z5).1 c6).2) q311 z8).2 c9)⟩⟩, fun c6 => ⟨((g5.2 x10 x47 z5).2 c6).1, hK _ (((g5.2 x10 x47 z5).2 c6).2)⟩⟩⟩)⟩⟩⟩⟩

end Go.Proofs.Ytodkadlfhlagpaa
