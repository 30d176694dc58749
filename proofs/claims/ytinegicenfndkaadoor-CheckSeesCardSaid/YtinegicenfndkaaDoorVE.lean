/- What must hold so that each function ends well: pure predicates, made by program. -/
import Derived.Test.YtinegicenfndkaaDoorPD
set_option linter.unusedVariables false
set_option linter.unusedSimpArgs false
namespace Go.Proofs.YtinegicenfndkaaDoor
open Go.Sy Go.RowKit
def LSees_vc (u0 : Int) (u1 : List UInt8) (u2 : Int) (u3 : List UInt8) (K : Bool → Prop) : Prop :=
  (((((((csumS u0 u1).2) != 0) || (((csize u0).2) != 0)) || ((bcheckS u3) != 0)) = true →
      (K true)) ∧
    ((((((csumS u0 u1).2) != 0) || (((csize u0).2) != 0)) || ((bcheckS u3) != 0)) = false →
      ((([49] : List UInt8).length = 1) ∧
      (((((((!(contS u3 ([49] : List UInt8))) || (decide ((u3.length : Int) > ((csize u0).1)))) || (decide ((w64 ((u1.length : Int) + ((csize u0).1))) > 1000))) || (decide (u2 < 0))) || (decide (u2 > (w64 ((w64 ((u1.length : Int) + ((csize u0).1))) - (u3.length : Int)))))) = true →
        (K true)) ∧
      ((((((!(contS u3 ([49] : List UInt8))) || (decide ((u3.length : Int) > ((csize u0).1)))) || (decide ((w64 ((u1.length : Int) + ((csize u0).1))) > 1000))) || (decide (u2 < 0))) || (decide (u2 > (w64 ((w64 ((u1.length : Int) + ((csize u0).1))) - (u3.length : Int)))))) = false →
        (((u1.length : Int) + (((csumS u0 u1).1).length : Int) ≤ 9223372036854775807) ∧
        (((u1 ++ ((csumS u0 u1).1)).length ≤ 140737488355328) ∧
        (∃ inv270 : Int → (List Int) → Prop, ∃ mu270 : Int → (List Int) → Nat, inv270 0 (istr (u1 ++ ((csumS u0 u1).1))) ∧
        (∀ (x83 : Int) (zao253 : List Int), inv270 x83 zao253 →
        (((decide (x83 < (u3.length : Int))) = true →
          ((0 ≤ x83 ∧ x83 < (u3.length : Int)) ∧
          (∀ c300, u3[x83.toNat]? = some c300 →
          ((((c300.toNat : Int) == 49) = true →
            ((0 ≤ w64 (u2 + x83) ∧ w64 (u2 + x83) < (zao253.length : Int)) ∧
            (∀ q326, zao253[(w64 (u2 + x83)).toNat]? = some q326 →
            ((0 ≤ w64 (u2 + x83) ∧ w64 (u2 + x83) < (zao253.length : Int)) ∧
            (inv270 (w64 (x83 + 1)) (zao253.set (w64 (u2 + x83)).toNat (bXor .u8 q326 1)) ∧ mu270 (w64 (x83 + 1)) (zao253.set (w64 (u2 + x83)).toNat (bXor .u8 q326 1)) < mu270 x83 zao253))))) ∧
          (((c300.toNat : Int) == 49) = false →
            (inv270 (w64 (x83 + 1)) zao253 ∧ mu270 (w64 (x83 + 1)) zao253 < mu270 x83 zao253)))))) ∧
        ((decide (x83 < (u3.length : Int))) = false →
          (((u1.length : Int) + (((csumS u0 u1).1).length : Int) ≤ 9223372036854775807) ∧
          (K ((((((choldsS u0 (u1 ++ ((csumS u0 u1).1))).2) == 0) && (((choldsS u0 (bstr zao253)).2) == 0)) && ((choldsS u0 (u1 ++ ((csumS u0 u1).1))).1)) && (!((choldsS u0 (bstr zao253)).1))))))))))))))))
theorem LSees_mono {u0 : Int} {u1 : List UInt8} {u2 : Int} {u3 : List UInt8} {K K1 : Bool → Prop} (hK : ∀ r, K r → K1 r) (h : LSees_vc u0 u1 u2 u3 K) : LSees_vc u0 u1 u2 u3 K1 :=
  ⟨fun c0 => hK _ (h.1 c0), fun c0 => ⟨(h.2 c0).1, ⟨fun c2 => hK _ (((h.2 c0).2).1 c2), fun c2 => ⟨(((h.2 c0).2).2 c2).1, ⟨((((h.2 c0).2).2 c2).2).1, (Exists.elim (((((h.2 c0).2).2 c2).2).2) fun i5 e5 => Exists.elim e5 fun m5 g5 => ⟨i5, m5, g5.1, fun x83 zao253 z5 => ⟨fun c6 => ⟨((g5.2 x83 zao253 z5).1 c6).1, fun y8 z8 => ⟨fun c9 => ⟨(((((g5.2 x83 zao253 z5).1 c6).2) y8 z8).1 c9).1, fun y11 z11 => ⟨(((((((g5.2 x83 zao253 z5).1 c6).2) y8 z8).1 c9).2) y11 z11).1, (((((((g5.2 x83 zao253 z5).1 c6).2) y8 z8).1 c9).2) y11 z11).2⟩⟩, fun c9 => (((((g5.2 x83 zao253 z5).1 c6).2) y8 z8).2 c9)⟩⟩, fun c6 => ⟨((g5.2 x83 zao253 z5).2 c6).1, hK _ (((g5.2 x83 zao253 z5).2 c6).2)⟩⟩⟩)⟩⟩⟩⟩⟩

end Go.Proofs.YtinegicenfndkaaDoor
