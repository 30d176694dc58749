/- What must hold so that each function ends well: pure predicates, made by program. -/
import Derived.Test.YtinegicenfndkaaDoorPC
set_option linter.unusedVariables false
set_option linter.unusedSimpArgs false
namespace Go.Proofs.YtinegicenfndkaaDoor
open Go.Sy Go.RowKit
def LAdds_vc (u0 : Int) (u1 : List UInt8) (u2 : List UInt8) (u3 : List UInt8) (K : Bool → Prop) : Prop :=
  ((0 ≤ min (min (u1.length : Int) (u2.length : Int)) (u3.length : Int) ∧ min (min (u1.length : Int) (u2.length : Int)) (u3.length : Int) ≤ (u1.length : Int)) ∧
    ((0 ≤ min (min (u1.length : Int) (u2.length : Int)) (u3.length : Int) ∧ min (min (u1.length : Int) (u2.length : Int)) (u3.length : Int) ≤ (u2.length : Int)) ∧
    ((0 ≤ min (min (u1.length : Int) (u2.length : Int)) (u3.length : Int) ∧ min (min (u1.length : Int) (u2.length : Int)) (u3.length : Int) ≤ (u3.length : Int)) ∧
    (((((((csumS u0 (u1.take (min (min (u1.length : Int) (u2.length : Int)) (u3.length : Int)).toNat)).2) != 0) || (((csumS u0 (u2.take (min (min (u1.length : Int) (u2.length : Int)) (u3.length : Int)).toNat)).2) != 0)) || (((csumS u0 (u3.take (min (min (u1.length : Int) (u2.length : Int)) (u3.length : Int)).toNat)).2) != 0)) = true →
      (K true)) ∧
    ((((((csumS u0 (u1.take (min (min (u1.length : Int) (u2.length : Int)) (u3.length : Int)).toNat)).2) != 0) || (((csumS u0 (u2.take (min (min (u1.length : Int) (u2.length : Int)) (u3.length : Int)).toNat)).2) != 0)) || (((csumS u0 (u3.take (min (min (u1.length : Int) (u2.length : Int)) (u3.length : Int)).toNat)).2) != 0)) = false →
      (((u2.take (min (min (u1.length : Int) (u2.length : Int)) (u3.length : Int)).toNat).length ≤ (u1.take (min (min (u1.length : Int) (u2.length : Int)) (u3.length : Int)).toNat).length ∧ (u1.take (min (min (u1.length : Int) (u2.length : Int)) (u3.length : Int)).toNat).length ≤ 1000000) ∧
      (((u3.take (min (min (u1.length : Int) (u2.length : Int)) (u3.length : Int)).toNat).length ≤ (xorS (u1.take (min (min (u1.length : Int) (u2.length : Int)) (u3.length : Int)).toNat) (u2.take (min (min (u1.length : Int) (u2.length : Int)) (u3.length : Int)).toNat)).length ∧ (xorS (u1.take (min (min (u1.length : Int) (u2.length : Int)) (u3.length : Int)).toNat) (u2.take (min (min (u1.length : Int) (u2.length : Int)) (u3.length : Int)).toNat)).length ≤ 1000000) ∧
      (((((csumS u0 (xorS (xorS (u1.take (min (min (u1.length : Int) (u2.length : Int)) (u3.length : Int)).toNat) (u2.take (min (min (u1.length : Int) (u2.length : Int)) (u3.length : Int)).toNat)) (u3.take (min (min (u1.length : Int) (u2.length : Int)) (u3.length : Int)).toNat))).2) == 0) = true →
        ((((csumS u0 (u2.take (min (min (u1.length : Int) (u2.length : Int)) (u3.length : Int)).toNat)).1).length ≤ ((csumS u0 (u1.take (min (min (u1.length : Int) (u2.length : Int)) (u3.length : Int)).toNat)).1).length ∧ ((csumS u0 (u1.take (min (min (u1.length : Int) (u2.length : Int)) (u3.length : Int)).toNat)).1).length ≤ 1000000) ∧
        ((((csumS u0 (u3.take (min (min (u1.length : Int) (u2.length : Int)) (u3.length : Int)).toNat)).1).length ≤ (xorS ((csumS u0 (u1.take (min (min (u1.length : Int) (u2.length : Int)) (u3.length : Int)).toNat)).1) ((csumS u0 (u2.take (min (min (u1.length : Int) (u2.length : Int)) (u3.length : Int)).toNat)).1)).length ∧ (xorS ((csumS u0 (u1.take (min (min (u1.length : Int) (u2.length : Int)) (u3.length : Int)).toNat)).1) ((csumS u0 (u2.take (min (min (u1.length : Int) (u2.length : Int)) (u3.length : Int)).toNat)).1)).length ≤ 1000000) ∧
        (K (((csumS u0 (xorS (xorS (u1.take (min (min (u1.length : Int) (u2.length : Int)) (u3.length : Int)).toNat) (u2.take (min (min (u1.length : Int) (u2.length : Int)) (u3.length : Int)).toNat)) (u3.take (min (min (u1.length : Int) (u2.length : Int)) (u3.length : Int)).toNat))).1) == (xorS (xorS ((csumS u0 (u1.take (min (min (u1.length : Int) (u2.length : Int)) (u3.length : Int)).toNat)).1) ((csumS u0 (u2.take (min (min (u1.length : Int) (u2.length : Int)) (u3.length : Int)).toNat)).1)) ((csumS u0 (u3.take (min (min (u1.length : Int) (u2.length : Int)) (u3.length : Int)).toNat)).1))))))) ∧
      ((((csumS u0 (xorS (xorS (u1.take (min (min (u1.length : Int) (u2.length : Int)) (u3.length : Int)).toNat) (u2.take (min (min (u1.length : Int) (u2.length : Int)) (u3.length : Int)).toNat)) (u3.take (min (min (u1.length : Int) (u2.length : Int)) (u3.length : Int)).toNat))).2) == 0) = false →
        (K false))))))))))
theorem LAdds_mono {u0 : Int} {u1 : List UInt8} {u2 : List UInt8} {u3 : List UInt8} {K K1 : Bool → Prop} (hK : ∀ r, K r → K1 r) (h : LAdds_vc u0 u1 u2 u3 K) : LAdds_vc u0 u1 u2 u3 K1 :=
  ⟨h.1, ⟨h.2.1, ⟨h.2.2.1, ⟨fun c3 => hK _ (h.2.2.2.1 c3), fun c3 => ⟨(h.2.2.2.2 c3).1, ⟨((h.2.2.2.2 c3).2).1, ⟨fun c6 => ⟨((((h.2.2.2.2 c3).2).2).1 c6).1, ⟨(((((h.2.2.2.2 c3).2).2).1 c6).2).1, hK _ ((((((h.2.2.2.2 c3).2).2).1 c6).2).2)⟩⟩, fun c6 => hK _ ((((h.2.2.2.2 c3).2).2).2 c6)⟩⟩⟩⟩⟩⟩⟩

end Go.Proofs.YtinegicenfndkaaDoor
