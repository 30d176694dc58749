/- What must hold so that each function ends well: pure predicates, made by program. -/
import Derived.Test.YtginlmgkimfjmaaPE
set_option linter.unusedVariables false
set_option linter.unusedSimpArgs false
namespace Go.Proofs.Ytginlmgkimfjmaa
open Go.Sy Go.RowKit
def LGRow_vc (u0 : Int) (u1 : List Int) (u2 : Int) (u3 : Int) (K : Bool → Prop) : Prop :=
  (u1.length ≤ 140737488355328 →
    ((((decide (u2 < 0)) || (decide (u2 > 40))) = true →
      (∃ inv47 : Int → Guard → Prop, ∃ mu47 : Int → Guard → Nat, inv47 0 (⟨u0, -1, 0, 0⟩ : Guard) ∧
      (∀ (x27 : Int) (yb13 : Guard), inv47 x27 yb13 →
      (((decide (x27 < 20)) = true →
        ((∀ x ∈ u1, 0 ≤ x ∧ x ≤ 255) ∧
        (((gputS u0 (x27.tmod 15) u1).1).length ≤ 140737488355328 →
        (((((gputS u0 (x27.tmod 15) u1).2) != 0) = true →
          (K true)) ∧
        ((((gputS u0 (x27.tmod 15) u1).2) != 0) = false →
          ((∀ x ∈ ((gputS u0 (x27.tmod 15) u1).1), 0 ≤ x ∧ x ≤ 255) ∧
          ((∀ x ∈ ((gputS u0 (x27.tmod 15) u1).1), 0 ≤ x ∧ x ≤ 255) ∧
          (((((((((gseeS yb13 ((gputS u0 (x27.tmod 15) u1).1) 1).2) != 0) || (((gseeS ((gseeS yb13 ((gputS u0 (x27.tmod 15) u1).1) 1).1) ((gputS u0 (x27.tmod 15) u1).1) 1).2) != 0)) || ((((gseeS yb13 ((gputS u0 (x27.tmod 15) u1).1) 1).1).State) != 1)) || ((((gseeS yb13 ((gputS u0 (x27.tmod 15) u1).1) 1).1).Bad) != 0)) || ((((gseeS ((gseeS yb13 ((gputS u0 (x27.tmod 15) u1).1) 1).1) ((gputS u0 (x27.tmod 15) u1).1) 1).1).State) != 3)) = true →
            (K false)) ∧
          ((((((((gseeS yb13 ((gputS u0 (x27.tmod 15) u1).1) 1).2) != 0) || (((gseeS ((gseeS yb13 ((gputS u0 (x27.tmod 15) u1).1) 1).1) ((gputS u0 (x27.tmod 15) u1).1) 1).2) != 0)) || ((((gseeS yb13 ((gputS u0 (x27.tmod 15) u1).1) 1).1).State) != 1)) || ((((gseeS yb13 ((gputS u0 (x27.tmod 15) u1).1) 1).1).Bad) != 0)) || ((((gseeS ((gseeS yb13 ((gputS u0 (x27.tmod 15) u1).1) 1).1) ((gputS u0 (x27.tmod 15) u1).1) 1).1).State) != 3)) = false →
            ((((decide (u3 ≥ 0)) && (decide (u3 < (w64 (8 * (((gputS u0 (x27.tmod 15) u1).1).length : Int)))))) = true →
              ((0 ≤ w64 (u3.tdiv 8) ∧ w64 (u3.tdiv 8) < (((gputS u0 (x27.tmod 15) u1).1).length : Int)) ∧
              (∀ qd4_0, ((gputS u0 (x27.tmod 15) u1).1)[(w64 (u3.tdiv 8)).toNat]? = some qd4_0 →
              ((0 ≤ u3.tmod 8) ∧
              ((0 ≤ w64 (u3.tdiv 8) ∧ w64 (u3.tdiv 8) < (((gputS u0 (x27.tmod 15) u1).1).length : Int)) ∧
              ((∀ x ∈ (((gputS u0 (x27.tmod 15) u1).1).set (w64 (u3.tdiv 8)).toNat (bXor .u8 qd4_0 (bShl .u8 1 (u3.tmod 8)))), 0 ≤ x ∧ x ≤ 255) ∧
              (((((((gseeS ((gseeS yb13 ((gputS u0 (x27.tmod 15) u1).1) 1).1) (((gputS u0 (x27.tmod 15) u1).1).set (w64 (u3.tdiv 8)).toNat (bXor .u8 qd4_0 (bShl .u8 1 (u3.tmod 8)))) 14).2) != 0) || ((((gseeS ((gseeS yb13 ((gputS u0 (x27.tmod 15) u1).1) 1).1) (((gputS u0 (x27.tmod 15) u1).1).set (w64 (u3.tdiv 8)).toNat (bXor .u8 qd4_0 (bShl .u8 1 (u3.tmod 8)))) 14).1).State) != 4)) || ((((gseeS ((gseeS yb13 ((gputS u0 (x27.tmod 15) u1).1) 1).1) (((gputS u0 (x27.tmod 15) u1).1).set (w64 (u3.tdiv 8)).toNat (bXor .u8 qd4_0 (bShl .u8 1 (u3.tmod 8)))) 14).1).Bad) != 1)) = true →
                (K false)) ∧
              ((((((gseeS ((gseeS yb13 ((gputS u0 (x27.tmod 15) u1).1) 1).1) (((gputS u0 (x27.tmod 15) u1).1).set (w64 (u3.tdiv 8)).toNat (bXor .u8 qd4_0 (bShl .u8 1 (u3.tmod 8)))) 14).2) != 0) || ((((gseeS ((gseeS yb13 ((gputS u0 (x27.tmod 15) u1).1) 1).1) (((gputS u0 (x27.tmod 15) u1).1).set (w64 (u3.tdiv 8)).toNat (bXor .u8 qd4_0 (bShl .u8 1 (u3.tmod 8)))) 14).1).State) != 4)) || ((((gseeS ((gseeS yb13 ((gputS u0 (x27.tmod 15) u1).1) 1).1) (((gputS u0 (x27.tmod 15) u1).1).set (w64 (u3.tdiv 8)).toNat (bXor .u8 qd4_0 (bShl .u8 1 (u3.tmod 8)))) 14).1).Bad) != 1)) = false →
                (inv47 (w64 (x27 + 1)) ((gseeS yb13 ((gputS u0 (x27.tmod 15) u1).1) 1).1) ∧ mu47 (w64 (x27 + 1)) ((gseeS yb13 ((gputS u0 (x27.tmod 15) u1).1) 1).1) < mu47 x27 yb13))))))))) ∧
            (((decide (u3 ≥ 0)) && (decide (u3 < (w64 (8 * (((gputS u0 (x27.tmod 15) u1).1).length : Int)))))) = false →
              (inv47 (w64 (x27 + 1)) ((gseeS yb13 ((gputS u0 (x27.tmod 15) u1).1) 1).1) ∧ mu47 (w64 (x27 + 1)) ((gseeS yb13 ((gputS u0 (x27.tmod 15) u1).1) 1).1) < mu47 x27 yb13)))))))))))) ∧
      ((decide (x27 < 20)) = false →
        (K true)))))) ∧
    (((decide (u2 < 0)) || (decide (u2 > 40))) = false →
      (∃ inv472 : Int → Guard → Prop, ∃ mu472 : Int → Guard → Nat, inv472 0 (⟨u0, -1, 0, 0⟩ : Guard) ∧
      (∀ (x27 : Int) (yb13 : Guard), inv472 x27 yb13 →
      (((decide (x27 < u2)) = true →
        ((∀ x ∈ u1, 0 ≤ x ∧ x ≤ 255) ∧
        (((gputS u0 (x27.tmod 15) u1).1).length ≤ 140737488355328 →
        (((((gputS u0 (x27.tmod 15) u1).2) != 0) = true →
          (K true)) ∧
        ((((gputS u0 (x27.tmod 15) u1).2) != 0) = false →
          ((∀ x ∈ ((gputS u0 (x27.tmod 15) u1).1), 0 ≤ x ∧ x ≤ 255) ∧
          ((∀ x ∈ ((gputS u0 (x27.tmod 15) u1).1), 0 ≤ x ∧ x ≤ 255) ∧
          (((((((((gseeS yb13 ((gputS u0 (x27.tmod 15) u1).1) 1).2) != 0) || (((gseeS ((gseeS yb13 ((gputS u0 (x27.tmod 15) u1).1) 1).1) ((gputS u0 (x27.tmod 15) u1).1) 1).2) != 0)) || ((((gseeS yb13 ((gputS u0 (x27.tmod 15) u1).1) 1).1).State) != 1)) || ((((gseeS yb13 ((gputS u0 (x27.tmod 15) u1).1) 1).1).Bad) != 0)) || ((((gseeS ((gseeS yb13 ((gputS u0 (x27.tmod 15) u1).1) 1).1) ((gputS u0 (x27.tmod 15) u1).1) 1).1).State) != 3)) = true →
            (K false)) ∧
          ((((((((gseeS yb13 ((gputS u0 (x27.tmod 15) u1).1) 1).2) != 0) || (((gseeS ((gseeS yb13 ((gputS u0 (x27.tmod 15) u1).1) 1).1) ((gputS u0 (x27.tmod 15) u1).1) 1).2) != 0)) || ((((gseeS yb13 ((gputS u0 (x27.tmod 15) u1).1) 1).1).State) != 1)) || ((((gseeS yb13 ((gputS u0 (x27.tmod 15) u1).1) 1).1).Bad) != 0)) || ((((gseeS ((gseeS yb13 ((gputS u0 (x27.tmod 15) u1).1) 1).1) ((gputS u0 (x27.tmod 15) u1).1) 1).1).State) != 3)) = false →
            ((((decide (u3 ≥ 0)) && (decide (u3 < (w64 (8 * (((gputS u0 (x27.tmod 15) u1).1).length : Int)))))) = true →
              ((0 ≤ w64 (u3.tdiv 8) ∧ w64 (u3.tdiv 8) < (((gputS u0 (x27.tmod 15) u1).1).length : Int)) ∧
              (∀ qd4_0, ((gputS u0 (x27.tmod 15) u1).1)[(w64 (u3.tdiv 8)).toNat]? = some qd4_0 →
              ((0 ≤ u3.tmod 8) ∧
              ((0 ≤ w64 (u3.tdiv 8) ∧ w64 (u3.tdiv 8) < (((gputS u0 (x27.tmod 15) u1).1).length : Int)) ∧
              ((∀ x ∈ (((gputS u0 (x27.tmod 15) u1).1).set (w64 (u3.tdiv 8)).toNat (bXor .u8 qd4_0 (bShl .u8 1 (u3.tmod 8)))), 0 ≤ x ∧ x ≤ 255) ∧
              (((((((gseeS ((gseeS yb13 ((gputS u0 (x27.tmod 15) u1).1) 1).1) (((gputS u0 (x27.tmod 15) u1).1).set (w64 (u3.tdiv 8)).toNat (bXor .u8 qd4_0 (bShl .u8 1 (u3.tmod 8)))) 14).2) != 0) || ((((gseeS ((gseeS yb13 ((gputS u0 (x27.tmod 15) u1).1) 1).1) (((gputS u0 (x27.tmod 15) u1).1).set (w64 (u3.tdiv 8)).toNat (bXor .u8 qd4_0 (bShl .u8 1 (u3.tmod 8)))) 14).1).State) != 4)) || ((((gseeS ((gseeS yb13 ((gputS u0 (x27.tmod 15) u1).1) 1).1) (((gputS u0 (x27.tmod 15) u1).1).set (w64 (u3.tdiv 8)).toNat (bXor .u8 qd4_0 (bShl .u8 1 (u3.tmod 8)))) 14).1).Bad) != 1)) = true →
                (K false)) ∧
              ((((((gseeS ((gseeS yb13 ((gputS u0 (x27.tmod 15) u1).1) 1).1) (((gputS u0 (x27.tmod 15) u1).1).set (w64 (u3.tdiv 8)).toNat (bXor .u8 qd4_0 (bShl .u8 1 (u3.tmod 8)))) 14).2) != 0) || ((((gseeS ((gseeS yb13 ((gputS u0 (x27.tmod 15) u1).1) 1).1) (((gputS u0 (x27.tmod 15) u1).1).set (w64 (u3.tdiv 8)).toNat (bXor .u8 qd4_0 (bShl .u8 1 (u3.tmod 8)))) 14).1).State) != 4)) || ((((gseeS ((gseeS yb13 ((gputS u0 (x27.tmod 15) u1).1) 1).1) (((gputS u0 (x27.tmod 15) u1).1).set (w64 (u3.tdiv 8)).toNat (bXor .u8 qd4_0 (bShl .u8 1 (u3.tmod 8)))) 14).1).Bad) != 1)) = false →
                (inv472 (w64 (x27 + 1)) ((gseeS yb13 ((gputS u0 (x27.tmod 15) u1).1) 1).1) ∧ mu472 (w64 (x27 + 1)) ((gseeS yb13 ((gputS u0 (x27.tmod 15) u1).1) 1).1) < mu472 x27 yb13))))))))) ∧
            (((decide (u3 ≥ 0)) && (decide (u3 < (w64 (8 * (((gputS u0 (x27.tmod 15) u1).1).length : Int)))))) = false →
              (inv472 (w64 (x27 + 1)) ((gseeS yb13 ((gputS u0 (x27.tmod 15) u1).1) 1).1) ∧ mu472 (w64 (x27 + 1)) ((gseeS yb13 ((gputS u0 (x27.tmod 15) u1).1) 1).1) < mu472 x27 yb13)))))))))))) ∧
      ((decide (x27 < u2)) = false →
        (K true))))))))
theorem LGRow_mono {u0 : Int} {u1 : List Int} {u2 : Int} {u3 : Int} {K K1 : Bool → Prop} (hK : ∀ r, K r → K1 r) (h : LGRow_vc u0 u1 u2 u3 K) : LGRow_vc u0 u1 u2 u3 K1 :=
  fun z0 => ⟨fun c1 => (Exists.elim ((h z0).1 c1) fun i2 e2 => Exists.elim e2 fun m2 g2 => ⟨i2, m2, g2.1, fun x27 yb13 z2 => ⟨fun c3 => ⟨((g2.2 x27 yb13 z2).1 c3).1, fun z5 => ⟨fun c6 => hK _ (((((g2.2 x27 yb13 z2).1 c3).2) z5).1 c6), fun c6 => ⟨(((((g2.2 x27 yb13 z2).1 c3).2) z5).2 c6).1, ⟨((((((g2.2 x27 yb13 z2).1 c3).2) z5).2 c6).2).1, ⟨fun c9 => hK _ ((((((((g2.2 x27 yb13 z2).1 c3).2) z5).2 c6).2).2).1 c9), fun c9 => ⟨fun c10 => ⟨(((((((((g2.2 x27 yb13 z2).1 c3).2) z5).2 c6).2).2).2 c9).1 c10).1, fun qd4_0 z12 => ⟨(((((((((((g2.2 x27 yb13 z2).1 c3).2) z5).2 c6).2).2).2 c9).1 c10).2) qd4_0 z12).1, ⟨((((((((((((g2.2 x27 yb13 z2).1 c3).2) z5).2 c6).2).2).2 c9).1 c10).2) qd4_0 z12).2).1, ⟨(((((((((((((g2.2 x27 yb13 z2).1 c3).2) z5).2 c6).2).2).2 c9).1 c10).2) qd4_0 z12).2).2).1, ⟨fun c16 => hK _ (((((((((((((((g2.2 x27 yb13 z2).1 c3).2) z5).2 c6).2).2).2 c9).1 c10).2) qd4_0 z12).2).2).2).1 c16), fun c16 => (((((((((((((((g2.2 x27 yb13 z2).1 c3).2) z5).2 c6).2).2).2 c9).1 c10).2) qd4_0 z12).2).2).2).2 c16)⟩⟩⟩⟩⟩, fun c10 => (((((((((g2.2 x27 yb13 z2).1 c3).2) z5).2 c6).2).2).2 c9).2 c10)⟩⟩⟩⟩⟩⟩, fun c3 => hK _ ((g2.2 x27 yb13 z2).2 c3)⟩⟩), fun c1 => (Exists.elim ((h z0).2 c1) fun i2 e2 => Exists.elim e2 fun m2 g2 => ⟨i2, m2, g2.1, fun x27 yb13 z2 => ⟨fun c3 => ⟨((g2.2 x27 yb13 z2).1 c3).1, fun z5 => ⟨fun c6 => hK _ (((((g2.2 x27 yb13 z2).1 c3).2) z5).1 c6), fun c6 => ⟨(((((g2.2 x27 yb13 z2).1 c3).2) z5).2 c6).1, ⟨((((((g2.2 x27 yb13 z2).1 c3).2) z5).2 c6).2).1, ⟨fun c9 => hK _ ((((((((g2.2 x27 yb13 z2).1 c3).2) z5).2 c6).2).2).1 c9), fun c9 => ⟨fun c10 => ⟨(((((((((g2.2 x27 yb13 z2).1 c3).2) z5).2 c6).2).2).2 c9).1 c10).1, fun qd4_0 z12 => ⟨(((((((((((g2.2 x27 yb13 z2).1 c3).2) z5).2 c6).2).2).2 c9).1 c10).2) qd4_0 z12).1, ⟨((((((((((((g2.2 x27 yb13 z2).1 c3).2) z5).2 c6).2).2).2 c9).1 c10).2) qd4_0 z12).2).1, ⟨(((((((((((((g2.2 x27 yb13 z2).1 c3).2) z5).2 c6).2).2).2 c9).1 c10).2) qd4_0 z12).2).2).1, ⟨fun c16 => hK _ (((((((((((((((g2.2 x27 yb13 z2).1 c3).2) z5).2 c6).2).2).2 c9).1 c10).2) qd4_0 z12).2).2).2).1 c16), fun c16 => (((((((((((((((g2.2 x27 yb13 z2).1 c3).2) z5).2 c6).2).2).2 c9).1 c10).2) qd4_0 z12).2).2).2).2 c16)⟩⟩⟩⟩⟩, fun c10 => (((((((((g2.2 x27 yb13 z2).1 c3).2) z5).2 c6).2).2).2 c9).2 c10)⟩⟩⟩⟩⟩⟩, fun c3 => hK _ ((g2.2 x27 yb13 z2).2 c3)⟩⟩)⟩

end Go.Proofs.Ytginlmgkimfjmaa
