/- What must hold so that each function ends well: pure predicates, made by program. -/
import Derived.Test.YtinegicenfndkaaDoorPA
set_option linter.unusedVariables false
set_option linter.unusedSimpArgs false
namespace Go.Proofs.YtinegicenfndkaaDoor
open Go.Sy Go.RowKit
def bnumber_vc (u0 : List UInt8) (K : (Int × Int) → Prop) : Prop :=
  ((((bcheckS u0) != 0) = true →
      (K (0, (bcheckS u0)))) ∧
    (((bcheckS u0) != 0) = false →
      (((decide ((u0.length : Int) > 62)) = true →
        (K (0, 2))) ∧
      ((decide ((u0.length : Int) > 62)) = false →
        ((u0.length ≤ 62 ∧ isRow u0 = true) ∧
        (K (w64 (breadS u0), 0)))))))
theorem bnumber_mono {u0 : List UInt8} {K K1 : (Int × Int) → Prop} (hK : ∀ r, K r → K1 r) (h : bnumber_vc u0 K) : bnumber_vc u0 K1 :=
  ⟨fun c0 => hK _ (h.1 c0), fun c0 => ⟨fun c1 => hK _ ((h.2 c0).1 c1), fun c1 => ⟨((h.2 c0).2 c1).1, hK _ (((h.2 c0).2 c1).2)⟩⟩⟩

def bof_vc (u0 : List Int) (K : ((List UInt8) × Int) → Prop) : Prop :=
  (u0.length ≤ 140737488355328 →
    (((decide ((u0.length : Int) > 125)) = true →
      (K ([], 2))) ∧
    ((decide ((u0.length : Int) > 125)) = false →
      (∃ inv39 : Int → (List UInt8) → Prop, ∃ mu39 : Int → (List UInt8) → Nat, inv39 0 ([] : List UInt8) ∧
      (∀ (x12 : Int) (yb26 : List UInt8), inv39 x12 yb26 →
      (((decide (x12 < (u0.length : Int))) = true →
        ((0 ≤ x12 ∧ x12 < (u0.length : Int)) ∧
        (∀ q64, u0[x12.toNat]? = some q64 →
        ((0 ≤ (8 : Int) ∧ (8 : Int) ≤ 64 ∧ 0 ≤ (wu64 q64) ∧ (wu64 q64) < 2 ^ 62) ∧
        ((yb26.length + (bwriteS (wu64 q64) 8).length ≤ 140737488355328) ∧
        (inv39 (w64 (x12 + 1)) (yb26 ++ (bwriteS (wu64 q64) 8)) ∧ mu39 (w64 (x12 + 1)) (yb26 ++ (bwriteS (wu64 q64) 8)) < mu39 x12 yb26)))))) ∧
      ((decide (x12 < (u0.length : Int))) = false →
        (K (yb26, 0)))))))))
theorem bof_mono {u0 : List Int} {K K1 : ((List UInt8) × Int) → Prop} (hK : ∀ r, K r → K1 r) (h : bof_vc u0 K) : bof_vc u0 K1 :=
  fun z0 => ⟨fun c1 => hK _ ((h z0).1 c1), fun c1 => (Exists.elim ((h z0).2 c1) fun i2 e2 => Exists.elim e2 fun m2 g2 => ⟨i2, m2, g2.1, fun x12 yb26 z2 => ⟨fun c3 => ⟨((g2.2 x12 yb26 z2).1 c3).1, fun y5 z5 => ⟨((((g2.2 x12 yb26 z2).1 c3).2) y5 z5).1, ⟨(((((g2.2 x12 yb26 z2).1 c3).2) y5 z5).2).1, (((((g2.2 x12 yb26 z2).1 c3).2) y5 z5).2).2⟩⟩⟩, fun c3 => hK _ ((g2.2 x12 yb26 z2).2 c3)⟩⟩)⟩

def csum_vc (u0 : Int) (u1 : List UInt8) (K : ((List UInt8) × Int) → Prop) : Prop :=
  ((((bcheckS u1) != 0) = true →
      (K ([], (bcheckS u1)))) ∧
    (((bcheckS u1) != 0) = false →
      ((((decide (u0 < 0)) || (decide (u0 ≥ 5))) = true →
        (K ([], 8))) ∧
      (((decide (u0 < 0)) || (decide (u0 ≥ 5))) = false →
        ((0 ≤ u0 ∧ u0 < 5) ∧
        ((okKindS (⟨([ckinds.1.Size, ckinds.2.1.Size, ckinds.2.2.1.Size, ckinds.2.2.2.1.Size, ckinds.2.2.2.2.Size] : List Int).getD u0.toNat 0, ([ckinds.1.Poly, ckinds.2.1.Poly, ckinds.2.2.1.Poly, ckinds.2.2.2.1.Poly, ckinds.2.2.2.2.Poly] : List Int).getD u0.toNat 0, ([ckinds.1.From, ckinds.2.1.From, ckinds.2.2.1.From, ckinds.2.2.2.1.From, ckinds.2.2.2.2.From] : List Int).getD u0.toNat 0, ([ckinds.1.End, ckinds.2.1.End, ckinds.2.2.1.End, ckinds.2.2.2.1.End, ckinds.2.2.2.2.End] : List Int).getD u0.toNat 0⟩ : Kind) ∧ u1.length ≤ 1000000) ∧
        ((0 ≤ (([ckinds.1.Size, ckinds.2.1.Size, ckinds.2.2.1.Size, ckinds.2.2.2.1.Size, ckinds.2.2.2.2.Size] : List Int).getD u0.toNat 0) ∧ (([ckinds.1.Size, ckinds.2.1.Size, ckinds.2.2.1.Size, ckinds.2.2.2.1.Size, ckinds.2.2.2.2.Size] : List Int).getD u0.toNat 0) ≤ 64 ∧ 0 ≤ (ksumS (⟨([ckinds.1.Size, ckinds.2.1.Size, ckinds.2.2.1.Size, ckinds.2.2.2.1.Size, ckinds.2.2.2.2.Size] : List Int).getD u0.toNat 0, ([ckinds.1.Poly, ckinds.2.1.Poly, ckinds.2.2.1.Poly, ckinds.2.2.2.1.Poly, ckinds.2.2.2.2.Poly] : List Int).getD u0.toNat 0, ([ckinds.1.From, ckinds.2.1.From, ckinds.2.2.1.From, ckinds.2.2.2.1.From, ckinds.2.2.2.2.From] : List Int).getD u0.toNat 0, ([ckinds.1.End, ckinds.2.1.End, ckinds.2.2.1.End, ckinds.2.2.2.1.End, ckinds.2.2.2.2.End] : List Int).getD u0.toNat 0⟩ : Kind) u1) ∧ (ksumS (⟨([ckinds.1.Size, ckinds.2.1.Size, ckinds.2.2.1.Size, ckinds.2.2.2.1.Size, ckinds.2.2.2.2.Size] : List Int).getD u0.toNat 0, ([ckinds.1.Poly, ckinds.2.1.Poly, ckinds.2.2.1.Poly, ckinds.2.2.2.1.Poly, ckinds.2.2.2.2.Poly] : List Int).getD u0.toNat 0, ([ckinds.1.From, ckinds.2.1.From, ckinds.2.2.1.From, ckinds.2.2.2.1.From, ckinds.2.2.2.2.From] : List Int).getD u0.toNat 0, ([ckinds.1.End, ckinds.2.1.End, ckinds.2.2.1.End, ckinds.2.2.2.1.End, ckinds.2.2.2.2.End] : List Int).getD u0.toNat 0⟩ : Kind) u1) < 2 ^ 62) ∧
        (K ((bwriteS (ksumS (⟨([ckinds.1.Size, ckinds.2.1.Size, ckinds.2.2.1.Size, ckinds.2.2.2.1.Size, ckinds.2.2.2.2.Size] : List Int).getD u0.toNat 0, ([ckinds.1.Poly, ckinds.2.1.Poly, ckinds.2.2.1.Poly, ckinds.2.2.2.1.Poly, ckinds.2.2.2.2.Poly] : List Int).getD u0.toNat 0, ([ckinds.1.From, ckinds.2.1.From, ckinds.2.2.1.From, ckinds.2.2.2.1.From, ckinds.2.2.2.2.From] : List Int).getD u0.toNat 0, ([ckinds.1.End, ckinds.2.1.End, ckinds.2.2.1.End, ckinds.2.2.2.1.End, ckinds.2.2.2.2.End] : List Int).getD u0.toNat 0⟩ : Kind) u1) (([ckinds.1.Size, ckinds.2.1.Size, ckinds.2.2.1.Size, ckinds.2.2.2.1.Size, ckinds.2.2.2.2.Size] : List Int).getD u0.toNat 0)), 0)))))))))
theorem csum_mono {u0 : Int} {u1 : List UInt8} {K K1 : ((List UInt8) × Int) → Prop} (hK : ∀ r, K r → K1 r) (h : csum_vc u0 u1 K) : csum_vc u0 u1 K1 :=
  ⟨fun c0 => hK _ (h.1 c0), fun c0 => ⟨fun c1 => hK _ ((h.2 c0).1 c1), fun c1 => ⟨((h.2 c0).2 c1).1, ⟨(((h.2 c0).2 c1).2).1, ⟨((((h.2 c0).2 c1).2).2).1, hK _ (((((h.2 c0).2 c1).2).2).2)⟩⟩⟩⟩⟩

def cholds_vc (u0 : Int) (u1 : List UInt8) (K : (Bool × Int) → Prop) : Prop :=
  ((((bcheckS u1) != 0) = true →
      (K (false, (bcheckS u1)))) ∧
    (((bcheckS u1) != 0) = false →
      ((((decide (u0 < 0)) || (decide (u0 ≥ 5))) = true →
        (K (false, 8))) ∧
      (((decide (u0 < 0)) || (decide (u0 ≥ 5))) = false →
        ((0 ≤ u0 ∧ u0 < 5) ∧
        (((decide ((u1.length : Int) < (([ckinds.1.Size, ckinds.2.1.Size, ckinds.2.2.1.Size, ckinds.2.2.2.1.Size, ckinds.2.2.2.2.Size] : List Int).getD u0.toNat 0))) = true →
          (K (false, 7))) ∧
        ((decide ((u1.length : Int) < (([ckinds.1.Size, ckinds.2.1.Size, ckinds.2.2.1.Size, ckinds.2.2.2.1.Size, ckinds.2.2.2.2.Size] : List Int).getD u0.toNat 0))) = false →
          ((0 ≤ w64 ((u1.length : Int) - (([ckinds.1.Size, ckinds.2.1.Size, ckinds.2.2.1.Size, ckinds.2.2.2.1.Size, ckinds.2.2.2.2.Size] : List Int).getD u0.toNat 0)) ∧ w64 ((u1.length : Int) - (([ckinds.1.Size, ckinds.2.1.Size, ckinds.2.2.1.Size, ckinds.2.2.2.1.Size, ckinds.2.2.2.2.Size] : List Int).getD u0.toNat 0)) ≤ (u1.length : Int)) ∧
          ((okKindS (⟨([ckinds.1.Size, ckinds.2.1.Size, ckinds.2.2.1.Size, ckinds.2.2.2.1.Size, ckinds.2.2.2.2.Size] : List Int).getD u0.toNat 0, ([ckinds.1.Poly, ckinds.2.1.Poly, ckinds.2.2.1.Poly, ckinds.2.2.2.1.Poly, ckinds.2.2.2.2.Poly] : List Int).getD u0.toNat 0, ([ckinds.1.From, ckinds.2.1.From, ckinds.2.2.1.From, ckinds.2.2.2.1.From, ckinds.2.2.2.2.From] : List Int).getD u0.toNat 0, ([ckinds.1.End, ckinds.2.1.End, ckinds.2.2.1.End, ckinds.2.2.2.1.End, ckinds.2.2.2.2.End] : List Int).getD u0.toNat 0⟩ : Kind) ∧ (u1.take (w64 ((u1.length : Int) - (([ckinds.1.Size, ckinds.2.1.Size, ckinds.2.2.1.Size, ckinds.2.2.2.1.Size, ckinds.2.2.2.2.Size] : List Int).getD u0.toNat 0))).toNat).length ≤ 1000000) ∧
          ((0 ≤ (([ckinds.1.Size, ckinds.2.1.Size, ckinds.2.2.1.Size, ckinds.2.2.2.1.Size, ckinds.2.2.2.2.Size] : List Int).getD u0.toNat 0) ∧ (([ckinds.1.Size, ckinds.2.1.Size, ckinds.2.2.1.Size, ckinds.2.2.2.1.Size, ckinds.2.2.2.2.Size] : List Int).getD u0.toNat 0) ≤ 64 ∧ 0 ≤ (ksumS (⟨([ckinds.1.Size, ckinds.2.1.Size, ckinds.2.2.1.Size, ckinds.2.2.2.1.Size, ckinds.2.2.2.2.Size] : List Int).getD u0.toNat 0, ([ckinds.1.Poly, ckinds.2.1.Poly, ckinds.2.2.1.Poly, ckinds.2.2.2.1.Poly, ckinds.2.2.2.2.Poly] : List Int).getD u0.toNat 0, ([ckinds.1.From, ckinds.2.1.From, ckinds.2.2.1.From, ckinds.2.2.2.1.From, ckinds.2.2.2.2.From] : List Int).getD u0.toNat 0, ([ckinds.1.End, ckinds.2.1.End, ckinds.2.2.1.End, ckinds.2.2.2.1.End, ckinds.2.2.2.2.End] : List Int).getD u0.toNat 0⟩ : Kind) (u1.take (w64 ((u1.length : Int) - (([ckinds.1.Size, ckinds.2.1.Size, ckinds.2.2.1.Size, ckinds.2.2.2.1.Size, ckinds.2.2.2.2.Size] : List Int).getD u0.toNat 0))).toNat)) ∧ (ksumS (⟨([ckinds.1.Size, ckinds.2.1.Size, ckinds.2.2.1.Size, ckinds.2.2.2.1.Size, ckinds.2.2.2.2.Size] : List Int).getD u0.toNat 0, ([ckinds.1.Poly, ckinds.2.1.Poly, ckinds.2.2.1.Poly, ckinds.2.2.2.1.Poly, ckinds.2.2.2.2.Poly] : List Int).getD u0.toNat 0, ([ckinds.1.From, ckinds.2.1.From, ckinds.2.2.1.From, ckinds.2.2.2.1.From, ckinds.2.2.2.2.From] : List Int).getD u0.toNat 0, ([ckinds.1.End, ckinds.2.1.End, ckinds.2.2.1.End, ckinds.2.2.2.1.End, ckinds.2.2.2.2.End] : List Int).getD u0.toNat 0⟩ : Kind) (u1.take (w64 ((u1.length : Int) - (([ckinds.1.Size, ckinds.2.1.Size, ckinds.2.2.1.Size, ckinds.2.2.2.1.Size, ckinds.2.2.2.2.Size] : List Int).getD u0.toNat 0))).toNat)) < 2 ^ 62) ∧
          ((0 ≤ w64 ((u1.length : Int) - (([ckinds.1.Size, ckinds.2.1.Size, ckinds.2.2.1.Size, ckinds.2.2.2.1.Size, ckinds.2.2.2.2.Size] : List Int).getD u0.toNat 0)) ∧ w64 ((u1.length : Int) - (([ckinds.1.Size, ckinds.2.1.Size, ckinds.2.2.1.Size, ckinds.2.2.2.1.Size, ckinds.2.2.2.2.Size] : List Int).getD u0.toNat 0)) ≤ (u1.length : Int)) ∧
          (K ((bwriteS (ksumS (⟨([ckinds.1.Size, ckinds.2.1.Size, ckinds.2.2.1.Size, ckinds.2.2.2.1.Size, ckinds.2.2.2.2.Size] : List Int).getD u0.toNat 0, ([ckinds.1.Poly, ckinds.2.1.Poly, ckinds.2.2.1.Poly, ckinds.2.2.2.1.Poly, ckinds.2.2.2.2.Poly] : List Int).getD u0.toNat 0, ([ckinds.1.From, ckinds.2.1.From, ckinds.2.2.1.From, ckinds.2.2.2.1.From, ckinds.2.2.2.2.From] : List Int).getD u0.toNat 0, ([ckinds.1.End, ckinds.2.1.End, ckinds.2.2.1.End, ckinds.2.2.2.1.End, ckinds.2.2.2.2.End] : List Int).getD u0.toNat 0⟩ : Kind) (u1.take (w64 ((u1.length : Int) - (([ckinds.1.Size, ckinds.2.1.Size, ckinds.2.2.1.Size, ckinds.2.2.2.1.Size, ckinds.2.2.2.2.Size] : List Int).getD u0.toNat 0))).toNat)) (([ckinds.1.Size, ckinds.2.1.Size, ckinds.2.2.1.Size, ckinds.2.2.2.1.Size, ckinds.2.2.2.2.Size] : List Int).getD u0.toNat 0)) == (u1.drop (w64 ((u1.length : Int) - (([ckinds.1.Size, ckinds.2.1.Size, ckinds.2.2.1.Size, ckinds.2.2.2.1.Size, ckinds.2.2.2.2.Size] : List Int).getD u0.toNat 0))).toNat), 0)))))))))))))
theorem cholds_mono {u0 : Int} {u1 : List UInt8} {K K1 : (Bool × Int) → Prop} (hK : ∀ r, K r → K1 r) (h : cholds_vc u0 u1 K) : cholds_vc u0 u1 K1 :=
  ⟨fun c0 => hK _ (h.1 c0), fun c0 => ⟨fun c1 => hK _ ((h.2 c0).1 c1), fun c1 => ⟨((h.2 c0).2 c1).1, ⟨fun c3 => hK _ ((((h.2 c0).2 c1).2).1 c3), fun c3 => ⟨((((h.2 c0).2 c1).2).2 c3).1, ⟨(((((h.2 c0).2 c1).2).2 c3).2).1, ⟨((((((h.2 c0).2 c1).2).2 c3).2).2).1, ⟨(((((((h.2 c0).2 c1).2).2 c3).2).2).2).1, hK _ ((((((((h.2 c0).2 c1).2).2 c3).2).2).2).2)⟩⟩⟩⟩⟩⟩⟩⟩

def lxor_vc (u0 : List UInt8) (u1 : List UInt8) (K : (List UInt8) → Prop) : Prop :=
  ((u0.length ≤ 140737488355328) ∧
    (∃ inv26 : Int → (List Int) → Prop, ∃ mu26 : Int → (List Int) → Nat, inv26 0 (istr u0) ∧
    (∀ (x11 : Int) (zao9 : List Int), inv26 x11 zao9 →
    (((decide (x11 < (u1.length : Int))) = true →
      ((0 ≤ x11 ∧ x11 < (u1.length : Int)) ∧
      (∀ c56, u1[x11.toNat]? = some c56 →
      ((((c56.toNat : Int) == 49) = true →
        ((0 ≤ x11 ∧ x11 < (zao9.length : Int)) ∧
        (∀ q78, zao9[x11.toNat]? = some q78 →
        ((0 ≤ x11 ∧ x11 < (zao9.length : Int)) ∧
        (inv26 (w64 (x11 + 1)) (zao9.set x11.toNat (bXor .u8 q78 1)) ∧ mu26 (w64 (x11 + 1)) (zao9.set x11.toNat (bXor .u8 q78 1)) < mu26 x11 zao9))))) ∧
      (((c56.toNat : Int) == 49) = false →
        (inv26 (w64 (x11 + 1)) zao9 ∧ mu26 (w64 (x11 + 1)) zao9 < mu26 x11 zao9)))))) ∧
    ((decide (x11 < (u1.length : Int))) = false →
      (K (bstr zao9)))))))
theorem lxor_mono {u0 : List UInt8} {u1 : List UInt8} {K K1 : (List UInt8) → Prop} (hK : ∀ r, K r → K1 r) (h : lxor_vc u0 u1 K) : lxor_vc u0 u1 K1 :=
  ⟨h.1, (Exists.elim h.2 fun i1 e1 => Exists.elim e1 fun m1 g1 => ⟨i1, m1, g1.1, fun x11 zao9 z1 => ⟨fun c2 => ⟨((g1.2 x11 zao9 z1).1 c2).1, fun y4 z4 => ⟨fun c5 => ⟨(((((g1.2 x11 zao9 z1).1 c2).2) y4 z4).1 c5).1, fun y7 z7 => ⟨(((((((g1.2 x11 zao9 z1).1 c2).2) y4 z4).1 c5).2) y7 z7).1, (((((((g1.2 x11 zao9 z1).1 c2).2) y4 z4).1 c5).2) y7 z7).2⟩⟩, fun c5 => (((((g1.2 x11 zao9 z1).1 c2).2) y4 z4).2 c5)⟩⟩, fun c2 => hK _ ((g1.2 x11 zao9 z1).2 c2)⟩⟩)⟩

end Go.Proofs.YtinegicenfndkaaDoor
