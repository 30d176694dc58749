/- What must hold so that each function ends well: pure predicates, made by program. -/
import Derived.Test.YtmbdcehmeiiaoaaDoorPI
set_option linter.unusedVariables false
set_option linter.unusedSimpArgs false
namespace Go.Proofs.YtmbdcehmeiiaoaaDoor
open Go.Sy Go.RowKit
def ieq_vc (u0 : List Int) (u1 : List Int) (K : Bool → Prop) : Prop :=
  (u0.length ≤ 140737488355328 →
    (u1.length ≤ 140737488355328 →
    ((((u0.length : Int) != (u1.length : Int)) = true →
      (K false)) ∧
    (((u0.length : Int) != (u1.length : Int)) = false →
      (∃ inv37 : Int → Prop, ∃ mu37 : Int → Nat, inv37 0 ∧
      (∀ (x13 : Int), inv37 x13 →
      (((decide (x13 < (u0.length : Int))) = true →
        ((0 ≤ x13 ∧ x13 < (u0.length : Int)) ∧
        (∀ q74, u0[x13.toNat]? = some q74 →
        ((0 ≤ x13 ∧ x13 < (u1.length : Int)) ∧
        (∀ q96, u1[x13.toNat]? = some q96 →
        (((q74 != q96) = true →
          (K false)) ∧
        ((q74 != q96) = false →
          (inv37 (w64 (x13 + 1)) ∧ mu37 (w64 (x13 + 1)) < mu37 x13)))))))) ∧
      ((decide (x13 < (u0.length : Int))) = false →
        (K true)))))))))
theorem ieq_mono {u0 : List Int} {u1 : List Int} {K K1 : Bool → Prop} (hK : ∀ r, K r → K1 r) (h : ieq_vc u0 u1 K) : ieq_vc u0 u1 K1 :=
  fun z0 => fun z1 => ⟨fun c2 => hK _ (((h z0) z1).1 c2), fun c2 => (Exists.elim (((h z0) z1).2 c2) fun i3 e3 => Exists.elim e3 fun m3 g3 => ⟨i3, m3, g3.1, fun x13 z3 => ⟨fun c4 => ⟨((g3.2 x13 z3).1 c4).1, fun y6 z6 => ⟨((((g3.2 x13 z3).1 c4).2) y6 z6).1, fun y8 z8 => ⟨fun c9 => hK _ (((((((g3.2 x13 z3).1 c4).2) y6 z6).2) y8 z8).1 c9), fun c9 => (((((((g3.2 x13 z3).1 c4).2) y6 z6).2) y8 z8).2 c9)⟩⟩⟩, fun c4 => hK _ ((g3.2 x13 z3).2 c4)⟩⟩)⟩

def fclone_vc (u0 : List Frame) (K : (List Frame) → Prop) : Prop :=
  (u0.length ≤ 140737488355328 →
    (∀ nb11, (u0 ≠ [] → nb11 = false) →
    ((nb11 = true →
      (K ([] : List Frame))) ∧
    (nb11 = false →
      (((([] : List Frame).length + u0.length) * 48 ≤ 140737488355328) ∧
      (K (([] : List Frame) ++ u0)))))))
theorem fclone_mono {u0 : List Frame} {K K1 : (List Frame) → Prop} (hK : ∀ r, K r → K1 r) (h : fclone_vc u0 K) : fclone_vc u0 K1 :=
  fun z0 => fun y1 z1 => ⟨fun c2 => hK _ (((h z0) y1 z1).1 c2), fun c2 => ⟨(((h z0) y1 z1).2 c2).1, hK _ ((((h z0) y1 z1).2 c2).2)⟩⟩

def frev_vc (u0 : List Frame) (K : (List Frame) → Prop) : Prop :=
  (u0.length ≤ 140737488355328 →
    (∃ inv16 : Int → Int → (List Frame) → Prop, ∃ mu16 : Int → Int → (List Frame) → Nat, inv16 0 (w64 ((u0.length : Int) - 1)) u0 ∧
    (∀ (x2 : Int) (x3 : Int) (zao1 : List Frame), inv16 x2 x3 zao1 →
    (((decide (x2 < x3)) = true →
      ((0 ≤ x3 ∧ x3 < (zao1.length : Int)) ∧
      (∀ qd7_0, zao1[x3.toNat]? = some qd7_0 →
      ((0 ≤ x2 ∧ x2 < (zao1.length : Int)) ∧
      (∀ qd11_0, zao1[x2.toNat]? = some qd11_0 →
      ((0 ≤ x2 ∧ x2 < (zao1.length : Int)) ∧
      ((0 ≤ x3 ∧ x3 < (zao1.length : Int)) ∧
      (inv16 (w64 (x2 + 1)) (w64 (x3 - 1)) ((zao1.set x2.toNat qd7_0).set x3.toNat qd11_0) ∧ mu16 (w64 (x2 + 1)) (w64 (x3 - 1)) ((zao1.set x2.toNat qd7_0).set x3.toNat qd11_0) < mu16 x2 x3 zao1)))))))) ∧
    ((decide (x2 < x3)) = false →
      ((zao1.length = u0.length) ∧
      (K zao1)))))))
theorem frev_mono {u0 : List Frame} {K K1 : (List Frame) → Prop} (hK : ∀ r, K r → K1 r) (h : frev_vc u0 K) : frev_vc u0 K1 :=
  fun z0 => (Exists.elim (h z0) fun i1 e1 => Exists.elim e1 fun m1 g1 => ⟨i1, m1, g1.1, fun x2 x3 zao1 z1 => ⟨fun c2 => ⟨((g1.2 x2 x3 zao1 z1).1 c2).1, fun y4 z4 => ⟨((((g1.2 x2 x3 zao1 z1).1 c2).2) y4 z4).1, fun y6 z6 => ⟨((((((g1.2 x2 x3 zao1 z1).1 c2).2) y4 z4).2) y6 z6).1, ⟨(((((((g1.2 x2 x3 zao1 z1).1 c2).2) y4 z4).2) y6 z6).2).1, (((((((g1.2 x2 x3 zao1 z1).1 c2).2) y4 z4).2) y6 z6).2).2⟩⟩⟩⟩, fun c2 => ⟨((g1.2 x2 x3 zao1 z1).2 c2).1, hK _ (((g1.2 x2 x3 zao1 z1).2 c2).2)⟩⟩⟩)

def irev_vc (u0 : List Int) (K : (List Int) → Prop) : Prop :=
  (u0.length ≤ 140737488355328 →
    (∃ inv16 : Int → Int → (List Int) → Prop, ∃ mu16 : Int → Int → (List Int) → Nat, inv16 0 (w64 ((u0.length : Int) - 1)) u0 ∧
    (∀ (x2 : Int) (x3 : Int) (zao1 : List Int), inv16 x2 x3 zao1 →
    (((decide (x2 < x3)) = true →
      ((0 ≤ x3 ∧ x3 < (zao1.length : Int)) ∧
      (∀ qd7_0, zao1[x3.toNat]? = some qd7_0 →
      ((0 ≤ x2 ∧ x2 < (zao1.length : Int)) ∧
      (∀ qd11_0, zao1[x2.toNat]? = some qd11_0 →
      ((0 ≤ x2 ∧ x2 < (zao1.length : Int)) ∧
      ((0 ≤ x3 ∧ x3 < (zao1.length : Int)) ∧
      (inv16 (w64 (x2 + 1)) (w64 (x3 - 1)) ((zao1.set x2.toNat qd7_0).set x3.toNat qd11_0) ∧ mu16 (w64 (x2 + 1)) (w64 (x3 - 1)) ((zao1.set x2.toNat qd7_0).set x3.toNat qd11_0) < mu16 x2 x3 zao1)))))))) ∧
    ((decide (x2 < x3)) = false →
      ((zao1.length = u0.length) ∧
      (K zao1)))))))
theorem irev_mono {u0 : List Int} {K K1 : (List Int) → Prop} (hK : ∀ r, K r → K1 r) (h : irev_vc u0 K) : irev_vc u0 K1 :=
  fun z0 => (Exists.elim (h z0) fun i1 e1 => Exists.elim e1 fun m1 g1 => ⟨i1, m1, g1.1, fun x2 x3 zao1 z1 => ⟨fun c2 => ⟨((g1.2 x2 x3 zao1 z1).1 c2).1, fun y4 z4 => ⟨((((g1.2 x2 x3 zao1 z1).1 c2).2) y4 z4).1, fun y6 z6 => ⟨((((((g1.2 x2 x3 zao1 z1).1 c2).2) y4 z4).2) y6 z6).1, ⟨(((((((g1.2 x2 x3 zao1 z1).1 c2).2) y4 z4).2) y6 z6).2).1, (((((((g1.2 x2 x3 zao1 z1).1 c2).2) y4 z4).2) y6 z6).2).2⟩⟩⟩⟩, fun c2 => ⟨((g1.2 x2 x3 zao1 z1).2 c2).1, hK _ (((g1.2 x2 x3 zao1 z1).2 c2).2)⟩⟩⟩)

end Go.Proofs.YtmbdcehmeiiaoaaDoor
