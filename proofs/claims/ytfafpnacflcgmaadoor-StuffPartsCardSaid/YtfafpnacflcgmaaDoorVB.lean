/- What must hold so that each function ends well: pure predicates, made by program. -/
import Derived.Test.YtfafpnacflcgmaaDoorPA
set_option linter.unusedVariables false
set_option linter.unusedSimpArgs false
namespace Go.Proofs.YtfafpnacflcgmaaDoor
open Go.Sy Go.RowKit
def bnumber_vc (u0 : List UInt8) (K : (Int × Int) → Prop) : Prop :=
  ((((bcheckS u0) != 0) = true →
      (K (0, (bcheckS u0)))) ∧
    (((bcheckS u0) != 0) = false →
      (((decide ((u0.length : Int) > 62)) = true →
        (K (0, 2))) ∧
      ((decide ((u0.length : Int) > 62)) = false →
        ((u0.length ≤ 62 ∧ isRow u0 = true) ∧
        (K (w64 (breadS u0), 0)))))))
theorem bnumber_mono {u0 : List UInt8} {K K1 : (Int × Int) → Prop} (hK : ∀ r, K r → K1 r) (h : bnumber_vc u0 K) : bnumber_vc u0 K1 :=
  ⟨fun c0 => hK _ (h.1 c0), fun c0 => ⟨fun c1 => hK _ ((h.2 c0).1 c1), fun c1 => ⟨((h.2 c0).2 c1).1, hK _ (((h.2 c0).2 c1).2)⟩⟩⟩

def brow_vc (u0 : Int) (u1 : Int) (K : ((List UInt8) × Int) → Prop) : Prop :=
  ((((decide (u1 < 0)) || (decide (u1 > 62))) = true →
      (K ([], 2))) ∧
    (((decide (u1 < 0)) || (decide (u1 > 62))) = false →
      (((decide (u0 < 0)) = true →
        (K ([], 3))) ∧
      ((decide (u0 < 0)) = false →
        ((0 ≤ u1) ∧
        ((((bShr .i64 u0 u1) != 0) = true →
          (K ([], 3))) ∧
        (((bShr .i64 u0 u1) != 0) = false →
          ((0 ≤ u1 ∧ u1 ≤ 64 ∧ 0 ≤ (wu64 u0) ∧ (wu64 u0) < 2 ^ 62) ∧
          (K ((bwriteS (wu64 u0) u1), 0))))))))))
theorem brow_mono {u0 : Int} {u1 : Int} {K K1 : ((List UInt8) × Int) → Prop} (hK : ∀ r, K r → K1 r) (h : brow_vc u0 u1 K) : brow_vc u0 u1 K1 :=
  ⟨fun c0 => hK _ (h.1 c0), fun c0 => ⟨fun c1 => hK _ ((h.2 c0).1 c1), fun c1 => ⟨((h.2 c0).2 c1).1, ⟨fun c3 => hK _ ((((h.2 c0).2 c1).2).1 c3), fun c3 => ⟨((((h.2 c0).2 c1).2).2 c3).1, hK _ (((((h.2 c0).2 c1).2).2 c3).2)⟩⟩⟩⟩⟩

def rtake_vc (u0 : Reader) (u1 : Int) (K : ((List UInt8) × Reader) → Prop) : Prop :=
  (∃ inv14 : (List Int) → Int → Reader → Prop, ∃ mu14 : (List Int) → Int → Reader → Nat, inv14 ([] : List Int) 0 u0 ∧
    (∀ (x5 : List Int) (x11 : Int) (yb1 : Reader), inv14 x5 x11 yb1 →
    (((decide (x11 < u1)) = true →
      ((0 ≤ yb1.At ∧ yb1.At ≤ (yb1.Row.length : Int) ∧ yb1.Row.length ≤ 1000000) ∧
      (∀ r42, (rbitS yb1) = r42 →
      (((r42.2.Code != 0) = true →
        (K ([], r42.2))) ∧
      ((r42.2.Code != 0) = false →
        (((x5.length + 1) * 1 ≤ 140737488355328) ∧
        ((-1000000 ≤ r42.2.c.n ∧ r42.2.c.n ≤ 1000000 ∧ 0 ≤ r42.1 ∧ r42.1 ≤ 97) ∧
        (∀ r106, (cnextRS r42.2 r42.1) = r106 →
        ((r106.2.1 = true →
          ((0 ≤ r106.2.2.At ∧ r106.2.2.At ≤ (r106.2.2.Row.length : Int) ∧ r106.2.2.Row.length ≤ 1000000) ∧
          (∀ r137, (rbitS r106.2.2) = r137 →
          ((((r137.2.Code == 0) && (r137.1 != r106.1)) = true →
            ((-1000000 ≤ (⟨r137.2.Row, r137.2.At, 5, r137.2.c⟩ : Reader).c.n ∧ (⟨r137.2.Row, r137.2.At, 5, r137.2.c⟩ : Reader).c.n ≤ 1000000 ∧ 0 ≤ r106.1 ∧ r106.1 ≤ 97) ∧
            (∀ r197, (cnextRS (⟨r137.2.Row, r137.2.At, 5, r137.2.c⟩ : Reader) r106.1) = r197 →
            (inv14 (x5 ++ [r42.1]) (w64 (x11 + 1)) r197.2.2 ∧ mu14 (x5 ++ [r42.1]) (w64 (x11 + 1)) r197.2.2 < mu14 x5 x11 yb1)))) ∧
          (((r137.2.Code == 0) && (r137.1 != r106.1)) = false →
            ((-1000000 ≤ r137.2.c.n ∧ r137.2.c.n ≤ 1000000 ∧ 0 ≤ r106.1 ∧ r106.1 ≤ 97) ∧
            (∀ r227, (cnextRS r137.2 r106.1) = r227 →
            (inv14 (x5 ++ [r42.1]) (w64 (x11 + 1)) r227.2.2 ∧ mu14 (x5 ++ [r42.1]) (w64 (x11 + 1)) r227.2.2 < mu14 x5 x11 yb1)))))))) ∧
        (r106.2.1 = false →
          (inv14 (x5 ++ [r42.1]) (w64 (x11 + 1)) r106.2.2 ∧ mu14 (x5 ++ [r42.1]) (w64 (x11 + 1)) r106.2.2 < mu14 x5 x11 yb1))))))))))) ∧
    ((decide (x11 < u1)) = false →
      (((yb1.Code != 0) = true →
        (K ([], yb1))) ∧
      ((yb1.Code != 0) = false →
        (K (bstr x5, yb1))))))))
theorem rtake_mono {u0 : Reader} {u1 : Int} {K K1 : ((List UInt8) × Reader) → Prop} (hK : ∀ r, K r → K1 r) (h : rtake_vc u0 u1 K) : rtake_vc u0 u1 K1 :=
  (Exists.elim h fun i0 e0 => Exists.elim e0 fun m0 g0 => ⟨i0, m0, g0.1, fun x5 x11 yb1 z0 => ⟨fun c1 => ⟨((g0.2 x5 x11 yb1 z0).1 c1).1, fun r42 z3 => ⟨fun c4 => hK _ (((((g0.2 x5 x11 yb1 z0).1 c1).2) r42 z3).1 c4), fun c4 => ⟨(((((g0.2 x5 x11 yb1 z0).1 c1).2) r42 z3).2 c4).1, ⟨((((((g0.2 x5 x11 yb1 z0).1 c1).2) r42 z3).2 c4).2).1, fun r106 z7 => ⟨fun c8 => ⟨(((((((((g0.2 x5 x11 yb1 z0).1 c1).2) r42 z3).2 c4).2).2) r106 z7).1 c8).1, fun r137 z10 => ⟨fun c11 => ⟨((((((((((((g0.2 x5 x11 yb1 z0).1 c1).2) r42 z3).2 c4).2).2) r106 z7).1 c8).2) r137 z10).1 c11).1, fun r197 z13 => ((((((((((((((g0.2 x5 x11 yb1 z0).1 c1).2) r42 z3).2 c4).2).2) r106 z7).1 c8).2) r137 z10).1 c11).2) r197 z13)⟩, fun c11 => ⟨((((((((((((g0.2 x5 x11 yb1 z0).1 c1).2) r42 z3).2 c4).2).2) r106 z7).1 c8).2) r137 z10).2 c11).1, fun r227 z13 => ((((((((((((((g0.2 x5 x11 yb1 z0).1 c1).2) r42 z3).2 c4).2).2) r106 z7).1 c8).2) r137 z10).2 c11).2) r227 z13)⟩⟩⟩, fun c8 => (((((((((g0.2 x5 x11 yb1 z0).1 c1).2) r42 z3).2 c4).2).2) r106 z7).2 c8)⟩⟩⟩⟩⟩, fun c1 => ⟨fun c2 => hK _ (((g0.2 x5 x11 yb1 z0).2 c1).1 c2), fun c2 => hK _ (((g0.2 x5 x11 yb1 z0).2 c1).2 c2)⟩⟩⟩)

def sput_vc (u0 : List UInt8) (K : ((List UInt8) × Int) → Prop) : Prop :=
  ((((bcheckS u0) != 0) = true →
      (K ([], (bcheckS u0)))) ∧
    (((bcheckS u0) != 0) = false →
      (∃ inv47 : (List Int) → Int → Counter → Prop, ∃ mu47 : (List Int) → Int → Counter → Nat, inv47 ([] : List Int) 0 (⟨0, 0⟩ : Counter) ∧
      (∀ (x5 : List Int) (x17 : Int) (yb34 : Counter), inv47 x5 x17 yb34 →
      (((decide (x17 < (u0.length : Int))) = true →
        ((0 ≤ x17 ∧ x17 < (u0.length : Int)) ∧
        (∀ c80, u0[x17.toNat]? = some c80 →
        (((x5.length + 1) * 1 ≤ 140737488355328) ∧
        ((0 ≤ x17 ∧ x17 < (u0.length : Int)) ∧
        (∀ c109, u0[x17.toNat]? = some c109 →
        ((-1000000 ≤ yb34.n ∧ yb34.n ≤ 1000000 ∧ 0 ≤ (c109.toNat : Int) ∧ (c109.toNat : Int) ≤ 97) ∧
        (∀ r120, (cnextS yb34 (c109.toNat : Int)) = r120 →
        ((r120.2.1 = true →
          ((((x5 ++ [(c80.toNat : Int)]).length + 1) * 1 ≤ 140737488355328) ∧
          ((-1000000 ≤ r120.2.2.n ∧ r120.2.2.n ≤ 1000000 ∧ 0 ≤ r120.1 ∧ r120.1 ≤ 97) ∧
          (∀ r174, (cnextS r120.2.2 r120.1) = r174 →
          (inv47 ((x5 ++ [(c80.toNat : Int)]) ++ [r120.1]) (w64 (x17 + 1)) r174.2.2 ∧ mu47 ((x5 ++ [(c80.toNat : Int)]) ++ [r120.1]) (w64 (x17 + 1)) r174.2.2 < mu47 x5 x17 yb34))))) ∧
        (r120.2.1 = false →
          (inv47 (x5 ++ [(c80.toNat : Int)]) (w64 (x17 + 1)) r120.2.2 ∧ mu47 (x5 ++ [(c80.toNat : Int)]) (w64 (x17 + 1)) r120.2.2 < mu47 x5 x17 yb34))))))))))) ∧
      ((decide (x17 < (u0.length : Int))) = false →
        (K (bstr x5, 0))))))))
theorem sput_mono {u0 : List UInt8} {K K1 : ((List UInt8) × Int) → Prop} (hK : ∀ r, K r → K1 r) (h : sput_vc u0 K) : sput_vc u0 K1 :=
  ⟨fun c0 => hK _ (h.1 c0), fun c0 => (Exists.elim (h.2 c0) fun i1 e1 => Exists.elim e1 fun m1 g1 => ⟨i1, m1, g1.1, fun x5 x17 yb34 z1 => ⟨fun c2 => ⟨((g1.2 x5 x17 yb34 z1).1 c2).1, fun c80 z4 => ⟨((((g1.2 x5 x17 yb34 z1).1 c2).2) c80 z4).1, ⟨(((((g1.2 x5 x17 yb34 z1).1 c2).2) c80 z4).2).1, fun c109 z7 => ⟨(((((((g1.2 x5 x17 yb34 z1).1 c2).2) c80 z4).2).2) c109 z7).1, fun r120 z9 => ⟨fun c10 => ⟨((((((((((g1.2 x5 x17 yb34 z1).1 c2).2) c80 z4).2).2) c109 z7).2) r120 z9).1 c10).1, ⟨(((((((((((g1.2 x5 x17 yb34 z1).1 c2).2) c80 z4).2).2) c109 z7).2) r120 z9).1 c10).2).1, fun r174 z13 => (((((((((((((g1.2 x5 x17 yb34 z1).1 c2).2) c80 z4).2).2) c109 z7).2) r120 z9).1 c10).2).2) r174 z13)⟩⟩, fun c10 => ((((((((((g1.2 x5 x17 yb34 z1).1 c2).2) c80 z4).2).2) c109 z7).2) r120 z9).2 c10)⟩⟩⟩⟩⟩, fun c2 => hK _ ((g1.2 x5 x17 yb34 z1).2 c2)⟩⟩)⟩

def sfixed_vc (u0 : List UInt8) (u1 : Int) (K : ((List UInt8) × Int) → Prop) : Prop :=
  ((((bcheckS u0) != 0) = true →
      (K ([], (bcheckS u0)))) ∧
    (((bcheckS u0) != 0) = false →
      ((((u1 != 48) && (u1 != 49)) = true →
        (K ([], 3))) ∧
      (((u1 != 48) && (u1 != 49)) = false →
        (∃ inv70 : (List Int) → Int → Int → Prop, ∃ mu70 : (List Int) → Int → Int → Nat, inv70 ([] : List Int) u1 0 ∧
        (∀ (x7 : List Int) (x8 : Int) (x24 : Int), inv70 x7 x8 x24 →
        (((decide (x24 < (u0.length : Int))) = true →
          ((((x24.tmod 4) == 0) = true →
            (((x7.length + 1) * 1 ≤ 140737488355328) ∧
            ((0 ≤ x24 ∧ x24 < (u0.length : Int)) ∧
            (∀ c136, u0[x24.toNat]? = some c136 →
            ((((x7 ++ [w8 (97 - x8)]).length + 1) * 1 ≤ 140737488355328) ∧
            ((0 ≤ x24 ∧ x24 < (u0.length : Int)) ∧
            (∀ c166, u0[x24.toNat]? = some c166 →
            (inv70 ((x7 ++ [w8 (97 - x8)]) ++ [(c136.toNat : Int)]) (c166.toNat : Int) (w64 (x24 + 1)) ∧ mu70 ((x7 ++ [w8 (97 - x8)]) ++ [(c136.toNat : Int)]) (c166.toNat : Int) (w64 (x24 + 1)) < mu70 x7 x8 x24)))))))) ∧
          (((x24.tmod 4) == 0) = false →
            ((0 ≤ x24 ∧ x24 < (u0.length : Int)) ∧
            (∀ c188, u0[x24.toNat]? = some c188 →
            (((x7.length + 1) * 1 ≤ 140737488355328) ∧
            ((0 ≤ x24 ∧ x24 < (u0.length : Int)) ∧
            (∀ c217, u0[x24.toNat]? = some c217 →
            (inv70 (x7 ++ [(c188.toNat : Int)]) (c217.toNat : Int) (w64 (x24 + 1)) ∧ mu70 (x7 ++ [(c188.toNat : Int)]) (c217.toNat : Int) (w64 (x24 + 1)) < mu70 x7 x8 x24))))))))) ∧
        ((decide (x24 < (u0.length : Int))) = false →
          (K (bstr x7, 0))))))))))
theorem sfixed_mono {u0 : List UInt8} {u1 : Int} {K K1 : ((List UInt8) × Int) → Prop} (hK : ∀ r, K r → K1 r) (h : sfixed_vc u0 u1 K) : sfixed_vc u0 u1 K1 :=
  ⟨fun c0 => hK _ (h.1 c0), fun c0 => ⟨fun c1 => hK _ ((h.2 c0).1 c1), fun c1 => (Exists.elim ((h.2 c0).2 c1) fun i2 e2 => Exists.elim e2 fun m2 g2 => ⟨i2, m2, g2.1, fun x7 x8 x24 z2 => ⟨fun c3 => ⟨fun c4 => ⟨(((g2.2 x7 x8 x24 z2).1 c3).1 c4).1, ⟨((((g2.2 x7 x8 x24 z2).1 c3).1 c4).2).1, fun c136 z7 => ⟨((((((g2.2 x7 x8 x24 z2).1 c3).1 c4).2).2) c136 z7).1, ⟨(((((((g2.2 x7 x8 x24 z2).1 c3).1 c4).2).2) c136 z7).2).1, fun c166 z10 => (((((((((g2.2 x7 x8 x24 z2).1 c3).1 c4).2).2) c136 z7).2).2) c166 z10)⟩⟩⟩⟩, fun c4 => ⟨(((g2.2 x7 x8 x24 z2).1 c3).2 c4).1, fun c188 z6 => ⟨(((((g2.2 x7 x8 x24 z2).1 c3).2 c4).2) c188 z6).1, ⟨((((((g2.2 x7 x8 x24 z2).1 c3).2 c4).2) c188 z6).2).1, fun c217 z9 => ((((((((g2.2 x7 x8 x24 z2).1 c3).2 c4).2) c188 z6).2).2) c217 z9)⟩⟩⟩⟩, fun c3 => hK _ ((g2.2 x7 x8 x24 z2).2 c3)⟩⟩)⟩⟩

def putbits_vc (u0 : List UInt8) (K : (List UInt8) → Prop) : Prop :=
  (∃ inv15 : (List UInt8) → Int → Prop, ∃ mu15 : (List UInt8) → Int → Nat, inv15 [] 0 ∧
    (∀ (x3 : List UInt8) (x8 : Int), inv15 x3 x8 →
    (((decide (x8 < (u0.length : Int))) = true →
      ((0 ≤ x8 ∧ x8 ≤ (w64 (x8 + 1)) ∧ (w64 (x8 + 1)) ≤ (u0.length : Int)) ∧
      (((x3.length : Int) + (((u0.take (w64 (x8 + 1)).toNat).drop x8.toNat).length : Int) ≤ 9223372036854775807) ∧
      (((decide (((x3 ++ ((u0.take (w64 (x8 + 1)).toNat).drop x8.toNat)).length : Int) ≥ 5)) = true →
        ((0 ≤ w64 (((x3 ++ ((u0.take (w64 (x8 + 1)).toNat).drop x8.toNat)).length : Int) - 5) ∧ w64 (((x3 ++ ((u0.take (w64 (x8 + 1)).toNat).drop x8.toNat)).length : Int) - 5) ≤ ((x3 ++ ((u0.take (w64 (x8 + 1)).toNat).drop x8.toNat)).length : Int)) ∧
        ((0 ≤ w64 (((x3 ++ ((u0.take (w64 (x8 + 1)).toNat).drop x8.toNat)).length : Int) - 1) ∧ w64 (((x3 ++ ((u0.take (w64 (x8 + 1)).toNat).drop x8.toNat)).length : Int) - 1) ≤ ((x3 ++ ((u0.take (w64 (x8 + 1)).toNat).drop x8.toNat)).length : Int)) ∧
        ((((x3 ++ ((u0.take (w64 (x8 + 1)).toNat).drop x8.toNat)).drop (w64 (((x3 ++ ((u0.take (w64 (x8 + 1)).toNat).drop x8.toNat)).length : Int) - 1)).toNat).length = 1) ∧
        ((((count1S ((x3 ++ ((u0.take (w64 (x8 + 1)).toNat).drop x8.toNat)).drop (w64 (((x3 ++ ((u0.take (w64 (x8 + 1)).toNat).drop x8.toNat)).length : Int) - 5)).toNat) ((x3 ++ ((u0.take (w64 (x8 + 1)).toNat).drop x8.toNat)).drop (w64 (((x3 ++ ((u0.take (w64 (x8 + 1)).toNat).drop x8.toNat)).length : Int) - 1)).toNat)) == 5) = true →
          ((0 ≤ w64 (((x3 ++ ((u0.take (w64 (x8 + 1)).toNat).drop x8.toNat)).length : Int) - 1) ∧ w64 (((x3 ++ ((u0.take (w64 (x8 + 1)).toNat).drop x8.toNat)).length : Int) - 1) < ((x3 ++ ((u0.take (w64 (x8 + 1)).toNat).drop x8.toNat)).length : Int)) ∧
          (∀ c136, (x3 ++ ((u0.take (w64 (x8 + 1)).toNat).drop x8.toNat))[(w64 (((x3 ++ ((u0.take (w64 (x8 + 1)).toNat).drop x8.toNat)).length : Int) - 1)).toNat]? = some c136 →
          ((((x3 ++ ((u0.take (w64 (x8 + 1)).toNat).drop x8.toNat)).length : Int) + ((bstr ([(rother (c136.toNat : Int))] : List Int)).length : Int) ≤ 9223372036854775807) ∧
          (inv15 ((x3 ++ ((u0.take (w64 (x8 + 1)).toNat).drop x8.toNat)) ++ (bstr ([(rother (c136.toNat : Int))] : List Int))) (w64 (x8 + 1)) ∧ mu15 ((x3 ++ ((u0.take (w64 (x8 + 1)).toNat).drop x8.toNat)) ++ (bstr ([(rother (c136.toNat : Int))] : List Int))) (w64 (x8 + 1)) < mu15 x3 x8))))) ∧
        (((count1S ((x3 ++ ((u0.take (w64 (x8 + 1)).toNat).drop x8.toNat)).drop (w64 (((x3 ++ ((u0.take (w64 (x8 + 1)).toNat).drop x8.toNat)).length : Int) - 5)).toNat) ((x3 ++ ((u0.take (w64 (x8 + 1)).toNat).drop x8.toNat)).drop (w64 (((x3 ++ ((u0.take (w64 (x8 + 1)).toNat).drop x8.toNat)).length : Int) - 1)).toNat)) == 5) = false →
          (inv15 (x3 ++ ((u0.take (w64 (x8 + 1)).toNat).drop x8.toNat)) (w64 (x8 + 1)) ∧ mu15 (x3 ++ ((u0.take (w64 (x8 + 1)).toNat).drop x8.toNat)) (w64 (x8 + 1)) < mu15 x3 x8))))))) ∧
      ((decide (((x3 ++ ((u0.take (w64 (x8 + 1)).toNat).drop x8.toNat)).length : Int) ≥ 5)) = false →
        (inv15 (x3 ++ ((u0.take (w64 (x8 + 1)).toNat).drop x8.toNat)) (w64 (x8 + 1)) ∧ mu15 (x3 ++ ((u0.take (w64 (x8 + 1)).toNat).drop x8.toNat)) (w64 (x8 + 1)) < mu15 x3 x8)))))) ∧
    ((decide (x8 < (u0.length : Int))) = false →
      (K x3)))))
theorem putbits_mono {u0 : List UInt8} {K K1 : (List UInt8) → Prop} (hK : ∀ r, K r → K1 r) (h : putbits_vc u0 K) : putbits_vc u0 K1 :=
  (Exists.elim h fun i0 e0 => Exists.elim e0 fun m0 g0 => ⟨i0, m0, g0.1, fun x3 x8 z0 => ⟨fun c1 => ⟨((g0.2 x3 x8 z0).1 c1).1, ⟨(((g0.2 x3 x8 z0).1 c1).2).1, ⟨fun c4 => ⟨(((((g0.2 x3 x8 z0).1 c1).2).2).1 c4).1, ⟨((((((g0.2 x3 x8 z0).1 c1).2).2).1 c4).2).1, ⟨(((((((g0.2 x3 x8 z0).1 c1).2).2).1 c4).2).2).1, ⟨fun c8 => ⟨(((((((((g0.2 x3 x8 z0).1 c1).2).2).1 c4).2).2).2).1 c8).1, fun c136 z10 => ⟨(((((((((((g0.2 x3 x8 z0).1 c1).2).2).1 c4).2).2).2).1 c8).2) c136 z10).1, (((((((((((g0.2 x3 x8 z0).1 c1).2).2).1 c4).2).2).2).1 c8).2) c136 z10).2⟩⟩, fun c8 => (((((((((g0.2 x3 x8 z0).1 c1).2).2).1 c4).2).2).2).2 c8)⟩⟩⟩⟩, fun c4 => (((((g0.2 x3 x8 z0).1 c1).2).2).2 c4)⟩⟩⟩, fun c1 => hK _ ((g0.2 x3 x8 z0).2 c1)⟩⟩)

def takebits_vc (u0 : List UInt8) (u1 : Int) (K : ((List UInt8) × Int × Int) → Prop) : Prop :=
  (∃ inv15 : (List UInt8) → Int → Prop, ∃ mu15 : (List UInt8) → Int → Nat, inv15 [] 0 ∧
    (∀ (x7 : List UInt8) (x8 : Int), inv15 x7 x8 →
    (((decide ((x7.length : Int) < u1)) = true →
      (((x8 == (u0.length : Int)) = true →
        (K ([], 0, 7))) ∧
      ((x8 == (u0.length : Int)) = false →
        ((0 ≤ x8 ∧ x8 ≤ (w64 (x8 + 1)) ∧ (w64 (x8 + 1)) ≤ (u0.length : Int)) ∧
        (((x7.length : Int) + (((u0.take (w64 (x8 + 1)).toNat).drop x8.toNat).length : Int) ≤ 9223372036854775807) ∧
        (((decide ((w64 (x8 + 1)) ≥ 5)) = true →
          ((0 ≤ w64 ((w64 (x8 + 1)) - 5) ∧ w64 ((w64 (x8 + 1)) - 5) ≤ (w64 (x8 + 1)) ∧ (w64 (x8 + 1)) ≤ (u0.length : Int)) ∧
          ((0 < ((u0.take (w64 (x8 + 1)).toNat).drop (w64 ((w64 (x8 + 1)) - 5)).toNat).length ∧ ((u0.take (w64 (x8 + 1)).toNat).drop (w64 ((w64 (x8 + 1)) - 5)).toNat).length ≤ 1000) ∧
          (((rsameS ((u0.take (w64 (x8 + 1)).toNat).drop (w64 ((w64 (x8 + 1)) - 5)).toNat)) = true →
            ((((w64 (x8 + 1)) == (u0.length : Int)) = true →
              (K ([], 0, 7))) ∧
            (((w64 (x8 + 1)) == (u0.length : Int)) = false →
              ((0 ≤ w64 (x8 + 1) ∧ w64 (x8 + 1) < (u0.length : Int)) ∧
              (∀ c155, u0[(w64 (x8 + 1)).toNat]? = some c155 →
              ((0 ≤ w64 ((w64 (x8 + 1)) - 1) ∧ w64 ((w64 (x8 + 1)) - 1) < (u0.length : Int)) ∧
              (∀ c172, u0[(w64 ((w64 (x8 + 1)) - 1)).toNat]? = some c172 →
              ((((c155.toNat : Int) == (c172.toNat : Int)) = true →
                (K ([], 0, 5))) ∧
              (((c155.toNat : Int) == (c172.toNat : Int)) = false →
                (inv15 (x7 ++ ((u0.take (w64 (x8 + 1)).toNat).drop x8.toNat)) (w64 ((w64 (x8 + 1)) + 1)) ∧ mu15 (x7 ++ ((u0.take (w64 (x8 + 1)).toNat).drop x8.toNat)) (w64 ((w64 (x8 + 1)) + 1)) < mu15 x7 x8)))))))))) ∧
          ((rsameS ((u0.take (w64 (x8 + 1)).toNat).drop (w64 ((w64 (x8 + 1)) - 5)).toNat)) = false →
            (inv15 (x7 ++ ((u0.take (w64 (x8 + 1)).toNat).drop x8.toNat)) (w64 (x8 + 1)) ∧ mu15 (x7 ++ ((u0.take (w64 (x8 + 1)).toNat).drop x8.toNat)) (w64 (x8 + 1)) < mu15 x7 x8)))))) ∧
        ((decide ((w64 (x8 + 1)) ≥ 5)) = false →
          (inv15 (x7 ++ ((u0.take (w64 (x8 + 1)).toNat).drop x8.toNat)) (w64 (x8 + 1)) ∧ mu15 (x7 ++ ((u0.take (w64 (x8 + 1)).toNat).drop x8.toNat)) (w64 (x8 + 1)) < mu15 x7 x8)))))))) ∧
    ((decide ((x7.length : Int) < u1)) = false →
      (K (x7, x8, 0))))))
theorem takebits_mono {u0 : List UInt8} {u1 : Int} {K K1 : ((List UInt8) × Int × Int) → Prop} (hK : ∀ r, K r → K1 r) (h : takebits_vc u0 u1 K) : takebits_vc u0 u1 K1 :=
  (Exists.elim h fun i0 e0 => Exists.elim e0 fun m0 g0 => ⟨i0, m0, g0.1, fun x7 x8 z0 => ⟨fun c1 => ⟨fun c2 => hK _ (((g0.2 x7 x8 z0).1 c1).1 c2), fun c2 => ⟨(((g0.2 x7 x8 z0).1 c1).2 c2).1, ⟨((((g0.2 x7 x8 z0).1 c1).2 c2).2).1, ⟨fun c5 => ⟨((((((g0.2 x7 x8 z0).1 c1).2 c2).2).2).1 c5).1, ⟨(((((((g0.2 x7 x8 z0).1 c1).2 c2).2).2).1 c5).2).1, ⟨fun c8 => ⟨fun c9 => hK _ ((((((((((g0.2 x7 x8 z0).1 c1).2 c2).2).2).1 c5).2).2).1 c8).1 c9), fun c9 => ⟨((((((((((g0.2 x7 x8 z0).1 c1).2 c2).2).2).1 c5).2).2).1 c8).2 c9).1, fun c155 z11 => ⟨((((((((((((g0.2 x7 x8 z0).1 c1).2 c2).2).2).1 c5).2).2).1 c8).2 c9).2) c155 z11).1, fun c172 z13 => ⟨fun c14 => hK _ (((((((((((((((g0.2 x7 x8 z0).1 c1).2 c2).2).2).1 c5).2).2).1 c8).2 c9).2) c155 z11).2) c172 z13).1 c14), fun c14 => (((((((((((((((g0.2 x7 x8 z0).1 c1).2 c2).2).2).1 c5).2).2).1 c8).2 c9).2) c155 z11).2) c172 z13).2 c14)⟩⟩⟩⟩, fun c8 => (((((((((g0.2 x7 x8 z0).1 c1).2 c2).2).2).1 c5).2).2).2 c8)⟩⟩⟩, fun c5 => ((((((g0.2 x7 x8 z0).1 c1).2 c2).2).2).2 c5)⟩⟩⟩⟩, fun c1 => hK _ ((g0.2 x7 x8 z0).2 c1)⟩⟩)

def brun_vc (u0 : List UInt8) (K : (Int × Int) → Prop) : Prop :=
  ((((bcheckS u0) != 0) = true →
      (K (0, (bcheckS u0)))) ∧
    (((bcheckS u0) != 0) = false →
      (∃ inv43 : Int → Int → Int → Prop, ∃ mu43 : Int → Int → Int → Nat, inv43 0 0 0 ∧
      (∀ (x5 : Int) (x6 : Int) (x15 : Int), inv43 x5 x6 x15 →
      (((decide (x15 < (u0.length : Int))) = true →
        (((decide (x15 > 0)) = true →
          ((0 ≤ x15 ∧ x15 < (u0.length : Int)) ∧
          (∀ c90, u0[x15.toNat]? = some c90 →
          ((0 ≤ w64 (x15 - 1) ∧ w64 (x15 - 1) < (u0.length : Int)) ∧
          (∀ c107, u0[(w64 (x15 - 1)).toNat]? = some c107 →
          ((((c90.toNat : Int) == (c107.toNat : Int)) = true →
            (inv43 (max x5 (w64 (x6 + 1))) (w64 (x6 + 1)) (w64 (x15 + 1)) ∧ mu43 (max x5 (w64 (x6 + 1))) (w64 (x6 + 1)) (w64 (x15 + 1)) < mu43 x5 x6 x15)) ∧
          (((c90.toNat : Int) == (c107.toNat : Int)) = false →
            (inv43 (max x5 1) 1 (w64 (x15 + 1)) ∧ mu43 (max x5 1) 1 (w64 (x15 + 1)) < mu43 x5 x6 x15)))))))) ∧
        ((decide (x15 > 0)) = false →
          (inv43 (max x5 1) 1 (w64 (x15 + 1)) ∧ mu43 (max x5 1) 1 (w64 (x15 + 1)) < mu43 x5 x6 x15)))) ∧
      ((decide (x15 < (u0.length : Int))) = false →
        (K (x5, 0))))))))
theorem brun_mono {u0 : List UInt8} {K K1 : (Int × Int) → Prop} (hK : ∀ r, K r → K1 r) (h : brun_vc u0 K) : brun_vc u0 K1 :=
  ⟨fun c0 => hK _ (h.1 c0), fun c0 => (Exists.elim (h.2 c0) fun i1 e1 => Exists.elim e1 fun m1 g1 => ⟨i1, m1, g1.1, fun x5 x6 x15 z1 => ⟨fun c2 => ⟨fun c3 => ⟨(((g1.2 x5 x6 x15 z1).1 c2).1 c3).1, fun c90 z5 => ⟨(((((g1.2 x5 x6 x15 z1).1 c2).1 c3).2) c90 z5).1, fun c107 z7 => ⟨fun c8 => ((((((((g1.2 x5 x6 x15 z1).1 c2).1 c3).2) c90 z5).2) c107 z7).1 c8), fun c8 => ((((((((g1.2 x5 x6 x15 z1).1 c2).1 c3).2) c90 z5).2) c107 z7).2 c8)⟩⟩⟩, fun c3 => (((g1.2 x5 x6 x15 z1).1 c2).2 c3)⟩, fun c2 => hK _ ((g1.2 x5 x6 x15 z1).2 c2)⟩⟩)⟩

end Go.Proofs.YtfafpnacflcgmaaDoor
