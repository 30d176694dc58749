/- What must hold so that each function ends well: pure predicates, made by program. -/
import Derived.Test.YtmbdcehmeiiaoaaGreatDoorPA
set_option linter.unusedVariables false
set_option linter.unusedSimpArgs false
namespace Go.Proofs.YtmbdcehmeiiaoaaGreatDoor
open Go.Sy Go.RowKit
def csum_vc (u0 : Int) (u1 : List UInt8) (K : ((List UInt8) × Int) → Prop) : Prop :=
  ((((bcheckS u1) != 0) = true →
      (K ([], (bcheckS u1)))) ∧
    (((bcheckS u1) != 0) = false →
      ((((decide (u0 < 0)) || (decide (u0 ≥ 5))) = true →
        (K ([], 8))) ∧
      (((decide (u0 < 0)) || (decide (u0 ≥ 5))) = false →
        ((0 ≤ u0 ∧ u0 < 5) ∧
        ((okKindS (⟨([ckinds.1.Size, ckinds.2.1.Size, ckinds.2.2.1.Size, ckinds.2.2.2.1.Size, ckinds.2.2.2.2.Size] : List Int).getD u0.toNat 0, ([ckinds.1.Poly, ckinds.2.1.Poly, ckinds.2.2.1.Poly, ckinds.2.2.2.1.Poly, ckinds.2.2.2.2.Poly] : List Int).getD u0.toNat 0, ([ckinds.1.From, ckinds.2.1.From, ckinds.2.2.1.From, ckinds.2.2.2.1.From, ckinds.2.2.2.2.From] : List Int).getD u0.toNat 0, ([ckinds.1.End, ckinds.2.1.End, ckinds.2.2.1.End, ckinds.2.2.2.1.End, ckinds.2.2.2.2.End] : List Int).getD u0.toNat 0⟩ : Kind) ∧ u1.length ≤ 1000000) ∧
        ((0 ≤ (([ckinds.1.Size, ckinds.2.1.Size, ckinds.2.2.1.Size, ckinds.2.2.2.1.Size, ckinds.2.2.2.2.Size] : List Int).getD u0.toNat 0) ∧ (([ckinds.1.Size, ckinds.2.1.Size, ckinds.2.2.1.Size, ckinds.2.2.2.1.Size, ckinds.2.2.2.2.Size] : List Int).getD u0.toNat 0) ≤ 64 ∧ 0 ≤ (ksumS (⟨([ckinds.1.Size, ckinds.2.1.Size, ckinds.2.2.1.Size, ckinds.2.2.2.1.Size, ckinds.2.2.2.2.Size] : List Int).getD u0.toNat 0, ([ckinds.1.Poly, ckinds.2.1.Poly, ckinds.2.2.1.Poly, ckinds.2.2.2.1.Poly, ckinds.2.2.2.2.Poly] : List Int).getD u0.toNat 0, ([ckinds.1.From, ckinds.2.1.From, ckinds.2.2.1.From, ckinds.2.2.2.1.From, ckinds.2.2.2.2.From] : List Int).getD u0.toNat 0, ([ckinds.1.End, ckinds.2.1.End, ckinds.2.2.1.End, ckinds.2.2.2.1.End, ckinds.2.2.2.2.End] : List Int).getD u0.toNat 0⟩ : Kind) u1) ∧ (ksumS (⟨([ckinds.1.Size, ckinds.2.1.Size, ckinds.2.2.1.Size, ckinds.2.2.2.1.Size, ckinds.2.2.2.2.Size] : List Int).getD u0.toNat 0, ([ckinds.1.Poly, ckinds.2.1.Poly, ckinds.2.2.1.Poly, ckinds.2.2.2.1.Poly, ckinds.2.2.2.2.Poly] : List Int).getD u0.toNat 0, ([ckinds.1.From, ckinds.2.1.From, ckinds.2.2.1.From, ckinds.2.2.2.1.From, ckinds.2.2.2.2.From] : List Int).getD u0.toNat 0, ([ckinds.1.End, ckinds.2.1.End, ckinds.2.2.1.End, ckinds.2.2.2.1.End, ckinds.2.2.2.2.End] : List Int).getD u0.toNat 0⟩ : Kind) u1) < 2 ^ 62) ∧
        (K ((bwriteS (ksumS (⟨([ckinds.1.Size, ckinds.2.1.Size, ckinds.2.2.1.Size, ckinds.2.2.2.1.Size, ckinds.2.2.2.2.Size] : List Int).getD u0.toNat 0, ([ckinds.1.Poly, ckinds.2.1.Poly, ckinds.2.2.1.Poly, ckinds.2.2.2.1.Poly, ckinds.2.2.2.2.Poly] : List Int).getD u0.toNat 0, ([ckinds.1.From, ckinds.2.1.From, ckinds.2.2.1.From, ckinds.2.2.2.1.From, ckinds.2.2.2.2.From] : List Int).getD u0.toNat 0, ([ckinds.1.End, ckinds.2.1.End, ckinds.2.2.1.End, ckinds.2.2.2.1.End, ckinds.2.2.2.2.End] : List Int).getD u0.toNat 0⟩ : Kind) u1) (([ckinds.1.Size, ckinds.2.1.Size, ckinds.2.2.1.Size, ckinds.2.2.2.1.Size, ckinds.2.2.2.2.Size] : List Int).getD u0.toNat 0)), 0)))))))))

def bof_vc (u0 : List Int) (K : ((List UInt8) × Int) → Prop) : Prop :=
  (u0.length ≤ 140737488355328 →
    (((decide ((u0.length : Int) > 125)) = true →
      (K ([], 2))) ∧
    ((decide ((u0.length : Int) > 125)) = false →
      (∃ inv39 : Int → (List UInt8) → Prop, ∃ mu39 : Int → (List UInt8) → Nat, inv39 0 ([] : List UInt8) ∧
      (∀ (x12 : Int) (yb26 : List UInt8), inv39 x12 yb26 →
      (((decide (x12 < (u0.length : Int))) = true →
        ((0 ≤ x12 ∧ x12 < (u0.length : Int)) ∧
        (∀ q64, u0[x12.toNat]? = some q64 →
        ((0 ≤ (8 : Int) ∧ (8 : Int) ≤ 64 ∧ 0 ≤ (wu64 q64) ∧ (wu64 q64) < 2 ^ 62) ∧
        ((yb26.length + (bwriteS (wu64 q64) 8).length ≤ 140737488355328) ∧
        (inv39 (w64 (x12 + 1)) (yb26 ++ (bwriteS (wu64 q64) 8)) ∧ mu39 (w64 (x12 + 1)) (yb26 ++ (bwriteS (wu64 q64) 8)) < mu39 x12 yb26)))))) ∧
      ((decide (x12 < (u0.length : Int))) = false →
        (K (yb26, 0)))))))))

def rtake_vc (u0 : Reader) (u1 : Int) (K : ((List UInt8) × Reader) → Prop) : Prop :=
  (∃ inv14 : (List Int) → Int → Reader → Prop, ∃ mu14 : (List Int) → Int → Reader → Nat, inv14 ([] : List Int) 0 u0 ∧
    (∀ (x5 : List Int) (x11 : Int) (yb1 : Reader), inv14 x5 x11 yb1 →
    (((decide (x11 < u1)) = true →
      ((0 ≤ yb1.At ∧ yb1.At ≤ (yb1.Row.length : Int) ∧ yb1.Row.length ≤ 1000000) ∧
      (∀ r42, (rbitS yb1) = r42 →
      (((r42.2.Code != 0) = true →
        (K ([], r42.2))) ∧
      ((r42.2.Code != 0) = false →
        (((x5.length + 1) * 1 ≤ 140737488355328) ∧
        ((-1000000 ≤ r42.2.c.n ∧ r42.2.c.n ≤ 1000000 ∧ 0 ≤ r42.1 ∧ r42.1 ≤ 97) ∧
        (∀ r106, (cnextRS r42.2 r42.1) = r106 →
        ((r106.2.1 = true →
          ((0 ≤ r106.2.2.At ∧ r106.2.2.At ≤ (r106.2.2.Row.length : Int) ∧ r106.2.2.Row.length ≤ 1000000) ∧
          (∀ r137, (rbitS r106.2.2) = r137 →
          ((((r137.2.Code == 0) && (r137.1 != r106.1)) = true →
            ((-1000000 ≤ (⟨r137.2.Row, r137.2.At, 5, r137.2.c⟩ : Reader).c.n ∧ (⟨r137.2.Row, r137.2.At, 5, r137.2.c⟩ : Reader).c.n ≤ 1000000 ∧ 0 ≤ r106.1 ∧ r106.1 ≤ 97) ∧
            (∀ r197, (cnextRS (⟨r137.2.Row, r137.2.At, 5, r137.2.c⟩ : Reader) r106.1) = r197 →
            (inv14 (x5 ++ [r42.1]) (w64 (x11 + 1)) r197.2.2 ∧ mu14 (x5 ++ [r42.1]) (w64 (x11 + 1)) r197.2.2 < mu14 x5 x11 yb1)))) ∧
          (((r137.2.Code == 0) && (r137.1 != r106.1)) = false →
            ((-1000000 ≤ r137.2.c.n ∧ r137.2.c.n ≤ 1000000 ∧ 0 ≤ r106.1 ∧ r106.1 ≤ 97) ∧
            (∀ r227, (cnextRS r137.2 r106.1) = r227 →
            (inv14 (x5 ++ [r42.1]) (w64 (x11 + 1)) r227.2.2 ∧ mu14 (x5 ++ [r42.1]) (w64 (x11 + 1)) r227.2.2 < mu14 x5 x11 yb1)))))))) ∧
        (r106.2.1 = false →
          (inv14 (x5 ++ [r42.1]) (w64 (x11 + 1)) r106.2.2 ∧ mu14 (x5 ++ [r42.1]) (w64 (x11 + 1)) r106.2.2 < mu14 x5 x11 yb1))))))))))) ∧
    ((decide (x11 < u1)) = false →
      (((yb1.Code != 0) = true →
        (K ([], yb1))) ∧
      ((yb1.Code != 0) = false →
        (K (bstr x5, yb1))))))))
theorem rtake_mono {u0 : Reader} {u1 : Int} {K K1 : ((List UInt8) × Reader) → Prop} (hK : ∀ r, K r → K1 r) (h : rtake_vc u0 u1 K) : rtake_vc u0 u1 K1 :=
  (Exists.elim h fun i0 e0 => Exists.elim e0 fun m0 g0 => ⟨i0, m0, g0.1, fun x5 x11 yb1 z0 => ⟨fun c1 => ⟨((g0.2 x5 x11 yb1 z0).1 c1).1, fun y3 z3 => ⟨fun c4 => hK _ (((((g0.2 x5 x11 yb1 z0).1 c1).2) y3 z3).1 c4), fun c4 => ⟨(((((g0.2 x5 x11 yb1 z0).1 c1).2) y3 z3).2 c4).1, ⟨((((((g0.2 x5 x11 yb1 z0).1 c1).2) y3 z3).2 c4).2).1, fun y7 z7 => ⟨fun c8 => ⟨(((((((((g0.2 x5 x11 yb1 z0).1 c1).2) y3 z3).2 c4).2).2) y7 z7).1 c8).1, fun y10 z10 => ⟨fun c11 => ⟨((((((((((((g0.2 x5 x11 yb1 z0).1 c1).2) y3 z3).2 c4).2).2) y7 z7).1 c8).2) y10 z10).1 c11).1, fun y13 z13 => ((((((((((((((g0.2 x5 x11 yb1 z0).1 c1).2) y3 z3).2 c4).2).2) y7 z7).1 c8).2) y10 z10).1 c11).2) y13 z13)⟩, fun c11 => ⟨((((((((((((g0.2 x5 x11 yb1 z0).1 c1).2) y3 z3).2 c4).2).2) y7 z7).1 c8).2) y10 z10).2 c11).1, fun y13 z13 => ((((((((((((((g0.2 x5 x11 yb1 z0).1 c1).2) y3 z3).2 c4).2).2) y7 z7).1 c8).2) y10 z10).2 c11).2) y13 z13)⟩⟩⟩, fun c8 => (((((((((g0.2 x5 x11 yb1 z0).1 c1).2) y3 z3).2 c4).2).2) y7 z7).2 c8)⟩⟩⟩⟩⟩, fun c1 => ⟨fun c2 => hK _ (((g0.2 x5 x11 yb1 z0).2 c1).1 c2), fun c2 => hK _ (((g0.2 x5 x11 yb1 z0).2 c1).2 c2)⟩⟩⟩)

def rplain_vc (u0 : Reader) (u1 : Int) (K : ((List UInt8) × Reader) → Prop) : Prop :=
  (∃ inv14 : (List Int) → Int → Reader → Prop, ∃ mu14 : (List Int) → Int → Reader → Nat, inv14 ([] : List Int) 0 u0 ∧
    (∀ (x5 : List Int) (x7 : Int) (yb1 : Reader), inv14 x5 x7 yb1 →
    (((decide (x7 < u1)) = true →
      ((0 ≤ yb1.At ∧ yb1.At ≤ (yb1.Row.length : Int) ∧ yb1.Row.length ≤ 1000000) ∧
      (∀ r44, (rbitS yb1) = r44 →
      (((x5.length + 1) * 1 ≤ 140737488355328) ∧
      (inv14 (x5 ++ [r44.1]) (w64 (x7 + 1)) r44.2 ∧ mu14 (x5 ++ [r44.1]) (w64 (x7 + 1)) r44.2 < mu14 x5 x7 yb1))))) ∧
    ((decide (x7 < u1)) = false →
      (((yb1.Code != 0) = true →
        (K ([], yb1))) ∧
      ((yb1.Code != 0) = false →
        (K (bstr x5, yb1))))))))
theorem rplain_mono {u0 : Reader} {u1 : Int} {K K1 : ((List UInt8) × Reader) → Prop} (hK : ∀ r, K r → K1 r) (h : rplain_vc u0 u1 K) : rplain_vc u0 u1 K1 :=
  (Exists.elim h fun i0 e0 => Exists.elim e0 fun m0 g0 => ⟨i0, m0, g0.1, fun x5 x7 yb1 z0 => ⟨fun c1 => ⟨((g0.2 x5 x7 yb1 z0).1 c1).1, fun y3 z3 => ⟨((((g0.2 x5 x7 yb1 z0).1 c1).2) y3 z3).1, ((((g0.2 x5 x7 yb1 z0).1 c1).2) y3 z3).2⟩⟩, fun c1 => ⟨fun c2 => hK _ (((g0.2 x5 x7 yb1 z0).2 c1).1 c2), fun c2 => hK _ (((g0.2 x5 x7 yb1 z0).2 c1).2 c2)⟩⟩⟩)

def rtakeF_vc (u0 : FReader) (u1 : Int) (K : ((List UInt8) × FReader) → Prop) : Prop :=
  (u0.f.Data.length ≤ 140737488355328 →
    (∃ inv18 : (List Int) → Int → FReader → Prop, ∃ mu18 : (List Int) → Int → FReader → Nat, inv18 ([] : List Int) 0 u0 ∧
    (∀ (x5 : List Int) (x11 : Int) (yb1 : FReader), inv18 x5 x11 yb1 →
    (((decide (x11 < u1)) = true →
      ((0 ≤ yb1.Reader.At ∧ yb1.Reader.At ≤ (yb1.Reader.Row.length : Int) ∧ yb1.Reader.Row.length ≤ 1000000) ∧
      (∀ r47, (rbitFS yb1) = r47 →
      (r47.2.f.Data.length ≤ 140737488355328 →
      (((r47.2.Reader.Code != 0) = true →
        (K ([], r47.2))) ∧
      ((r47.2.Reader.Code != 0) = false →
        (((x5.length + 1) * 1 ≤ 140737488355328) ∧
        ((-1000000 ≤ r47.2.Reader.c.n ∧ r47.2.Reader.c.n ≤ 1000000 ∧ 0 ≤ r47.1 ∧ r47.1 ≤ 97) ∧
        (∀ r115, (cnextFS r47.2 r47.1) = r115 →
        (r115.2.2.f.Data.length ≤ 140737488355328 →
        ((r115.2.1 = true →
          ((0 ≤ r115.2.2.Reader.At ∧ r115.2.2.Reader.At ≤ (r115.2.2.Reader.Row.length : Int) ∧ r115.2.2.Reader.Row.length ≤ 1000000) ∧
          (∀ r150, (rbitFS r115.2.2) = r150 →
          (r150.2.f.Data.length ≤ 140737488355328 →
          ((((r150.2.Reader.Code == 0) && (r150.1 != r115.1)) = true →
            ((-1000000 ≤ (⟨(⟨r150.2.Reader.Row, r150.2.Reader.At, 5, r150.2.Reader.c⟩ : Reader), r150.2.f⟩ : FReader).Reader.c.n ∧ (⟨(⟨r150.2.Reader.Row, r150.2.Reader.At, 5, r150.2.Reader.c⟩ : Reader), r150.2.f⟩ : FReader).Reader.c.n ≤ 1000000 ∧ 0 ≤ r115.1 ∧ r115.1 ≤ 97) ∧
            (∀ r214, (cnextFS (⟨(⟨r150.2.Reader.Row, r150.2.Reader.At, 5, r150.2.Reader.c⟩ : Reader), r150.2.f⟩ : FReader) r115.1) = r214 →
            (r214.2.2.f.Data.length ≤ 140737488355328 →
            (inv18 (x5 ++ [r47.1]) (w64 (x11 + 1)) r214.2.2 ∧ mu18 (x5 ++ [r47.1]) (w64 (x11 + 1)) r214.2.2 < mu18 x5 x11 yb1))))) ∧
          (((r150.2.Reader.Code == 0) && (r150.1 != r115.1)) = false →
            ((-1000000 ≤ r150.2.Reader.c.n ∧ r150.2.Reader.c.n ≤ 1000000 ∧ 0 ≤ r115.1 ∧ r115.1 ≤ 97) ∧
            (∀ r248, (cnextFS r150.2 r115.1) = r248 →
            (r248.2.2.f.Data.length ≤ 140737488355328 →
            (inv18 (x5 ++ [r47.1]) (w64 (x11 + 1)) r248.2.2 ∧ mu18 (x5 ++ [r47.1]) (w64 (x11 + 1)) r248.2.2 < mu18 x5 x11 yb1)))))))))) ∧
        (r115.2.1 = false →
          (inv18 (x5 ++ [r47.1]) (w64 (x11 + 1)) r115.2.2 ∧ mu18 (x5 ++ [r47.1]) (w64 (x11 + 1)) r115.2.2 < mu18 x5 x11 yb1))))))))))))) ∧
    ((decide (x11 < u1)) = false →
      (((yb1.Reader.Code != 0) = true →
        (K ([], yb1))) ∧
      ((yb1.Reader.Code != 0) = false →
        (K (bstr x5, yb1)))))))))
theorem rtakeF_lift (u0 : FReader) (u1 : Int) {K : ((List UInt8) × FReader) → Prop} (h : rtake_vc u0.Reader u1 fun r => K (r.1, (⟨r.2, u0.f⟩ : FReader))) : rtakeF_vc u0 u1 K :=
  fun z0 => (Exists.elim h fun i1 e1 => Exists.elim e1 fun m1 g1 => ⟨fun x5 x11 yb1 => (⟨yb1.Reader, u0.f⟩ : FReader) = yb1 ∧ i1 x5 x11 yb1.Reader, fun x5 x11 yb1 => m1 x5 x11 yb1.Reader, ⟨rfl, g1.1⟩, fun x5 x11 yb1 z1 => by obtain ⟨e1yb1, z1⟩ := z1; obtain ⟨yb1v1, hx1yb1⟩ : ∃ q, q = yb1.Reader := ⟨_, rfl⟩; rw [← hx1yb1] at e1yb1 z1; subst e1yb1; clear hx1yb1; exact ⟨fun c2 => ⟨((g1.2 x5 x11 yb1v1 z1).1 c2).1, fun y4 z4 => by subst z4; exact fun z5 => ⟨fun c6 => (((((g1.2 x5 x11 yb1v1 z1).1 c2).2) _ rfl).1 c6), fun c6 => ⟨(((((g1.2 x5 x11 yb1v1 z1).1 c2).2) _ rfl).2 c6).1, ⟨((((((g1.2 x5 x11 yb1v1 z1).1 c2).2) _ rfl).2 c6).2).1, fun y9 z9 => by subst z9; exact fun z10 => ⟨fun c11 => ⟨(((((((((g1.2 x5 x11 yb1v1 z1).1 c2).2) _ rfl).2 c6).2).2) _ rfl).1 c11).1, fun y13 z13 => by subst z13; exact fun z14 => ⟨fun c15 => ⟨((((((((((((g1.2 x5 x11 yb1v1 z1).1 c2).2) _ rfl).2 c6).2).2) _ rfl).1 c11).2) _ rfl).1 c15).1, fun y17 z17 => by subst z17; exact fun z18 => by first | exact ((((((((((((((g1.2 x5 x11 yb1v1 z1).1 c2).2) _ rfl).2 c6).2).2) _ rfl).1 c11).2) _ rfl).1 c15).2) _ rfl) | exact ⟨⟨rfl, ((((((((((((((g1.2 x5 x11 yb1v1 z1).1 c2).2) _ rfl).2 c6).2).2) _ rfl).1 c11).2) _ rfl).1 c15).2) _ rfl).1⟩, ((((((((((((((g1.2 x5 x11 yb1v1 z1).1 c2).2) _ rfl).2 c6).2).2) _ rfl).1 c11).2) _ rfl).1 c15).2) _ rfl).2⟩⟩, fun c15 => ⟨((((((((((((g1.2 x5 x11 yb1v1 z1).1 c2).2) _ rfl).2 c6).2).2) _ rfl).1 c11).2) _ rfl).2 c15).1, fun y17 z17 => by subst z17; exact fun z18 => by first | exact ((((((((((((((g1.2 x5 x11 yb1v1 z1).1 c2).2) _ rfl).2 c6).2).2) _ rfl).1 c11).2) _ rfl).2 c15).2) _ rfl) | exact ⟨⟨rfl, ((((((((((((((g1.2 x5 x11 yb1v1 z1).1 c2).2) _ rfl).2 c6).2).2) _ rfl).1 c11).2) _ rfl).2 c15).2) _ rfl).1⟩, ((((((((((((((g1.2 x5 x11 yb1v1 z1).1 c2).2) _ rfl).2 c6).2).2) _ rfl).1 c11).2) _ rfl).2 c15).2) _ rfl).2⟩⟩⟩⟩, fun c11 => by first | exact (((((((((g1.2 x5 x11 yb1v1 z1).1 c2).2) _ rfl).2 c6).2).2) _ rfl).2 c11) | exact ⟨⟨rfl, (((((((((g1.2 x5 x11 yb1v1 z1).1 c2).2) _ rfl).2 c6).2).2) _ rfl).2 c11).1⟩, (((((((((g1.2 x5 x11 yb1v1 z1).1 c2).2) _ rfl).2 c6).2).2) _ rfl).2 c11).2⟩⟩⟩⟩⟩⟩, fun c2 => ⟨fun c3 => (((g1.2 x5 x11 yb1v1 z1).2 c2).1 c3), fun c3 => (((g1.2 x5 x11 yb1v1 z1).2 c2).2 c3)⟩⟩⟩)

def rplainF_vc (u0 : FReader) (u1 : Int) (K : ((List UInt8) × FReader) → Prop) : Prop :=
  (u0.f.Data.length ≤ 140737488355328 →
    (∃ inv18 : (List Int) → Int → FReader → Prop, ∃ mu18 : (List Int) → Int → FReader → Nat, inv18 ([] : List Int) 0 u0 ∧
    (∀ (x5 : List Int) (x7 : Int) (yb1 : FReader), inv18 x5 x7 yb1 →
    (((decide (x7 < u1)) = true →
      ((0 ≤ yb1.Reader.At ∧ yb1.Reader.At ≤ (yb1.Reader.Row.length : Int) ∧ yb1.Reader.Row.length ≤ 1000000) ∧
      (∀ r49, (rbitFS yb1) = r49 →
      (r49.2.f.Data.length ≤ 140737488355328 →
      (((x5.length + 1) * 1 ≤ 140737488355328) ∧
      (inv18 (x5 ++ [r49.1]) (w64 (x7 + 1)) r49.2 ∧ mu18 (x5 ++ [r49.1]) (w64 (x7 + 1)) r49.2 < mu18 x5 x7 yb1)))))) ∧
    ((decide (x7 < u1)) = false →
      (((yb1.Reader.Code != 0) = true →
        (K ([], yb1))) ∧
      ((yb1.Reader.Code != 0) = false →
        (K (bstr x5, yb1)))))))))
theorem rplainF_lift (u0 : FReader) (u1 : Int) {K : ((List UInt8) × FReader) → Prop} (h : rplain_vc u0.Reader u1 fun r => K (r.1, (⟨r.2, u0.f⟩ : FReader))) : rplainF_vc u0 u1 K :=
  fun z0 => (Exists.elim h fun i1 e1 => Exists.elim e1 fun m1 g1 => ⟨fun x5 x7 yb1 => (⟨yb1.Reader, u0.f⟩ : FReader) = yb1 ∧ i1 x5 x7 yb1.Reader, fun x5 x7 yb1 => m1 x5 x7 yb1.Reader, ⟨rfl, g1.1⟩, fun x5 x7 yb1 z1 => by obtain ⟨e1yb1, z1⟩ := z1; obtain ⟨yb1v1, hx1yb1⟩ : ∃ q, q = yb1.Reader := ⟨_, rfl⟩; rw [← hx1yb1] at e1yb1 z1; subst e1yb1; clear hx1yb1; exact ⟨fun c2 => ⟨((g1.2 x5 x7 yb1v1 z1).1 c2).1, fun y4 z4 => by subst z4; exact fun z5 => ⟨((((g1.2 x5 x7 yb1v1 z1).1 c2).2) _ rfl).1, by first | exact ((((g1.2 x5 x7 yb1v1 z1).1 c2).2) _ rfl).2 | exact ⟨⟨rfl, (((((g1.2 x5 x7 yb1v1 z1).1 c2).2) _ rfl).2).1⟩, (((((g1.2 x5 x7 yb1v1 z1).1 c2).2) _ rfl).2).2⟩⟩⟩, fun c2 => ⟨fun c3 => (((g1.2 x5 x7 yb1v1 z1).2 c2).1 c3), fun c3 => (((g1.2 x5 x7 yb1v1 z1).2 c2).2 c3)⟩⟩⟩)

def sput_vc (u0 : List UInt8) (K : ((List UInt8) × Int) → Prop) : Prop :=
  ((((bcheckS u0) != 0) = true →
      (K ([], (bcheckS u0)))) ∧
    (((bcheckS u0) != 0) = false →
      (∃ inv47 : (List Int) → Int → Counter → Prop, ∃ mu47 : (List Int) → Int → Counter → Nat, inv47 ([] : List Int) 0 (⟨0, 0⟩ : Counter) ∧
      (∀ (x5 : List Int) (x17 : Int) (yb34 : Counter), inv47 x5 x17 yb34 →
      (((decide (x17 < (u0.length : Int))) = true →
        ((0 ≤ x17 ∧ x17 < (u0.length : Int)) ∧
        (∀ c80, u0[x17.toNat]? = some c80 →
        (((x5.length + 1) * 1 ≤ 140737488355328) ∧
        ((0 ≤ x17 ∧ x17 < (u0.length : Int)) ∧
        (∀ c109, u0[x17.toNat]? = some c109 →
        ((-1000000 ≤ yb34.n ∧ yb34.n ≤ 1000000 ∧ 0 ≤ (c109.toNat : Int) ∧ (c109.toNat : Int) ≤ 97) ∧
        (∀ r120, (cnextS yb34 (c109.toNat : Int)) = r120 →
        ((r120.2.1 = true →
          ((((x5 ++ [(c80.toNat : Int)]).length + 1) * 1 ≤ 140737488355328) ∧
          ((-1000000 ≤ r120.2.2.n ∧ r120.2.2.n ≤ 1000000 ∧ 0 ≤ r120.1 ∧ r120.1 ≤ 97) ∧
          (∀ r174, (cnextS r120.2.2 r120.1) = r174 →
          (inv47 ((x5 ++ [(c80.toNat : Int)]) ++ [r120.1]) (w64 (x17 + 1)) r174.2.2 ∧ mu47 ((x5 ++ [(c80.toNat : Int)]) ++ [r120.1]) (w64 (x17 + 1)) r174.2.2 < mu47 x5 x17 yb34))))) ∧
        (r120.2.1 = false →
          (inv47 (x5 ++ [(c80.toNat : Int)]) (w64 (x17 + 1)) r120.2.2 ∧ mu47 (x5 ++ [(c80.toNat : Int)]) (w64 (x17 + 1)) r120.2.2 < mu47 x5 x17 yb34))))))))))) ∧
      ((decide (x17 < (u0.length : Int))) = false →
        (K (bstr x5, 0))))))))

def sfixed_vc (u0 : List UInt8) (u1 : Int) (K : ((List UInt8) × Int) → Prop) : Prop :=
  ((((bcheckS u0) != 0) = true →
      (K ([], (bcheckS u0)))) ∧
    (((bcheckS u0) != 0) = false →
      ((((u1 != 48) && (u1 != 49)) = true →
        (K ([], 3))) ∧
      (((u1 != 48) && (u1 != 49)) = false →
        (∃ inv70 : (List Int) → Int → Int → Prop, ∃ mu70 : (List Int) → Int → Int → Nat, inv70 ([] : List Int) u1 0 ∧
        (∀ (x7 : List Int) (x8 : Int) (x24 : Int), inv70 x7 x8 x24 →
        (((decide (x24 < (u0.length : Int))) = true →
          ((((x24.tmod 4) == 0) = true →
            (((x7.length + 1) * 1 ≤ 140737488355328) ∧
            ((0 ≤ x24 ∧ x24 < (u0.length : Int)) ∧
            (∀ c136, u0[x24.toNat]? = some c136 →
            ((((x7 ++ [w8 (97 - x8)]).length + 1) * 1 ≤ 140737488355328) ∧
            ((0 ≤ x24 ∧ x24 < (u0.length : Int)) ∧
            (∀ c166, u0[x24.toNat]? = some c166 →
            (inv70 ((x7 ++ [w8 (97 - x8)]) ++ [(c136.toNat : Int)]) (c166.toNat : Int) (w64 (x24 + 1)) ∧ mu70 ((x7 ++ [w8 (97 - x8)]) ++ [(c136.toNat : Int)]) (c166.toNat : Int) (w64 (x24 + 1)) < mu70 x7 x8 x24)))))))) ∧
          (((x24.tmod 4) == 0) = false →
            ((0 ≤ x24 ∧ x24 < (u0.length : Int)) ∧
            (∀ c188, u0[x24.toNat]? = some c188 →
            (((x7.length + 1) * 1 ≤ 140737488355328) ∧
            ((0 ≤ x24 ∧ x24 < (u0.length : Int)) ∧
            (∀ c217, u0[x24.toNat]? = some c217 →
            (inv70 (x7 ++ [(c188.toNat : Int)]) (c217.toNat : Int) (w64 (x24 + 1)) ∧ mu70 (x7 ++ [(c188.toNat : Int)]) (c217.toNat : Int) (w64 (x24 + 1)) < mu70 x7 x8 x24))))))))) ∧
        ((decide (x24 < (u0.length : Int))) = false →
          (K (bstr x7, 0))))))))))

def bbytes_vc (u0 : List UInt8) (K : ((List Int) × Int) → Prop) : Prop :=
  ((((bcheckS u0) != 0) = true →
      (K (([] : List Int), (bcheckS u0)))) ∧
    (((bcheckS u0) != 0) = false →
      (((((u0.length : Int).tmod 8) != 0) = true →
        (K (([] : List Int), 4))) ∧
      ((((u0.length : Int).tmod 8) != 0) = false →
        (∃ inv53 : (List UInt8) → (List Int) → Prop, ∃ mu53 : (List UInt8) → (List Int) → Nat, inv53 u0 ([] : List Int) ∧
        (∀ (x0 : List UInt8) (x5 : List Int), inv53 x0 x5 →
        (((decide ((x0.length : Int) > 0)) = true →
          ((0 ≤ (8 : Int) ∧ (8 : Int) ≤ (x0.length : Int)) ∧
          (((x0.take (8 : Int).toNat).length ≤ 62 ∧ isRow (x0.take (8 : Int).toNat) = true) ∧
          (((x5.length + 1) * 1 ≤ 140737488355328) ∧
          ((0 ≤ (8 : Int) ∧ (8 : Int) ≤ (x0.length : Int)) ∧
          (inv53 (x0.drop (8 : Int).toNat) (x5 ++ [w8 (breadS (x0.take (8 : Int).toNat))]) ∧ mu53 (x0.drop (8 : Int).toNat) (x5 ++ [w8 (breadS (x0.take (8 : Int).toNat))]) < mu53 x0 x5)))))) ∧
        ((decide ((x0.length : Int) > 0)) = false →
          (K (x5, 0))))))))))

def beq_vc (u0 : List Int) (u1 : List Int) (K : Bool → Prop) : Prop :=
  (u0.length ≤ 140737488355328 →
    (u1.length ≤ 140737488355328 →
    ((((u0.length : Int) != (u1.length : Int)) = true →
      (K false)) ∧
    (((u0.length : Int) != (u1.length : Int)) = false →
      (∃ inv37 : Int → Prop, ∃ mu37 : Int → Nat, inv37 0 ∧
      (∀ (x13 : Int), inv37 x13 →
      (((decide (x13 < (u0.length : Int))) = true →
        ((0 ≤ x13 ∧ x13 < (u0.length : Int)) ∧
        (∀ q74, u0[x13.toNat]? = some q74 →
        ((0 ≤ x13 ∧ x13 < (u1.length : Int)) ∧
        (∀ q96, u1[x13.toNat]? = some q96 →
        (((q74 != q96) = true →
          (K false)) ∧
        ((q74 != q96) = false →
          (inv37 (w64 (x13 + 1)) ∧ mu37 (w64 (x13 + 1)) < mu37 x13)))))))) ∧
      ((decide (x13 < (u0.length : Int))) = false →
        (K true)))))))))

def hasprefix0_vc (u0 : List UInt8) (u1 : List UInt8) (K : Bool → Prop) : Prop :=
  (((decide ((u0.length : Int) ≥ (u1.length : Int))) = true →
      ((0 ≤ (u1.length : Int) ∧ (u1.length : Int) ≤ (u0.length : Int)) ∧
      (K ((u0.take (u1.length : Int).toNat) == u1)))) ∧
    ((decide ((u0.length : Int) ≥ (u1.length : Int))) = false →
      (K false)))
def hasprefix0 (u0 : List UInt8) (u1 : List UInt8) : Bool :=
  bif decide ((u0.length : Int) ≥ (u1.length : Int)) then ((u0.take (u1.length : Int).toNat) == u1)
    else false
theorem hasprefix0_ok (u0 : List UInt8) (u1 : List UInt8) : hasprefix0_vc u0 u1 (fun r => r = hasprefix0 u0 u1) := ⟨fun h0 => ⟨(by (try simp at h0); omega), (by simp only [hasprefix0, h0, cond_true, cond_false])⟩, fun h0 => (by simp only [hasprefix0, h0, cond_true, cond_false])⟩

def hasprefix_vc (u0 : List UInt8) (u1 : List UInt8) (K : Bool → Prop) : Prop :=
  (K (hasprefix0 u0 u1))
def hasprefix (u0 : List UInt8) (u1 : List UInt8) : Bool :=
  (hasprefix0 u0 u1)
theorem hasprefix_ok (u0 : List UInt8) (u1 : List UInt8) : hasprefix_vc u0 u1 (fun r => r = hasprefix u0 u1) := (by rfl)

def fname_vc (u0 : Frame) (K : (List UInt8) → Prop) : Prop :=
  (u0.Data.length ≤ 140737488355328 →
    (((!u0.Long) = true →
      ((0 ≤ (11 : Int) ∧ (11 : Int) ≤ 64 ∧ 0 ≤ (wu64 u0.ID) ∧ (wu64 u0.ID) < 2 ^ 62) ∧
      ((((bwriteS (wu64 u0.ID) 11).length : Int) + ((fbit u0.Remote).length : Int) ≤ 9223372036854775807) ∧
      (((((bwriteS (wu64 u0.ID) 11) ++ (fbit u0.Remote)).length : Int) + (([48] : List UInt8).length : Int) ≤ 9223372036854775807) ∧
      (K (((bwriteS (wu64 u0.ID) 11) ++ (fbit u0.Remote)) ++ ([48] : List UInt8))))))) ∧
    ((!u0.Long) = false →
      ((0 ≤ (11 : Int) ∧ (11 : Int) ≤ 64 ∧ 0 ≤ (wu64 (bShr .i64 u0.ID 18)) ∧ (wu64 (bShr .i64 u0.ID 18)) < 2 ^ 62) ∧
      ((((bwriteS (wu64 (bShr .i64 u0.ID 18)) 11).length : Int) + (([49, 49] : List UInt8).length : Int) ≤ 9223372036854775807) ∧
      ((0 ≤ (18 : Int) ∧ (18 : Int) ≤ 64 ∧ 0 ≤ (wu64 u0.ID) ∧ (wu64 u0.ID) < 2 ^ 62) ∧
      (((((bwriteS (wu64 (bShr .i64 u0.ID 18)) 11) ++ ([49, 49] : List UInt8)).length : Int) + ((bwriteS (wu64 u0.ID) 18).length : Int) ≤ 9223372036854775807) ∧
      ((((((bwriteS (wu64 (bShr .i64 u0.ID 18)) 11) ++ ([49, 49] : List UInt8)) ++ (bwriteS (wu64 u0.ID) 18)).length : Int) + ((fbit u0.Remote).length : Int) ≤ 9223372036854775807) ∧
      (K ((((bwriteS (wu64 (bShr .i64 u0.ID 18)) 11) ++ ([49, 49] : List UInt8)) ++ (bwriteS (wu64 u0.ID) 18)) ++ (fbit u0.Remote)))))))))))

def fcheckfr_vc (u0 : Frame) (K : Int → Prop) : Prop :=
  (u0.Data.length ≤ 140737488355328 →
    (((((decide (u0.ID < 0)) || ((!u0.Long) && (decide (u0.ID > 2047)))) || (decide (u0.ID > 536870911))) = true →
      (K 3)) ∧
    ((((decide (u0.ID < 0)) || ((!u0.Long) && (decide (u0.ID > 2047)))) || (decide (u0.ID > 536870911))) = false →
      (((u0.Remote && (u0.Fast || (decide ((u0.Data.length : Int) > 0)))) = true →
        (K 4)) ∧
      ((u0.Remote && (u0.Fast || (decide ((u0.Data.length : Int) > 0)))) = false →
        (((((decide (u0.Size < 0)) || (decide (u0.Size > 8))) || ((!u0.Remote) && (u0.Size != 0))) = true →
          (K 3)) ∧
        ((((decide (u0.Size < 0)) || (decide (u0.Size > 8))) || ((!u0.Remote) && (u0.Size != 0))) = false →
          ((((decide ((u0.Data.length : Int) > 64)) || ((!u0.Fast) && (decide ((u0.Data.length : Int) > 8)))) = true →
            (K 2)) ∧
          (((decide ((u0.Data.length : Int) > 64)) || ((!u0.Fast) && (decide ((u0.Data.length : Int) > 8)))) = false →
            (((!(scontainsS fsizes (u0.Data.length : Int))) = true →
              (K 4)) ∧
            ((!(scontainsS fsizes (u0.Data.length : Int))) = false →
              (K 0))))))))))))
def fcheckfr (u0 : Frame) : Int :=
  bif ((decide (u0.ID < 0)) || ((!u0.Long) && (decide (u0.ID > 2047)))) || (decide (u0.ID > 536870911)) then 3
    else bif u0.Remote && (u0.Fast || (decide ((u0.Data.length : Int) > 0))) then 4
    else bif ((decide (u0.Size < 0)) || (decide (u0.Size > 8))) || ((!u0.Remote) && (u0.Size != 0)) then 3
    else bif (decide ((u0.Data.length : Int) > 64)) || ((!u0.Fast) && (decide ((u0.Data.length : Int) > 8))) then 2
    else bif !(scontainsS fsizes (u0.Data.length : Int)) then 4
    else 0
theorem fcheckfr_ok (u0 : Frame) : fcheckfr_vc u0 (fun r => r = fcheckfr u0) := (fun _ => ⟨fun h0 => (by simp only [fcheckfr, h0, cond_true, cond_false]), fun h0 => ⟨fun h1 => (by simp only [fcheckfr, h0, h1, cond_true, cond_false]), fun h1 => ⟨fun h2 => (by simp only [fcheckfr, h0, h1, h2, cond_true, cond_false]), fun h2 => ⟨fun h3 => (by simp only [fcheckfr, h0, h1, h2, h3, cond_true, cond_false]), fun h3 => ⟨fun h4 => (by simp only [fcheckfr, h0, h1, h2, h3, h4, cond_true, cond_false]), fun h4 => (by simp only [fcheckfr, h0, h1, h2, h3, h4, cond_true, cond_false])⟩⟩⟩⟩⟩)

def fcount_vc (u0 : Int) (K : (List UInt8) → Prop) : Prop :=
  ((0 ≤ (3 : Int) ∧ (3 : Int) ≤ 64 ∧ 0 ≤ (wu64 (bXor .i64 (u0.tmod 8) (bShr .i64 (u0.tmod 8) 1))) ∧ (wu64 (bXor .i64 (u0.tmod 8) (bShr .i64 (u0.tmod 8) 1))) < 2 ^ 62) ∧
    ((([49] : List UInt8).length = 1) ∧
    ((((bwriteS (wu64 (bXor .i64 (u0.tmod 8) (bShr .i64 (u0.tmod 8) 1))) 3).length : Int) + ((fbit (((count1S (bwriteS (wu64 (bXor .i64 (u0.tmod 8) (bShr .i64 (u0.tmod 8) 1))) 3) ([49] : List UInt8)).tmod 2) == 1)).length : Int) ≤ 9223372036854775807) ∧
    (K ((bwriteS (wu64 (bXor .i64 (u0.tmod 8) (bShr .i64 (u0.tmod 8) 1))) 3) ++ (fbit (((count1S (bwriteS (wu64 (bXor .i64 (u0.tmod 8) (bShr .i64 (u0.tmod 8) 1))) 3) ([49] : List UInt8)).tmod 2) == 1)))))))

/-! Pure proofs: no program in sight. -/
def kindS (i : Int) : Kind := ([⟨15, 17817, 0, 0⟩, ⟨17, 92251, 65536, 0⟩, ⟨21, 1058969, 1048576, 0⟩, ⟨8, 47, 255, 255⟩, ⟨16, 4129, 65535, 0⟩] : List Kind).getD i.toNat ⟨0, 0, 0, 0⟩
def isKind (i : Int) : Bool := decide (0 ≤ i) && decide (i < 5)
theorem kind_cases {i : Int} (h : 0 ≤ i ∧ i < 5) : i = 0 ∨ i = 1 ∨ i = 2 ∨ i = 3 ∨ i = 4 := by omega
theorem kind_ok {i : Int} (h : 0 ≤ i ∧ i < 5) : okKindS (kindS i) := by
  rcases kind_cases h with rfl | rfl | rfl | rfl | rfl <;> (unfold okKindS; decide +kernel)
theorem kind_size {i : Int} (h : 0 ≤ i ∧ i < 5) : 8 ≤ (kindS i).Size ∧ (kindS i).Size ≤ 21 := by
  rcases kind_cases h with rfl | rfl | rfl | rfl | rfl <;> decide
/-- A kind's number, as a natural one. -/
def sumN (i : Int) (b : List UInt8) : Nat := crcF (kindS i).Size.toNat (kindS i).Poly.toNat (kindS i).From.toNat b ^^^ (kindS i).End.toNat
def sizeN (i : Int) : Nat := (kindS i).Size.toNat
def sumR (i : Int) (b : List UInt8) : List UInt8 := wr (sizeN i) (sumN i b)
theorem sumN_lt {i : Int} (h : 0 ≤ i ∧ i < 5) (b : List UInt8) : sumN i b < 2 ^ sizeN i := by
  obtain ⟨h1, h2, h3, h4, h5, h6, h7, h8, _⟩ := kind_ok h
  have c : ∀ x : Int, 0 ≤ x → x < 2 ^ (kindS i).Size.toNat → x.toNat < 2 ^ (kindS i).Size.toNat := fun x hx hl => by
    have : (x.toNat : Int) < ((2 ^ (kindS i).Size.toNat : Nat) : Int) := by push_cast; omega
    exact_mod_cast this
  exact Nat.xor_lt_two_pow (crcF_lt (c _ h3 h4) b (c _ h5 h6)) (c _ h7 h8)
def csumS (i : Int) (b : List UInt8) : List UInt8 × Int := if bcheckS b ≠ 0 then ([], bcheckS b) else if isKind i = true then (sumR i b, 0) else ([], 8)
def choldsS (i : Int) (b : List UInt8) : Bool × Int := if bcheckS b ≠ 0 then (false, bcheckS b) else if isKind i = true then
    if b.length < sizeN i then (false, 7) else (sumR i (b.take (b.length - sizeN i)) == b.drop (b.length - sizeN i), 0) else (false, 8)
theorem bad_kind (i : Int) : (decide (i < 0) || decide (i ≥ 5)) = !isKind i := by
  unfold isKind
  by_cases h : i < 0 <;> by_cases h2 : i ≥ 5 <;> simp [h, h2] <;> omega
theorem isKind_iff {i : Int} : isKind i = true ↔ 0 ≤ i ∧ i < 5 := by simp [isKind]
theorem csum_ok (i : Int) (b : List UInt8) : csum_vc i b (fun r => r = csumS i b) := by
  unfold csum_vc csumS
  rw [bad_kind]
  refine ⟨fun h => ?_, fun h => ⟨fun h1 => ?_, fun h1 => ?_⟩⟩
  · have h : bcheckS b ≠ 0 := by simpa using h
    rw [if_pos h]
  · have h : ¬ bcheckS b ≠ 0 := by simpa using h
    have h1 : isKind i = false := by simpa using h1
    rw [if_neg h, if_neg (by rw [h1]; simp)]
  · have h : ¬ bcheckS b ≠ 0 := by simpa using h
    have h1 : isKind i = true := by simpa using h1
    have hk := isKind_iff.1 h1
    have hb := ((bcheck_zero b).1 (by simpa using h)).1
    rw [if_neg h, if_pos h1]
    have hl := sumN_lt hk b
    have hsz := kind_size hk
    have h2 : (2 : Nat) ^ sizeN i ≤ 2 ^ 21 := Nat.pow_le_pow_right (by omega) (by unfold sizeN; omega)
    have p21 : (2 : Nat) ^ 21 = 2097152 := rfl
    have p62 : (2 : Int) ^ 62 = 4611686018427387904 := rfl
    have hok := kind_ok hk
    have e : ksumS (kindS i) b = ((sumN i b : Nat) : Int) := rfl
    have e1 : (ksumS (kindS i) b).toNat = sumN i b := by rw [e]; rfl
    have key : (okKindS (kindS i) ∧ b.length ≤ 1000000) ∧ (0 ≤ (kindS i).Size ∧ (kindS i).Size ≤ 64 ∧ 0 ≤ ksumS (kindS i) b ∧ ksumS (kindS i) b < 2 ^ 62) ∧ (bwriteS (ksumS (kindS i) b) (kindS i).Size, (0 : Int)) = (sumR i b, 0) := by
      refine ⟨⟨hok, by omega⟩, ⟨by omega, by omega, by rw [e]; omega, by rw [e]; omega⟩, ?_⟩
      unfold bwriteS sumR sizeN
      rw [e1]
    refine ⟨hk, ?_⟩
    rcases kind_cases hk with rfl | rfl | rfl | rfl | rfl <;> exact key
def ofb : List Int → List UInt8
  | [] => []
  | x :: r => wr 8 x.toNat ++ ofb r
theorem ofb_append (a b : List Int) : ofb (a ++ b) = ofb a ++ ofb b := by
  induction a with
  | nil => rfl
  | cons x r ih => simp [ofb, ih]
theorem ofb_length (a : List Int) : (ofb a).length = 8 * a.length := by
  induction a with
  | nil => rfl
  | cons x r ih => rw [ofb, List.length_append, wr_length, ih, List.length_cons]; omega
theorem ofb_row (a : List Int) : isRow (ofb a) = true := by
  induction a with
  | nil => rfl
  | cons x r ih => rw [ofb, isRow_append, wr_row, ih]; rfl
def bofS (l : List Int) : List UInt8 × Int := if 125 < l.length then ([], 2) else (ofb l, 0)
theorem bof_ok (l : List Int) (h : ∀ x ∈ l, 0 ≤ x ∧ x ≤ 255) : bof_vc l (fun r => r = bofS l) := by
  intro hl
  refine ⟨fun h1 => ?_, fun h1 => ?_⟩
  · unfold bofS
    rw [if_pos (by simp at h1; omega)]
  · have hn : ¬ 125 < l.length := by simp at h1; omega
    have hS : bofS l = (ofb l, 0) := by unfold bofS; rw [if_neg hn]
    rw [hS]
    refine ⟨fun i y => ∃ k : Nat, i = k ∧ k ≤ l.length ∧ y = ofb (l.take k), fun i _ => l.length - i.toNat, ⟨0, rfl, by omega, rfl⟩, ?_⟩
    rintro _ _ ⟨k, rfl, hk, rfl⟩
    refine ⟨fun h2 => ⟨by simp at h2; omega, fun q hq => ?_⟩, fun h2 => ?_⟩
    · rw [Int.toNat_natCast] at hq
      have hkl : k < l.length := (List.getElem?_eq_some_iff.1 hq).1
      have hqb := h q (List.mem_of_getElem? hq)
      have ew : w64 ((k : Int) + 1) = ((k + 1 : Nat) : Int) := w64_succ k (by omega)
      have e8 : wu64 q = q := wu64_eq q (by omega)
      have p62 : (2 : Int) ^ 62 = 4611686018427387904 := rfl
      have eb : bwriteS q 8 = wr 8 q.toNat := rfl
      rw [ew, e8, eb]
      refine ⟨by omega, ?_, ⟨k + 1, rfl, by omega, ?_⟩, by (try dsimp only); omega⟩
      · rw [ofb_length, wr_length, List.length_take]; omega
      · rw [take_next l k q hq, ofb_append]
        simp [ofb]
    · have : k = l.length := by simp at h2; omega
      subst this
      rw [List.take_length]
/-- The counter's next, of a bit. -/
theorem cnextS_bit (c : Counter) (b : UInt8) (h : isBit b = true) : cnextS c (b.toNat : Int) = (((flip b).toNat : Int), decide ((nx c b).n = 5), nx c b) := by
  have e : (97 : Int) - (b.toNat : Int) = ((flip b).toNat : Int) := by rcases isBit_or h with rfl | rfl <;> rfl
  unfold cnextS nx
  rw [e]
  split
  · rfl
  · rfl
theorem nx_last (c : Counter) (b : UInt8) : (nx c b).last = (b.toNat : Int) := by
  unfold nx
  split
  · rename_i h; exact h.symm
  · rfl
theorem nx_n (c : Counter) (b : UInt8) : (nx c b).n = if (b.toNat : Int) = c.last then c.n + 1 else 1 := by unfold nx; split <;> rfl
theorem nx_bound (c : Counter) (b : UInt8) (k : Int) (h : 0 ≤ c.n ∧ c.n ≤ k) : 1 ≤ (nx c b).n ∧ (nx c b).n ≤ k + 1 := by rw [nx_n]; split <;> omega
theorem flip_ne (b : UInt8) : (flip b).toNat ≠ b.toNat := by
  unfold flip
  split
  · rename_i h; subst h; decide
  · rename_i h
    intro e
    exact h (UInt8.toNat_inj.1 e).symm
theorem nx_flip (c : Counter) (b : UInt8) : nx (nx c b) (flip b) = ⟨((flip b).toNat : Int), 1⟩ := by
  have h : ¬ (((flip b).toNat : Int) = (nx c b).last) := by
    rw [nx_last]
    have := flip_ne b
    omega
  unfold nx at h ⊢
  rw [if_neg h]
/-- The reader is right. -/
def Rok (r : Reader) : Prop := 0 ≤ r.At ∧ r.At ≤ (r.Row.length : Int) ∧ r.Row.length ≤ 1000000 ∧ isRow r.Row = true ∧ 0 ≤ r.c.n ∧ r.c.n ≤ 4
def rloop : Nat → List UInt8 → Reader → List UInt8 × Reader
  | 0, out, r => if r.Code ≠ 0 then ([], r) else (out, r)
  | k + 1, out, r =>
    if (rbitS r).2.Code ≠ 0 then ([], (rbitS r).2) else
    if (cnextRS (rbitS r).2 (rbitS r).1).2.1 = true then
      rloop k (out ++ bstr [(rbitS r).1]) (cnextRS (if (rbitS (cnextRS (rbitS r).2 (rbitS r).1).2.2).2.Code = 0 ∧ (rbitS (cnextRS (rbitS r).2 (rbitS r).1).2.2).1 ≠ (cnextRS (rbitS r).2 (rbitS r).1).1 then
        ⟨(rbitS (cnextRS (rbitS r).2 (rbitS r).1).2.2).2.Row, (rbitS (cnextRS (rbitS r).2 (rbitS r).1).2.2).2.At, 5, (rbitS (cnextRS (rbitS r).2 (rbitS r).1).2.2).2.c⟩ else (rbitS (cnextRS (rbitS r).2 (rbitS r).1).2.2).2) (cnextRS (rbitS r).2 (rbitS r).1).1).2.2
    else rloop k (out ++ bstr [(rbitS r).1]) (cnextRS (rbitS r).2 (rbitS r).1).2.2
def rtakeS (r : Reader) (n : Int) : List UInt8 × Reader := rloop n.toNat [] r
theorem rbitS_spec (r : Reader) (h : 0 ≤ r.At ∧ r.At ≤ (r.Row.length : Int) ∧ isRow r.Row = true) : ∃ b, isBit b = true ∧ (rbitS r).1 = (b.toNat : Int) ∧ (rbitS r).2.Row = r.Row ∧ (rbitS r).2.c = r.c ∧ 0 ≤ (rbitS r).2.At ∧ (rbitS r).2.At ≤ (r.Row.length : Int) ∧ r.At ≤ (rbitS r).2.At ∧
    ((rbitS r).2.Code = 0 → r.Code = 0 ∧ (rbitS r).2.At = r.At + 1 ∧ r.Row[r.At.toNat]? = some b) := by
  unfold rbitS
  split
  · rename_i hc
    exact ⟨48, rfl, rfl, rfl, rfl, h.1, h.2.1, Int.le_refl _, fun e => absurd e hc⟩
  · rename_i hc
    split
    · rename_i hn
      exact ⟨48, rfl, rfl, rfl, rfl, h.1, h.2.1, Int.le_refl _, fun e => by cases e⟩
    · rename_i b hb
      have hl := (List.getElem?_eq_some_iff.1 hb).1
      exact ⟨b, List.all_eq_true.1 h.2.2 b (List.mem_of_getElem? hb), rfl, rfl, rfl, by (try dsimp only); omega, by (try dsimp only); omega, by (try dsimp only); omega, fun e => ⟨e, rfl, hb⟩⟩
theorem cnextRS_bit (r : Reader) (b : UInt8) (h : isBit b = true) : cnextRS r (b.toNat : Int) = (((flip b).toNat : Int), decide ((nx r.c b).n = 5), ⟨r.Row, r.At, r.Code, nx r.c b⟩) := by
  unfold cnextRS
  rw [cnextS_bit r.c b h]
theorem bit97 (b : UInt8) (h : isBit b = true) : (0 : Int) ≤ (b.toNat : Int) ∧ (b.toNat : Int) ≤ 97 := by rcases isBit_or h with e | e <;> rw [e] <;> decide
theorem rtake_ok (r : Reader) (n : Int) (h : Rok r ∧ n ≤ 9223372036854775807) : rtake_vc r n (fun q => q = rtakeS r n) := by
  obtain ⟨hR, hn⟩ := h
  refine ⟨fun x i y => ∃ k : Nat, i = k ∧ (k : Int) ≤ max n 0 ∧ Rok y ∧ (x.length : Int) ≤ y.At ∧ rloop (n.toNat - k) (bstr x) y = rtakeS r n, fun _ i _ => n.toNat - i.toNat, ⟨0, rfl, by omega, hR, by simpa using hR.1, rfl⟩, ?_⟩
  rintro x _ y ⟨k, rfl, hk, hy, hx, hl⟩
  obtain ⟨a0, a1, a2, a3, a4, a5⟩ := hy
  have ew : (k : Int) < n → w64 ((k : Int) + 1) = ((k + 1 : Nat) : Int) := fun _ => w64_succ k (by omega)
  refine ⟨fun h1 => ⟨⟨a0, a1, a2⟩, ?_⟩, fun h1 => ⟨fun h2 => ?_, fun h2 => ?_⟩⟩
  · rintro _ rfl
    have hkn : (k : Int) < n := by simpa using h1
    rw [ew hkn]
    obtain ⟨m, hm⟩ : ∃ m, n.toNat - k = m + 1 := ⟨n.toNat - k - 1, by omega⟩
    have hm2 : n.toNat - (k + 1) = m := by omega
    rw [hm, rloop] at hl
    obtain ⟨b, hb, e1, e2, e3, e4, e5, e6, e7⟩ := rbitS_spec y ⟨a0, a1, a3⟩
    refine ⟨fun h2 => ?_, fun h2 => ?_⟩
    · rw [if_pos (by simpa using h2)] at hl
      exact hl
    · have h2 : (rbitS y).2.Code = 0 := by simpa using h2
      rw [if_neg (by simpa using h2)] at hl
      obtain ⟨c1, c2, c3⟩ := e7 h2
      rw [e1, cnextRS_bit _ b hb, e3, e2] at hl
      have hnb := nx_bound y.c b 4 ⟨a4, a5⟩
      have h97 := bit97 b hb
      refine ⟨by omega, ⟨by rw [e3]; omega, by rw [e3]; omega, by rw [e1]; exact h97.1, by rw [e1]; exact h97.2⟩, ?_⟩
      rw [e1, cnextRS_bit _ b hb, e3, e2]
      rintro _ rfl
      dsimp only at hl ⊢
      have hx2 : ((x ++ [(b.toNat : Int)]).length : Int) ≤ (rbitS y).2.At := by simp; omega
      have hbs : bstr (x ++ [(b.toNat : Int)]) = bstr x ++ bstr [(b.toNat : Int)] := bstr_append _ _
      have hf97 := bit97 (flip b) (isBit_flip b)
      refine ⟨fun h3 => ⟨⟨e4, e5, a2⟩, ?_⟩, fun h3 => ?_⟩
      · have h3' := of_decide_eq_true h3
        rw [if_pos h3] at hl
        obtain ⟨t, ht⟩ : ∃ t, t = rbitS ⟨y.Row, (rbitS y).2.At, (rbitS y).2.Code, nx y.c b⟩ := ⟨_, rfl⟩
        obtain ⟨b2, hb2, f1, f2, f3, f4, f5, f6, f7⟩ := rbitS_spec ⟨y.Row, (rbitS y).2.At, (rbitS y).2.Code, nx y.c b⟩ ⟨e4, e5, a3⟩
        rw [← ht] at f1 f2 f3 f4 f5 f6 f7 hl ⊢
        rintro _ rfl
        have hnn : t.2.c.n = 5 := by rw [f3]; exact h3'
        have hfl : nx t.2.c (flip b) = ⟨((flip b).toNat : Int), 1⟩ := by rw [f3]; exact nx_flip _ _
        refine ⟨fun h4 => ⟨⟨by (try dsimp only); omega, by (try dsimp only); omega, hf97.1, hf97.2⟩, ?_⟩, fun h4 => ⟨⟨by omega, by omega, hf97.1, hf97.2⟩, ?_⟩⟩
        · have h4' : t.2.Code = 0 ∧ t.1 ≠ ((flip b).toNat : Int) := by simpa using h4
          rw [if_pos h4'] at hl
          rintro _ rfl
          refine ⟨⟨k + 1, rfl, by omega, ?_, ?_, ?_⟩, by (try dsimp only); omega⟩
          · rw [cnextRS_bit _ _ (isBit_flip b)]
            dsimp only
            rw [hfl, f2]
            exact ⟨by (try dsimp only); omega, by (try dsimp only at *); omega, a2, a3, by show (0 : Int) ≤ 1; decide, by show (1 : Int) ≤ 4; decide⟩
          · rw [cnextRS_bit _ _ (isBit_flip b)]
            (try dsimp only at *)
            omega
          · rw [hm2, hbs]
            exact hl
        · have h4' : ¬ (t.2.Code = 0 ∧ t.1 ≠ ((flip b).toNat : Int)) := by
            intro hc
            have : ((t.2.Code == 0) && (t.1 != ((flip b).toNat : Int))) = true := by simpa using hc
            rw [this] at h4
            cases h4
          rw [if_neg h4'] at hl
          rintro _ rfl
          refine ⟨⟨k + 1, rfl, by omega, ?_, ?_, ?_⟩, by (try dsimp only); omega⟩
          · rw [cnextRS_bit _ _ (isBit_flip b)]
            dsimp only
            rw [hfl, f2]
            exact ⟨by (try dsimp only); omega, by (try dsimp only at *); omega, a2, a3, by show (0 : Int) ≤ 1; decide, by show (1 : Int) ≤ 4; decide⟩
          · rw [cnextRS_bit _ _ (isBit_flip b)]
            (try dsimp only at *)
            omega
          · rw [hm2, hbs]
            exact hl
      · have h3' := of_decide_eq_false h3
        rw [if_neg (by simpa using h3)] at hl
        refine ⟨⟨k + 1, rfl, by omega, ⟨e4, e5, a2, a3, by (try dsimp only); omega, by (try dsimp only); omega⟩, hx2, ?_⟩, by (try dsimp only); omega⟩
        rw [hm2, hbs]
        exact hl
  all_goals
    have hkn : n.toNat - k = 0 := by have : n ≤ (k : Int) := by simpa using h1
                                     omega
    rw [hkn, rloop] at hl
  · rw [if_pos (by simpa using h2)] at hl
    exact hl
  · rw [if_neg (by simpa using h2)] at hl
    exact hl
theorem rbitS_mk (row : List UInt8) (at_ code : Int) (c : Counter) : rbitS ⟨row, at_, code, c⟩ = if code ≠ 0 then (48, ⟨row, at_, code, c⟩) else match row[at_.toNat]? with
    | none => (48, ⟨row, at_, 7, c⟩)
    | some b => ((b.toNat : Int), ⟨row, at_ + 1, code, c⟩) := rfl
theorem rbitS_bad (r : Reader) (h : r.Code ≠ 0) : rbitS r = (48, r) := by unfold rbitS; rw [if_pos h]
theorem rloop_bad (n : Nat) (out : List UInt8) (r : Reader) (h : r.Code ≠ 0) : rloop n out r = ([], r) := by
  cases n with
  | zero => rw [rloop, if_pos h]
  | succ n => rw [rloop, rbitS_bad r h, if_pos h]
/-- What is taken, by the plain function. -/
theorem rloop_take : ∀ (n : Nat) (r : Reader) (out : List UInt8), Rok r → r.Code = 0 →
    match takeF r.c (r.Row.drop r.At.toNat) n with
    | .ok q => rloop n out r = (out ++ q.1, ⟨r.Row, (r.Row.length : Int) - (q.2.1.length : Int), 0, q.2.2⟩) ∧ q.2.1.length ≤ r.Row.length ∧ q.2.1 = r.Row.drop (r.Row.length - q.2.1.length) ∧ r.At.toNat + n + q.2.1.length ≤ r.Row.length ∧ 0 ≤ q.2.2.n ∧ q.2.2.n ≤ 4 ∧ q.1.length = n
    | .error e => ∃ q, rloop n out r = ([], q) ∧ q.Code = e ∧ e ≠ 0 ∧ q.Row = r.Row ∧ Rok q := by
  intro n
  induction n with
  | zero =>
    intro r out hR hc
    obtain ⟨a0, a1, a2, a3, a4, a5⟩ := hR
    rw [takeF, rloop, if_neg (by simpa using hc)]
    dsimp only
    have e : (r.Row.length : Int) - ((r.Row.drop r.At.toNat).length : Int) = r.At := by rw [List.length_drop]; omega
    rw [e, List.append_nil]
    refine ⟨by rw [← hc], by rw [List.length_drop]; omega, ?_, by rw [List.length_drop]; omega, a4, a5, rfl⟩
    rw [List.length_drop]
    congr 1
    omega
  | succ n ih =>
    intro r out hR hc
    obtain ⟨a0, a1, a2, a3, a4, a5⟩ := hR
    obtain ⟨b, hb, e1, e2, e3, e4, e5, e6, e7⟩ := rbitS_spec r ⟨a0, a1, a3⟩
    rw [rloop]
    by_cases hcode : (rbitS r).2.Code = 0
    · obtain ⟨c1, c2, c3⟩ := e7 hcode
      have hd := drop_this r.Row r.At.toNat b c3
      have hlt := (List.getElem?_eq_some_iff.1 c3).1
      rw [if_neg (by simpa using hcode), e1, cnextRS_bit _ b hb, e3, e2, hd, takeF_cons, bstr_one]
      dsimp only
      have hat : (rbitS r).2.At.toNat = r.At.toNat + 1 := by omega
      by_cases h5 : (nx r.c b).n = 5
      · rw [if_pos h5, if_pos (by simpa using h5)]
        obtain ⟨t, ht⟩ : ∃ t, t = rbitS ⟨r.Row, (rbitS r).2.At, (rbitS r).2.Code, nx r.c b⟩ := ⟨_, rfl⟩
        rw [← ht]
        have ht2 : t = match r.Row[r.At.toNat + 1]? with | none => (48, ⟨r.Row, (rbitS r).2.At, 7, nx r.c b⟩) | some b2 => ((b2.toNat : Int), ⟨r.Row, (rbitS r).2.At + 1, 0, nx r.c b⟩) := by
          rw [ht, rbitS_mk, hcode, hat, if_neg (by simp)]
        cases hr : r.Row[r.At.toNat + 1]? with
        | none =>
          rw [hr] at ht2
          dsimp only at ht2
          have hnil : r.Row.drop (r.At.toNat + 1) = [] := List.drop_eq_nil_of_le (by rw [List.getElem?_eq_none_iff] at hr; exact hr)
          rw [hnil]
          dsimp only
          rw [ht2]
          dsimp only
          rw [if_neg (by simp), cnextRS_bit _ _ (isBit_flip b)]
          dsimp only
          rw [nx_flip]
          have hRq : Rok ⟨r.Row, (rbitS r).2.At, 7, ⟨((flip b).toNat : Int), 1⟩⟩ := ⟨e4, e5, a2, a3, by show (0 : Int) ≤ 1; decide, by show (1 : Int) ≤ 4; decide⟩
          refine ⟨⟨r.Row, (rbitS r).2.At, 7, ⟨((flip b).toNat : Int), 1⟩⟩, ?_, rfl, by decide, rfl, hRq⟩
          exact rloop_bad _ _ _ (by simp)
        | some b2 =>
          rw [hr] at ht2
          dsimp only at ht2
          have hd2 := drop_this r.Row (r.At.toNat + 1) b2 hr
          have hlt2 := (List.getElem?_eq_some_iff.1 hr).1
          rw [hd2]
          dsimp only
          rw [ht2]
          dsimp only
          by_cases hy : b2 = flip b
          · rw [if_pos hy, if_neg (by subst hy; simp), cnextRS_bit _ _ (isBit_flip b)]
            dsimp only
            rw [nx_flip]
            have hRq : Rok ⟨r.Row, (rbitS r).2.At + 1, 0, ⟨((flip b).toNat : Int), 1⟩⟩ := ⟨by (try dsimp only); omega, by (try dsimp only); omega, a2, a3, by show (0 : Int) ≤ 1; decide, by show (1 : Int) ≤ 4; decide⟩
            have := ih ⟨r.Row, (rbitS r).2.At + 1, 0, ⟨((flip b).toNat : Int), 1⟩⟩ (out ++ [b]) hRq rfl
            dsimp only at this
            have hat2 : ((rbitS r).2.At + 1).toNat = r.At.toNat + 1 + 1 := by omega
            rw [hat2] at this
            cases hT : takeF ⟨((flip b).toNat : Int), 1⟩ (r.Row.drop (r.At.toNat + 1 + 1)) n with
            | ok q =>
              rw [hT] at this
              dsimp only at this
              show _ ∧ _
              dsimp only [Except.map]
              obtain ⟨g1, g2, g3, g4, g5, g6, g7⟩ := this
              refine ⟨by rw [g1]; simp, g2, g3, by omega, g5, g6, by simp [g7]⟩
            | error e =>
              rw [hT] at this
              exact this
          · have hy2 : ¬ (b2.toNat : Int) = ((flip b).toNat : Int) := fun h => hy (UInt8.toNat_inj.1 (by omega))
            rw [if_neg hy, if_pos ⟨rfl, hy2⟩, cnextRS_bit _ _ (isBit_flip b)]
            dsimp only
            rw [nx_flip]
            have hRq : Rok ⟨r.Row, (rbitS r).2.At + 1, 5, ⟨((flip b).toNat : Int), 1⟩⟩ := ⟨by (try dsimp only); omega, by (try dsimp only); omega, a2, a3, by show (0 : Int) ≤ 1; decide, by show (1 : Int) ≤ 4; decide⟩
            refine ⟨⟨r.Row, (rbitS r).2.At + 1, 5, ⟨((flip b).toNat : Int), 1⟩⟩, ?_, rfl, by decide, rfl, hRq⟩
            exact rloop_bad _ _ _ (by simp)
      · rw [if_neg h5, if_neg (by simpa using h5), hcode]
        have hnb := nx_bound r.c b 4 ⟨a4, a5⟩
        have hRq : Rok ⟨r.Row, (rbitS r).2.At, 0, nx r.c b⟩ := ⟨e4, e5, a2, a3, by (try dsimp only); omega, by (try dsimp only); omega⟩
        have := ih ⟨r.Row, (rbitS r).2.At, 0, nx r.c b⟩ (out ++ [b]) hRq rfl
        dsimp only at this
        rw [hat] at this
        cases hT : takeF (nx r.c b) (r.Row.drop (r.At.toNat + 1)) n with
        | ok q =>
          rw [hT] at this
          dsimp only at this
          show _ ∧ _
          dsimp only [Except.map]
          obtain ⟨g1, g2, g3, g4, g5, g6, g7⟩ := this
          refine ⟨by rw [g1]; simp, g2, g3, by omega, g5, g6, by simp [g7]⟩
        | error e =>
          rw [hT] at this
          exact this
    · rw [if_pos (by simpa using hcode)]
      have hn : r.Row[r.At.toNat]? = none ∧ (rbitS r).2 = ⟨r.Row, r.At, 7, r.c⟩ := by
        unfold rbitS at hcode ⊢
        rw [if_neg (by simpa using hc)] at hcode ⊢
        cases hr : r.Row[r.At.toNat]? with
        | none => exact ⟨rfl, rfl⟩
        | some b2 => rw [hr] at hcode; exact absurd hc hcode
      have hnil : r.Row.drop r.At.toNat = [] := List.drop_eq_nil_of_le (by have := hn.1; rw [List.getElem?_eq_none_iff] at this; exact this)
      rw [hnil, hn.2]
      exact ⟨_, rfl, rfl, by decide, rfl, a0, a1, a2, a3, a4, a5⟩
def sputS (b : List UInt8) : List UInt8 × Int := if bcheckS b ≠ 0 then ([], bcheckS b) else (putF ⟨0, 0⟩ b, 0)
theorem sput_ok (b : List UInt8) : sput_vc b (fun r => r = sputS b) := by
  refine ⟨fun h => ?_, fun h => ?_⟩
  · have h : bcheckS b ≠ 0 := by simpa using h
    unfold sputS
    rw [if_pos h]
  have h : ¬ bcheckS b ≠ 0 := by simpa using h
  obtain ⟨hl, hr⟩ := (bcheck_zero b).1 (by simpa using h)
  have hS : sputS b = (putF ⟨0, 0⟩ b, 0) := by unfold sputS; rw [if_neg h]
  rw [hS]
  refine ⟨fun x i c => ∃ k : Nat, i = k ∧ k ≤ b.length ∧ x.length ≤ 2 * k ∧ 0 ≤ c.n ∧ c.n ≤ 4 ∧ bstr x ++ putF c (b.drop k) = putF ⟨0, 0⟩ b, fun _ i _ => b.length - i.toNat, ⟨0, rfl, by omega, by simp, by decide, by decide, rfl⟩, ?_⟩
  rintro x _ c ⟨k, rfl, hk, hx, h0, h4, hp⟩
  refine ⟨fun h1 => ?_, fun h1 => ?_⟩
  · refine ⟨by simp at h1; omega, fun q hq => ?_⟩
    rw [Int.toNat_natCast] at hq
    have hkl : k < b.length := (List.getElem?_eq_some_iff.1 hq).1
    have hqb : isBit q = true := List.all_eq_true.1 hr q (List.mem_of_getElem? hq)
    refine ⟨by omega, by omega, fun q2 hq2 => ?_⟩
    rw [Int.toNat_natCast] at hq2
    obtain rfl : q2 = q := Option.some.inj (hq2.symm.trans hq)
    have hb := nx_bound c q2 4 ⟨h0, h4⟩
    have hq97 : (0 : Int) ≤ (q2.toNat : Int) ∧ (q2.toNat : Int) ≤ 97 := by rcases isBit_or hqb with rfl | rfl <;> decide
    have ew : w64 ((k : Int) + 1) = ((k + 1 : Nat) : Int) := w64_succ k (by omega)
    refine ⟨by omega, fun r hr1 => ?_⟩
    rw [cnextS_bit c q2 hqb] at hr1
    subst hr1
    rw [drop_this b k q2 hq, putF] at hp
    rw [ew]
    refine ⟨fun h2 => ?_, fun h2 => ?_⟩
    · have h2 : (nx c q2).n = 5 := of_decide_eq_true h2
      rw [if_pos h2] at hp
      have hf97 : (0 : Int) ≤ ((flip q2).toNat : Int) ∧ ((flip q2).toNat : Int) ≤ 97 := by rcases isBit_or (isBit_flip q2) with e | e <;> rw [e] <;> decide
      refine ⟨by simp; omega, by (try dsimp only); omega, fun r hr2 => ?_⟩
      rw [show (((flip q2).toNat : Int), decide ((nx c q2).n = 5), nx c q2).2.2 = nx c q2 from rfl, show (((flip q2).toNat : Int), decide ((nx c q2).n = 5), nx c q2).1 = ((flip q2).toNat : Int) from rfl, cnextS_bit _ _ (isBit_flip q2)] at hr2
      subst hr2
      refine ⟨⟨k + 1, rfl, by omega, by simp; omega, ?_, ?_, ?_⟩, by (try dsimp only); omega⟩
      · show 0 ≤ (nx (nx c q2) (flip q2)).n; rw [nx_flip]; show (0 : Int) ≤ 1; decide
      · show (nx (nx c q2) (flip q2)).n ≤ 4; rw [nx_flip]; show (1 : Int) ≤ 4; decide
      · rw [bstr_append, bstr_append, bstr_one, bstr_one, ← hp]
        simp
    · have h2 : ¬ (nx c q2).n = 5 := of_decide_eq_false h2
      rw [if_neg h2] at hp
      refine ⟨⟨k + 1, rfl, by omega, by simp; omega, by (try dsimp only); omega, by (try dsimp only); omega, ?_⟩, by (try dsimp only); omega⟩
      rw [bstr_append, bstr_one, ← hp]
      simp
  · have : k = b.length := by simp at h1; omega
    subst this
    rw [List.drop_length] at hp
    simp only [putF, List.append_nil] at hp
    rw [hp]
def sfixedS (b : List UInt8) (a : Int) : List UInt8 × Int := if bcheckS b ≠ 0 then ([], bcheckS b) else if a ≠ 48 ∧ a ≠ 49 then ([], 3) else (fixF 0 (UInt8.ofNat a.toNat) b, 0)
theorem sfixed_ok (b : List UInt8) (a : Int) : sfixed_vc b a (fun r => r = sfixedS b a) := by
  refine ⟨fun h => ?_, fun h => ⟨fun h1 => ?_, fun h1 => ?_⟩⟩
  · have h : bcheckS b ≠ 0 := by simpa using h
    unfold sfixedS
    rw [if_pos h]
  all_goals
    have h : ¬ bcheckS b ≠ 0 := by simpa using h
  · unfold sfixedS
    rw [if_neg h, if_pos (by simpa using h1)]
  obtain ⟨hl, hr⟩ := (bcheck_zero b).1 (by simpa using h)
  have h1 : ¬ (a ≠ 48 ∧ a ≠ 49) := by simp at h1; omega
  have hS : sfixedS b a = (fixF 0 (UInt8.ofNat a.toNat) b, 0) := by unfold sfixedS; rw [if_neg h, if_neg h1]
  rw [hS]
  refine ⟨fun x l i => ∃ (k : Nat) (c : UInt8), i = k ∧ l = (c.toNat : Int) ∧ isBit c = true ∧ k ≤ b.length ∧ x.length ≤ 2 * k ∧ bstr x ++ fixF k c (b.drop k) = fixF 0 (UInt8.ofNat a.toNat) b, fun _ _ i => b.length - i.toNat, ?_, ?_⟩
  · refine ⟨0, UInt8.ofNat a.toNat, rfl, ?_, ?_, by omega, by simp, rfl⟩
    all_goals
      have : a = 48 ∨ a = 49 := by omega
      rcases this with rfl | rfl <;> rfl
  rintro x _ _ ⟨k, c, rfl, rfl, hc, hk, hx, hp⟩
  have ew : k < b.length → w64 ((k : Int) + 1) = ((k + 1 : Nat) : Int) := fun _ => w64_succ k (by omega)
  have e9 : w8 (97 - (c.toNat : Int)) = ((flip c).toNat : Int) := by rcases isBit_or hc with rfl | rfl <;> rfl
  have e4 : ((k : Int).tmod 4 == 0) = decide (k % 4 = 0) := by
    rw [Int.tmod_eq_emod_of_nonneg (by omega), Bool.eq_iff_iff]
    simp
    omega
  rw [e4, e9]
  refine ⟨fun h2 => ⟨fun h3 => ⟨by omega, by simp at h2; omega, fun q hq => ⟨by simp; omega, by simp at h2; omega, fun q2 hq2 => ?_⟩⟩, fun h3 => ⟨by simp at h2; omega, fun q hq => ⟨by omega, by simp at h2; omega, fun q2 hq2 => ?_⟩⟩⟩, fun h2 => ?_⟩
  · rw [Int.toNat_natCast] at hq hq2
    obtain rfl : q2 = q := Option.some.inj (hq2.symm.trans hq)
    have hkl : k < b.length := (List.getElem?_eq_some_iff.1 hq).1
    have hqb : isBit q2 = true := List.all_eq_true.1 hr q2 (List.mem_of_getElem? hq)
    rw [ew hkl]
    rw [drop_this b k q2 hq, fixF, if_pos (of_decide_eq_true h3)] at hp
    refine ⟨⟨k + 1, q2, rfl, rfl, hqb, by omega, by simp; omega, ?_⟩, by (try dsimp only); omega⟩
    rw [bstr_append, bstr_append, bstr_one, bstr_one, ← hp]
    simp
  · rw [Int.toNat_natCast] at hq hq2
    obtain rfl : q2 = q := Option.some.inj (hq2.symm.trans hq)
    have hkl : k < b.length := (List.getElem?_eq_some_iff.1 hq).1
    have hqb : isBit q2 = true := List.all_eq_true.1 hr q2 (List.mem_of_getElem? hq)
    rw [ew hkl]
    rw [drop_this b k q2 hq, fixF, if_neg (of_decide_eq_false h3)] at hp
    refine ⟨⟨k + 1, q2, rfl, rfl, hqb, by omega, by simp; omega, ?_⟩, by (try dsimp only); omega⟩
    rw [bstr_append, bstr_one, ← hp]
    simp
  · have : k = b.length := by simp at h2; omega
    subst this
    rw [List.drop_length] at hp
    simp only [fixF, List.append_nil] at hp
    rw [hp]
def fnameS (f : Frame) : List UInt8 := if f.Long = false then (wr 11 f.ID.toNat ++ fbit f.Remote) ++ [48] else ((wr 11 (f.ID.toNat / 2 ^ 18) ++ [49, 49]) ++ wr 18 f.ID.toNat) ++ fbit f.Remote
theorem fbit_len (b : Bool) : (fbit b).length = 1 := by cases b <;> rfl
theorem fbit_row (b : Bool) : isRow (fbit b) = true := by cases b <;> rfl
theorem fname_ok (f : Frame) (h : 0 ≤ f.ID ∧ f.ID ≤ 536870911) : fname_vc f (fun r => r = fnameS f) := by
  intro hl
  have p62 : (2 : Int) ^ 62 = 4611686018427387904 := rfl
  have e1 : wu64 f.ID = f.ID := wu64_eq _ (by omega)
  have e2 : bShr .i64 f.ID 18 = ((f.ID.toNat / 2 ^ 18 : Nat) : Int) := by
    have := shrN f.ID.toNat 18 (by omega)
    rw [show ((f.ID.toNat : Nat) : Int) = f.ID by omega] at this
    exact this
  have hd : f.ID.toNat / 2 ^ 18 ≤ f.ID.toNat := Nat.div_le_self _ _
  have e3 : wu64 (bShr .i64 f.ID 18) = ((f.ID.toNat / 2 ^ 18 : Nat) : Int) := by rw [e2]; exact wu64_eq _ (by omega)
  have b1 : ∀ n s : Int, (bwriteS n s).length = s.toNat := fun n s => wr_length _ _
  have b2 := fbit_len f.Remote
  rw [e1, e3]
  refine ⟨fun h1 => ⟨by omega, by rw [b1, b2]; decide, by rw [List.length_append, b1, b2]; decide, ?_⟩, fun h1 => ⟨by omega, by rw [b1]; decide, by omega, by rw [List.length_append, b1, b1]; decide, by rw [List.length_append, List.length_append, b1, b1, b2]; decide, ?_⟩⟩
  · unfold fnameS
    rw [if_pos (by simpa using h1)]
    rfl
  · unfold fnameS
    rw [if_neg (by simpa using h1)]
    unfold bwriteS
    rw [Int.toNat_natCast]
    rfl
theorem fnameS_len (f : Frame) : (fnameS f).length = if f.Long = false then 13 else 32 := by
  unfold fnameS
  split <;> simp [wr_length, fbit_len]
theorem fnameS_row (f : Frame) : isRow (fnameS f) = true := by
  unfold fnameS
  split <;> simp only [isRow_append, wr_row, fbit_row] <;> rfl
def rtakeFS (r : FReader) (n : Int) : List UInt8 × FReader := ((rtakeS r.Reader n).1, ⟨(rtakeS r.Reader n).2, r.f⟩)
theorem rtakeF_ok (r : FReader) (n : Int) (h : Rok r.Reader ∧ n ≤ 9223372036854775807) : rtakeF_vc r n (fun q => q = rtakeFS r n) :=
  rtakeF_lift r n (rtake_mono (by rintro _ rfl; rfl) (rtake_ok r.Reader n h))
def rplainS (r : Reader) (n : Int) : List UInt8 × Reader :=
  if n ≤ 0 then ([], r) else if r.Code ≠ 0 then ([], r) else if r.At + n ≤ r.Row.length then ((r.Row.drop r.At.toNat).take n.toNat, ⟨r.Row, r.At + n, r.Code, r.c⟩) else ([], ⟨r.Row, r.Row.length, 7, r.c⟩)
theorem rplain_ok (r : Reader) (n : Int) (h : (0 ≤ r.At ∧ r.At ≤ (r.Row.length : Int) ∧ r.Row.length ≤ 1000000) ∧ n ≤ 1000000) : rplain_vc r n (fun q => q = rplainS r n) := by
  obtain ⟨⟨h0, h1, h2⟩, hn⟩ := h
  by_cases hn0 : n ≤ 0
  · refine ⟨fun x i y => x = [] ∧ i = 0 ∧ y = r, fun _ _ _ => 0, ⟨rfl, rfl, rfl⟩, ?_⟩
    rintro _ _ y ⟨rfl, rfl, hy⟩
    rw [hy]
    have hS : rplainS r n = ([], r) := by unfold rplainS; rw [if_pos hn0]
    rw [hS]
    exact ⟨fun h3 => by have := of_decide_eq_true h3; omega, fun _ => ⟨fun _ => rfl, fun _ => rfl⟩⟩
  by_cases hc : r.Code ≠ 0
  · have hS : rplainS r n = ([], r) := by unfold rplainS; rw [if_neg hn0, if_pos hc]
    rw [hS]
    refine ⟨fun x i y => ∃ k : Nat, i = k ∧ (k : Int) ≤ n ∧ x.length = k ∧ y = r, fun _ i _ => (n - i).toNat, ⟨0, rfl, by omega, rfl, rfl⟩, ?_⟩
    rintro x _ y ⟨k, rfl, hk, hx, hy⟩
    rw [hy]
    refine ⟨fun h3 => ⟨⟨h0, h1, h2⟩, ?_⟩, fun _ => ⟨fun _ => rfl, fun h4 => absurd hc (by simpa using h4)⟩⟩
    rintro _ rfl
    have h3 := of_decide_eq_true h3
    rw [w64_succ k (by omega), rbitS_bad _ hc]
    exact ⟨by omega, ⟨k + 1, rfl, by omega, by simp [hx], rfl⟩, by (try dsimp only); omega⟩
  · have hc0 : r.Code = 0 := by simpa using hc
    refine ⟨fun x i y => ∃ k : Nat, i = k ∧ (k : Int) ≤ n ∧ x.length = k ∧ ((r.At + k ≤ (r.Row.length : Int) ∧ y = ⟨r.Row, r.At + k, r.Code, r.c⟩ ∧ bstr x = (r.Row.drop r.At.toNat).take k) ∨ ((r.Row.length : Int) < r.At + k ∧ y = ⟨r.Row, r.Row.length, 7, r.c⟩)), fun _ i _ => (n - i).toNat, ⟨0, rfl, by omega, rfl, .inl ⟨by omega, by simp, by simp [bstr]⟩⟩, ?_⟩
    rintro x _ y ⟨k, rfl, hk, hx, hy⟩
    have hyb : 0 ≤ y.At ∧ y.At ≤ (y.Row.length : Int) ∧ y.Row.length ≤ 1000000 := by
      rcases hy with ⟨a, rfl, _⟩ | ⟨a, rfl⟩
      · exact ⟨by (try dsimp only); omega, by (try dsimp only); omega, h2⟩
      · exact ⟨by (try dsimp only); omega, by (try dsimp only); omega, h2⟩
    refine ⟨fun h3 => ⟨hyb, ?_⟩, fun h3 => ?_⟩
    · rintro _ rfl
      have h3 := of_decide_eq_true h3
      rw [w64_succ k (by omega)]
      refine ⟨by omega, ⟨k + 1, rfl, by omega, by simp [hx], ?_⟩, by (try dsimp only); omega⟩
      rcases hy with ⟨a, rfl, e⟩ | ⟨a, rfl⟩
      · rw [rbitS_mk, if_neg hc]
        rcases Nat.lt_or_ge (r.At + k).toNat r.Row.length with hlt | hge
        · obtain ⟨c, hcx⟩ : ∃ c, r.Row[(r.At + k).toNat]? = some c := ⟨_, List.getElem?_eq_getElem hlt⟩
          rw [hcx]
          refine .inl ⟨by omega, by simp; omega, ?_⟩
          rw [bstr_append, e, bstr_one, List.take_add_one]
          congr 1
          have : (r.Row.drop r.At.toNat)[k]? = some c := by rw [List.getElem?_drop, ← hcx]; congr 1; omega
          rw [this]; rfl
        · rw [List.getElem?_eq_none hge]
          refine .inr ⟨by omega, ?_⟩
          have : r.At + (k : Int) = (r.Row.length : Int) := by omega
          rw [this]
      · rw [rbitS_bad _ (by show (7 : Int) ≠ 0; decide)]
        exact .inr ⟨by omega, rfl⟩
    · have hkn : (k : Int) = n := by have := of_decide_eq_false h3; omega
      rcases hy with ⟨a, rfl, e⟩ | ⟨a, rfl⟩
      · have hS : rplainS r n = ((r.Row.drop r.At.toNat).take n.toNat, ⟨r.Row, r.At + n, r.Code, r.c⟩) := by unfold rplainS; rw [if_neg hn0, if_neg hc, if_pos (by omega)]
        rw [hS]
        refine ⟨fun h4 => absurd hc0 (by simpa using h4), fun _ => ?_⟩
        rw [e, ← hkn, Int.toNat_natCast]
      · have hS : rplainS r n = ([], ⟨r.Row, r.Row.length, 7, r.c⟩) := by unfold rplainS; rw [if_neg hn0, if_neg hc, if_neg (by omega)]
        rw [hS]
        exact ⟨fun _ => rfl, fun h4 => by simp at h4⟩
def rplainFS (r : FReader) (n : Int) : List UInt8 × FReader := ((rplainS r.Reader n).1, ⟨(rplainS r.Reader n).2, r.f⟩)
theorem rplainF_ok (r : FReader) (n : Int) (h : (0 ≤ r.Reader.At ∧ r.Reader.At ≤ (r.Reader.Row.length : Int) ∧ r.Reader.Row.length ≤ 1000000) ∧ n ≤ 1000000) : rplainF_vc r n (fun q => q = rplainFS r n) :=
  rplainF_lift r n (rplain_mono (by rintro _ rfl; rfl) (rplain_ok r.Reader n h))
/-- A row's bytes. -/
def byb : Nat → List UInt8 → List Int
  | 0, _ => []
  | k + 1, b => (val (b.take 8) : Int) :: byb k (b.drop 8)
def bbytesS (b : List UInt8) : List Int × Int := if bcheckS b ≠ 0 then ([], bcheckS b) else if b.length % 8 ≠ 0 then ([], 4) else (byb (b.length / 8) b, 0)
theorem bbytes_ok (b : List UInt8) : bbytes_vc b (fun r => r = bbytesS b) := by
  have hm : ((b.length : Int).tmod 8 != 0) = decide (b.length % 8 ≠ 0) := by
    rw [Int.tmod_eq_emod_of_nonneg (by omega)]
    by_cases h : b.length % 8 = 0
    · have : (b.length : Int) % 8 = 0 := by omega
      simp [this, h]
    · have : ¬ (b.length : Int) % 8 = 0 := by omega
      rw [decide_eq_true h]
      exact bne_iff_ne.2 this
  unfold bbytes_vc
  rw [hm]
  refine ⟨fun h => ?_, fun h => ⟨fun h1 => ?_, fun h1 => ?_⟩⟩
  · have h : bcheckS b ≠ 0 := by simpa using h
    unfold bbytesS
    rw [if_pos h]
  all_goals
    have h : ¬ bcheckS b ≠ 0 := by simpa using h
  · unfold bbytesS
    rw [if_neg h, if_pos (of_decide_eq_true h1)]
  · have h1 := of_decide_eq_false h1
    have hS : bbytesS b = (byb (b.length / 8) b, 0) := by unfold bbytesS; rw [if_neg h, if_neg h1]
    obtain ⟨hl, hr⟩ := (bcheck_zero b).1 (by simpa using h)
    rw [hS]
    refine ⟨fun x y => ∃ k : Nat, x.length = 8 * k ∧ x.length ≤ b.length ∧ isRow x = true ∧ y.length + k = b.length / 8 ∧ y ++ byb k x = byb (b.length / 8) b, fun x _ => x.length, ⟨b.length / 8, by omega, Nat.le_refl _, hr, by simp, by simp⟩, ?_⟩
    rintro x y ⟨k, hx, hxb, hxr, hyk, hyx⟩
    refine ⟨fun h2 => ?_, fun h2 => ?_⟩
    · have h2 := of_decide_eq_true h2
      obtain ⟨j, rfl⟩ : ∃ j, k = j + 1 := ⟨k - 1, by omega⟩
      have e8 : (8 : Int).toNat = 8 := rfl
      rw [e8]
      have htr := isRow_take hxr 8
      have htl : (x.take 8).length = 8 := by rw [List.length_take]; omega
      have hv := val_lt htr
      rw [htl] at hv
      have hw : w8 (breadS (x.take 8)) = (val (x.take 8) : Int) := w8_eq _ (by unfold breadS; have : (2 : Nat) ^ 8 = 256 := rfl; omega)
      rw [hw]
      refine ⟨by omega, ⟨by omega, htr⟩, by omega, by omega, ⟨j, by rw [List.length_drop]; omega, by rw [List.length_drop]; omega, isRow_drop hxr 8, by simp; omega, ?_⟩, by (try dsimp only); rw [List.length_drop]; omega⟩
      rw [← hyx, byb]
      simp
    · have h2 := of_decide_eq_false h2
      have : k = 0 := by omega
      subst this
      rw [byb, List.append_nil] at hyx
      rw [hyx]
def beqS (a b : List Int) : Bool := decide (a = b)
theorem list_eq_at {α : Type} {a b : List α} (hl : a.length = b.length) (h : ∀ (k : Nat) (x y : α), a[k]? = some x → b[k]? = some y → x = y) : a = b := by
  apply List.ext_getElem? 
  intro k
  rcases Nat.lt_or_ge k a.length with hk | hk
  · have h1 := List.getElem?_eq_getElem hk
    have h2 := List.getElem?_eq_getElem (l := b) (show k < b.length by omega)
    rw [h1, h2, h k _ _ h1 h2]
  · rw [List.getElem?_eq_none hk, List.getElem?_eq_none (by omega)]
theorem beq_ok (a b : List Int) : beq_vc a b (fun r => r = beqS a b) := by
  intro ha hb
  refine ⟨fun h => ?_, fun h => ?_⟩
  · have h : ¬ (a.length : Int) = (b.length : Int) := by simpa using h
    unfold beqS
    rw [decide_eq_false]
    intro e
    rw [e] at h
    exact h rfl
  · have h : a.length = b.length := by
      have h : (a.length : Int) = (b.length : Int) := by simpa only [bne_eq_false_iff_eq] using h
      omega
    refine ⟨fun i => ∃ k : Nat, i = k ∧ k ≤ a.length ∧ ∀ (j : Nat) (x y : Int), j < k → a[j]? = some x → b[j]? = some y → x = y, fun i => a.length - i.toNat, ⟨0, rfl, by omega, fun j _ _ hj => absurd hj (Nat.not_lt_zero _)⟩, ?_⟩
    rintro _ ⟨k, rfl, hk, hj⟩
    refine ⟨fun h1 => ?_, fun h1 => ?_⟩
    · have hk : k < a.length := by have := of_decide_eq_true h1; omega
      rw [w64_succ k (by omega)]
      refine ⟨by omega, fun q hq => ⟨by omega, fun p hp => ⟨fun h2 => ?_, fun h2 => ?_⟩⟩⟩
      · unfold beqS
        rw [decide_eq_false]
        rintro rfl
        rw [hq] at hp
        cases hp
        simp at h2
      · have h2 : q = p := by simpa using h2
        rw [Int.toNat_natCast] at hq hp
        refine ⟨⟨k + 1, rfl, by omega, fun j x y hj1 hx hy => ?_⟩, by (try dsimp only); omega⟩
        rcases Nat.lt_or_ge j k with hc | hc
        · exact hj j x y hc hx hy
        · have : j = k := by omega
          subst this
          rw [hq] at hx
          rw [hp] at hy
          cases hx; cases hy; exact h2
    · have : k = a.length := by have := of_decide_eq_false h1; omega
      subst this
      unfold beqS
      rw [decide_eq_true]
      exact list_eq_at h fun k x y hx hy => hj k x y (List.getElem?_eq_some_iff.1 hx).1 hx hy
/-- How many bits were put in, within four bits. -/
def cnt4 (n : Nat) : List UInt8 := [[48, 48, 48, 48], [48, 48, 49, 49], [48, 49, 49, 48], [48, 49, 48, 49], [49, 49, 48, 48], [49, 49, 49, 49], [49, 48, 49, 48], [49, 48, 48, 49]].getD (n % 8) []
def fcountS (n : Int) : List UInt8 := cnt4 n.toNat
theorem fcount_ok (n : Int) (h : 0 ≤ n) : fcount_vc n (fun r => r = fcountS n) := by
  have key : ∀ m : Fin 8, (0 ≤ wu64 (bXor .i64 ((m.val : Nat) : Int) (bShr .i64 ((m.val : Nat) : Int) 1)) ∧ wu64 (bXor .i64 ((m.val : Nat) : Int) (bShr .i64 ((m.val : Nat) : Int) 1)) < 2 ^ 62) ∧
      bwriteS (wu64 (bXor .i64 ((m.val : Nat) : Int) (bShr .i64 ((m.val : Nat) : Int) 1))) 3 ++ fbit ((count1S (bwriteS (wu64 (bXor .i64 ((m.val : Nat) : Int) (bShr .i64 ((m.val : Nat) : Int) 1))) 3) [49]).tmod 2 == 1) = cnt4 m.val := by decide +kernel
  obtain ⟨k, rfl⟩ : ∃ k : Nat, n = k := ⟨n.toNat, by omega⟩
  have e : (k : Int).tmod 8 = ((k % 8 : Nat) : Int) := by rw [Int.tmod_eq_emod_of_nonneg (by omega)]; omega
  unfold fcount_vc
  rw [e]
  obtain ⟨⟨k1, k2⟩, k3⟩ := key ⟨k % 8, Nat.mod_lt _ (by decide)⟩
  dsimp only at k1 k2 k3
  have hlb : ∀ n s : Int, (bwriteS n s).length = s.toNat := fun n s => wr_length _ _
  refine ⟨⟨by decide, by decide, k1, k2⟩, by decide, by rw [hlb, fbit_len]; decide, ?_⟩
  dsimp only
  rw [k3]
  unfold fcountS cnt4
  rw [Int.toNat_natCast, Nat.mod_mod]
theorem rtakeFS_f (r : FReader) (n : Int) : (rtakeFS r n).2.f = r.f := rfl
theorem rplainFS_f (r : FReader) (n : Int) : (rplainFS r n).2.f = r.f := rfl

end Go.Proofs.YtmbdcehmeiiaoaaGreatDoor
