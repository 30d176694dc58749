/- What must hold so that each function ends well: pure predicates, made by program. -/
import Derived.Test.YtmbdcehmeiiaoaaDoorPA
set_option linter.unusedVariables false
set_option linter.unusedSimpArgs false
namespace Go.Proofs.YtmbdcehmeiiaoaaDoor
open Go.Sy Go.RowKit
def csum_vc (u0 : Int) (u1 : List UInt8) (K : ((List UInt8) × Int) → Prop) : Prop :=
  ((((bcheckS u1) != 0) = true →
      (K ([], (bcheckS u1)))) ∧
    (((bcheckS u1) != 0) = false →
      ((((decide (u0 < 0)) || (decide (u0 ≥ 5))) = true →
        (K ([], 8))) ∧
      (((decide (u0 < 0)) || (decide (u0 ≥ 5))) = false →
        ((0 ≤ u0 ∧ u0 < 5) ∧
        ((okKindS (⟨([ckinds.1.Size, ckinds.2.1.Size, ckinds.2.2.1.Size, ckinds.2.2.2.1.Size, ckinds.2.2.2.2.Size] : List Int).getD u0.toNat 0, ([ckinds.1.Poly, ckinds.2.1.Poly, ckinds.2.2.1.Poly, ckinds.2.2.2.1.Poly, ckinds.2.2.2.2.Poly] : List Int).getD u0.toNat 0, ([ckinds.1.From, ckinds.2.1.From, ckinds.2.2.1.From, ckinds.2.2.2.1.From, ckinds.2.2.2.2.From] : List Int).getD u0.toNat 0, ([ckinds.1.End, ckinds.2.1.End, ckinds.2.2.1.End, ckinds.2.2.2.1.End, ckinds.2.2.2.2.End] : List Int).getD u0.toNat 0⟩ : Kind) ∧ u1.length ≤ 1000000) ∧
        ((0 ≤ (([ckinds.1.Size, ckinds.2.1.Size, ckinds.2.2.1.Size, ckinds.2.2.2.1.Size, ckinds.2.2.2.2.Size] : List Int).getD u0.toNat 0) ∧ (([ckinds.1.Size, ckinds.2.1.Size, ckinds.2.2.1.Size, ckinds.2.2.2.1.Size, ckinds.2.2.2.2.Size] : List Int).getD u0.toNat 0) ≤ 64 ∧ 0 ≤ (ksumS (⟨([ckinds.1.Size, ckinds.2.1.Size, ckinds.2.2.1.Size, ckinds.2.2.2.1.Size, ckinds.2.2.2.2.Size] : List Int).getD u0.toNat 0, ([ckinds.1.Poly, ckinds.2.1.Poly, ckinds.2.2.1.Poly, ckinds.2.2.2.1.Poly, ckinds.2.2.2.2.Poly] : List Int).getD u0.toNat 0, ([ckinds.1.From, ckinds.2.1.From, ckinds.2.2.1.From, ckinds.2.2.2.1.From, ckinds.2.2.2.2.From] : List Int).getD u0.toNat 0, ([ckinds.1.End, ckinds.2.1.End, ckinds.2.2.1.End, ckinds.2.2.2.1.End, ckinds.2.2.2.2.End] : List Int).getD u0.toNat 0⟩ : Kind) u1) ∧ (ksumS (⟨([ckinds.1.Size, ckinds.2.1.Size, ckinds.2.2.1.Size, ckinds.2.2.2.1.Size, ckinds.2.2.2.2.Size] : List Int).getD u0.toNat 0, ([ckinds.1.Poly, ckinds.2.1.Poly, ckinds.2.2.1.Poly, ckinds.2.2.2.1.Poly, ckinds.2.2.2.2.Poly] : List Int).getD u0.toNat 0, ([ckinds.1.From, ckinds.2.1.From, ckinds.2.2.1.From, ckinds.2.2.2.1.From, ckinds.2.2.2.2.From] : List Int).getD u0.toNat 0, ([ckinds.1.End, ckinds.2.1.End, ckinds.2.2.1.End, ckinds.2.2.2.1.End, ckinds.2.2.2.2.End] : List Int).getD u0.toNat 0⟩ : Kind) u1) < 2 ^ 62) ∧
        (K ((bwriteS (ksumS (⟨([ckinds.1.Size, ckinds.2.1.Size, ckinds.2.2.1.Size, ckinds.2.2.2.1.Size, ckinds.2.2.2.2.Size] : List Int).getD u0.toNat 0, ([ckinds.1.Poly, ckinds.2.1.Poly, ckinds.2.2.1.Poly, ckinds.2.2.2.1.Poly, ckinds.2.2.2.2.Poly] : List Int).getD u0.toNat 0, ([ckinds.1.From, ckinds.2.1.From, ckinds.2.2.1.From, ckinds.2.2.2.1.From, ckinds.2.2.2.2.From] : List Int).getD u0.toNat 0, ([ckinds.1.End, ckinds.2.1.End, ckinds.2.2.1.End, ckinds.2.2.2.1.End, ckinds.2.2.2.2.End] : List Int).getD u0.toNat 0⟩ : Kind) u1) (([ckinds.1.Size, ckinds.2.1.Size, ckinds.2.2.1.Size, ckinds.2.2.2.1.Size, ckinds.2.2.2.2.Size] : List Int).getD u0.toNat 0)), 0)))))))))

def bof_vc (u0 : List Int) (K : ((List UInt8) × Int) → Prop) : Prop :=
  (u0.length ≤ 140737488355328 →
    (((decide ((u0.length : Int) > 125)) = true →
      (K ([], 2))) ∧
    ((decide ((u0.length : Int) > 125)) = false →
      (∃ inv39 : Int → (List UInt8) → Prop, ∃ mu39 : Int → (List UInt8) → Nat, inv39 0 ([] : List UInt8) ∧
      (∀ (x12 : Int) (yb26 : List UInt8), inv39 x12 yb26 →
      (((decide (x12 < (u0.length : Int))) = true →
        ((0 ≤ x12 ∧ x12 < (u0.length : Int)) ∧
        (∀ q64, u0[x12.toNat]? = some q64 →
        ((0 ≤ (8 : Int) ∧ (8 : Int) ≤ 64 ∧ 0 ≤ (wu64 q64) ∧ (wu64 q64) < 2 ^ 62) ∧
        ((yb26.length + (bwriteS (wu64 q64) 8).length ≤ 140737488355328) ∧
        (inv39 (w64 (x12 + 1)) (yb26 ++ (bwriteS (wu64 q64) 8)) ∧ mu39 (w64 (x12 + 1)) (yb26 ++ (bwriteS (wu64 q64) 8)) < mu39 x12 yb26)))))) ∧
      ((decide (x12 < (u0.length : Int))) = false →
        (K (yb26, 0)))))))))

def rtake_vc (u0 : Reader) (u1 : Int) (K : ((List UInt8) × Reader) → Prop) : Prop :=
  (∃ inv14 : (List Int) → Int → Reader → Prop, ∃ mu14 : (List Int) → Int → Reader → Nat, inv14 ([] : List Int) 0 u0 ∧
    (∀ (x5 : List Int) (x11 : Int) (yb1 : Reader), inv14 x5 x11 yb1 →
    (((decide (x11 < u1)) = true →
      ((0 ≤ yb1.At ∧ yb1.At ≤ (yb1.Row.length : Int) ∧ yb1.Row.length ≤ 1000000) ∧
      (∀ r42, (rbitS yb1) = r42 →
      (((r42.2.Code != 0) = true →
        (K ([], r42.2))) ∧
      ((r42.2.Code != 0) = false →
        (((x5.length + 1) * 1 ≤ 140737488355328) ∧
        ((-1000000 ≤ r42.2.c.n ∧ r42.2.c.n ≤ 1000000 ∧ 0 ≤ r42.1 ∧ r42.1 ≤ 97) ∧
        (∀ r106, (cnextRS r42.2 r42.1) = r106 →
        ((r106.2.1 = true →
          ((0 ≤ r106.2.2.At ∧ r106.2.2.At ≤ (r106.2.2.Row.length : Int) ∧ r106.2.2.Row.length ≤ 1000000) ∧
          (∀ r137, (rbitS r106.2.2) = r137 →
          ((((r137.2.Code == 0) && (r137.1 != r106.1)) = true →
            ((-1000000 ≤ (⟨r137.2.Row, r137.2.At, 5, r137.2.c⟩ : Reader).c.n ∧ (⟨r137.2.Row, r137.2.At, 5, r137.2.c⟩ : Reader).c.n ≤ 1000000 ∧ 0 ≤ r106.1 ∧ r106.1 ≤ 97) ∧
            (∀ r197, (cnextRS (⟨r137.2.Row, r137.2.At, 5, r137.2.c⟩ : Reader) r106.1) = r197 →
            (inv14 (x5 ++ [r42.1]) (w64 (x11 + 1)) r197.2.2 ∧ mu14 (x5 ++ [r42.1]) (w64 (x11 + 1)) r197.2.2 < mu14 x5 x11 yb1)))) ∧
          (((r137.2.Code == 0) && (r137.1 != r106.1)) = false →
            ((-1000000 ≤ r137.2.c.n ∧ r137.2.c.n ≤ 1000000 ∧ 0 ≤ r106.1 ∧ r106.1 ≤ 97) ∧
            (∀ r227, (cnextRS r137.2 r106.1) = r227 →
            (inv14 (x5 ++ [r42.1]) (w64 (x11 + 1)) r227.2.2 ∧ mu14 (x5 ++ [r42.1]) (w64 (x11 + 1)) r227.2.2 < mu14 x5 x11 yb1)))))))) ∧
        (r106.2.1 = false →
          (inv14 (x5 ++ [r42.1]) (w64 (x11 + 1)) r106.2.2 ∧ mu14 (x5 ++ [r42.1]) (w64 (x11 + 1)) r106.2.2 < mu14 x5 x11 yb1))))))))))) ∧
    ((decide (x11 < u1)) = false →
      (((yb1.Code != 0) = true →
        (K ([], yb1))) ∧
      ((yb1.Code != 0) = false →
        (K (bstr x5, yb1))))))))
theorem rtake_mono {u0 : Reader} {u1 : Int} {K K1 : ((List UInt8) × Reader) → Prop} (hK : ∀ r, K r → K1 r) (h : rtake_vc u0 u1 K) : rtake_vc u0 u1 K1 :=
  (Exists.elim h fun i0 e0 => Exists.elim e0 fun m0 g0 => ⟨i0, m0, g0.1, fun x5 x11 yb1 z0 => ⟨fun c1 => ⟨((g0.2 x5 x11 yb1 z0).1 c1).1, fun y3 z3 => ⟨fun c4 => hK _ (((((g0.2 x5 x11 yb1 z0).1 c1).2) y3 z3).1 c4), fun c4 => ⟨(((((g0.2 x5 x11 yb1 z0).1 c1).2) y3 z3).2 c4).1, ⟨((((((g0.2 x5 x11 yb1 z0).1 c1).2) y3 z3).2 c4).2).1, fun y7 z7 => ⟨fun c8 => ⟨(((((((((g0.2 x5 x11 yb1 z0).1 c1).2) y3 z3).2 c4).2).2) y7 z7).1 c8).1, fun y10 z10 => ⟨fun c11 => ⟨((((((((((((g0.2 x5 x11 yb1 z0).1 c1).2) y3 z3).2 c4).2).2) y7 z7).1 c8).2) y10 z10).1 c11).1, fun y13 z13 => ((((((((((((((g0.2 x5 x11 yb1 z0).1 c1).2) y3 z3).2 c4).2).2) y7 z7).1 c8).2) y10 z10).1 c11).2) y13 z13)⟩, fun c11 => ⟨((((((((((((g0.2 x5 x11 yb1 z0).1 c1).2) y3 z3).2 c4).2).2) y7 z7).1 c8).2) y10 z10).2 c11).1, fun y13 z13 => ((((((((((((((g0.2 x5 x11 yb1 z0).1 c1).2) y3 z3).2 c4).2).2) y7 z7).1 c8).2) y10 z10).2 c11).2) y13 z13)⟩⟩⟩, fun c8 => (((((((((g0.2 x5 x11 yb1 z0).1 c1).2) y3 z3).2 c4).2).2) y7 z7).2 c8)⟩⟩⟩⟩⟩, fun c1 => ⟨fun c2 => hK _ (((g0.2 x5 x11 yb1 z0).2 c1).1 c2), fun c2 => hK _ (((g0.2 x5 x11 yb1 z0).2 c1).2 c2)⟩⟩⟩)

def rplain_vc (u0 : Reader) (u1 : Int) (K : ((List UInt8) × Reader) → Prop) : Prop :=
  (∃ inv14 : (List Int) → Int → Reader → Prop, ∃ mu14 : (List Int) → Int → Reader → Nat, inv14 ([] : List Int) 0 u0 ∧
    (∀ (x5 : List Int) (x7 : Int) (yb1 : Reader), inv14 x5 x7 yb1 →
    (((decide (x7 < u1)) = true →
      ((0 ≤ yb1.At ∧ yb1.At ≤ (yb1.Row.length : Int) ∧ yb1.Row.length ≤ 1000000) ∧
      (∀ r44, (rbitS yb1) = r44 →
      (((x5.length + 1) * 1 ≤ 140737488355328) ∧
      (inv14 (x5 ++ [r44.1]) (w64 (x7 + 1)) r44.2 ∧ mu14 (x5 ++ [r44.1]) (w64 (x7 + 1)) r44.2 < mu14 x5 x7 yb1))))) ∧
    ((decide (x7 < u1)) = false →
      (((yb1.Code != 0) = true →
        (K ([], yb1))) ∧
      ((yb1.Code != 0) = false →
        (K (bstr x5, yb1))))))))
theorem rplain_mono {u0 : Reader} {u1 : Int} {K K1 : ((List UInt8) × Reader) → Prop} (hK : ∀ r, K r → K1 r) (h : rplain_vc u0 u1 K) : rplain_vc u0 u1 K1 :=
  (Exists.elim h fun i0 e0 => Exists.elim e0 fun m0 g0 => ⟨i0, m0, g0.1, fun x5 x7 yb1 z0 => ⟨fun c1 => ⟨((g0.2 x5 x7 yb1 z0).1 c1).1, fun y3 z3 => ⟨((((g0.2 x5 x7 yb1 z0).1 c1).2) y3 z3).1, ((((g0.2 x5 x7 yb1 z0).1 c1).2) y3 z3).2⟩⟩, fun c1 => ⟨fun c2 => hK _ (((g0.2 x5 x7 yb1 z0).2 c1).1 c2), fun c2 => hK _ (((g0.2 x5 x7 yb1 z0).2 c1).2 c2)⟩⟩⟩)

def rtakeF_vc (u0 : FReader) (u1 : Int) (K : ((List UInt8) × FReader) → Prop) : Prop :=
  (u0.f.Data.length ≤ 140737488355328 →
    (∃ inv18 : (List Int) → Int → FReader → Prop, ∃ mu18 : (List Int) → Int → FReader → Nat, inv18 ([] : List Int) 0 u0 ∧
    (∀ (x5 : List Int) (x11 : Int) (yb1 : FReader), inv18 x5 x11 yb1 →
    (((decide (x11 < u1)) = true →
      ((0 ≤ yb1.Reader.At ∧ yb1.Reader.At ≤ (yb1.Reader.Row.length : Int) ∧ yb1.Reader.Row.length ≤ 1000000) ∧
      (∀ r47, (rbitFS yb1) = r47 →
      (r47.2.f.Data.length ≤ 140737488355328 →
      (((r47.2.Reader.Code != 0) = true →
        (K ([], r47.2))) ∧
      ((r47.2.Reader.Code != 0) = false →
        (((x5.length + 1) * 1 ≤ 140737488355328) ∧
        ((-1000000 ≤ r47.2.Reader.c.n ∧ r47.2.Reader.c.n ≤ 1000000 ∧ 0 ≤ r47.1 ∧ r47.1 ≤ 97) ∧
        (∀ r115, (cnextFS r47.2 r47.1) = r115 →
        (r115.2.2.f.Data.length ≤ 140737488355328 →
        ((r115.2.1 = true →
          ((0 ≤ r115.2.2.Reader.At ∧ r115.2.2.Reader.At ≤ (r115.2.2.Reader.Row.length : Int) ∧ r115.2.2.Reader.Row.length ≤ 1000000) ∧
          (∀ r150, (rbitFS r115.2.2) = r150 →
          (r150.2.f.Data.length ≤ 140737488355328 →
          ((((r150.2.Reader.Code == 0) && (r150.1 != r115.1)) = true →
            ((-1000000 ≤ (⟨(⟨r150.2.Reader.Row, r150.2.Reader.At, 5, r150.2.Reader.c⟩ : Reader), r150.2.f⟩ : FReader).Reader.c.n ∧ (⟨(⟨r150.2.Reader.Row, r150.2.Reader.At, 5, r150.2.Reader.c⟩ : Reader), r150.2.f⟩ : FReader).Reader.c.n ≤ 1000000 ∧ 0 ≤ r115.1 ∧ r115.1 ≤ 97) ∧
            (∀ r214, (cnextFS (⟨(⟨r150.2.Reader.Row, r150.2.Reader.At, 5, r150.2.Reader.c⟩ : Reader), r150.2.f⟩ : FReader) r115.1) = r214 →
            (r214.2.2.f.Data.length ≤ 140737488355328 →
            (inv18 (x5 ++ [r47.1]) (w64 (x11 + 1)) r214.2.2 ∧ mu18 (x5 ++ [r47.1]) (w64 (x11 + 1)) r214.2.2 < mu18 x5 x11 yb1))))) ∧
          (((r150.2.Reader.Code == 0) && (r150.1 != r115.1)) = false →
            ((-1000000 ≤ r150.2.Reader.c.n ∧ r150.2.Reader.c.n ≤ 1000000 ∧ 0 ≤ r115.1 ∧ r115.1 ≤ 97) ∧
            (∀ r248, (cnextFS r150.2 r115.1) = r248 →
            (r248.2.2.f.Data.length ≤ 140737488355328 →
            (inv18 (x5 ++ [r47.1]) (w64 (x11 + 1)) r248.2.2 ∧ mu18 (x5 ++ [r47.1]) (w64 (x11 + 1)) r248.2.2 < mu18 x5 x11 yb1)))))))))) ∧
        (r115.2.1 = false →
          (inv18 (x5 ++ [r47.1]) (w64 (x11 + 1)) r115.2.2 ∧ mu18 (x5 ++ [r47.1]) (w64 (x11 + 1)) r115.2.2 < mu18 x5 x11 yb1))))))))))))) ∧
    ((decide (x11 < u1)) = false →
      (((yb1.Reader.Code != 0) = true →
        (K ([], yb1))) ∧
      ((yb1.Reader.Code != 0) = false →
        (K (bstr x5, yb1)))))))))
theorem rtakeF_lift (u0 : FReader) (u1 : Int) {K : ((List UInt8) × FReader) → Prop} (h : rtake_vc u0.Reader u1 fun r => K (r.1, (⟨r.2, u0.f⟩ : FReader))) : rtakeF_vc u0 u1 K :=
  fun z0 => (Exists.elim h fun i1 e1 => Exists.elim e1 fun m1 g1 => ⟨fun x5 x11 yb1 => (⟨yb1.Reader, u0.f⟩ : FReader) = yb1 ∧ i1 x5 x11 yb1.Reader, fun x5 x11 yb1 => m1 x5 x11 yb1.Reader, ⟨rfl, g1.1⟩, fun x5 x11 yb1 z1 => by obtain ⟨e1yb1, z1⟩ := z1; obtain ⟨yb1v1, hx1yb1⟩ : ∃ q, q = yb1.Reader := ⟨_, rfl⟩; rw [← hx1yb1] at e1yb1 z1; subst e1yb1; clear hx1yb1; exact ⟨fun c2 => ⟨((g1.2 x5 x11 yb1v1 z1).1 c2).1, fun y4 z4 => by subst z4; exact fun z5 => ⟨fun c6 => (((((g1.2 x5 x11 yb1v1 z1).1 c2).2) _ rfl).1 c6), fun c6 => ⟨(((((g1.2 x5 x11 yb1v1 z1).1 c2).2) _ rfl).2 c6).1, ⟨((((((g1.2 x5 x11 yb1v1 z1).1 c2).2) _ rfl).2 c6).2).1, fun y9 z9 => by subst z9; exact fun z10 => ⟨fun c11 => ⟨(((((((((g1.2 x5 x11 yb1v1 z1).1 c2).2) _ rfl).2 c6).2).2) _ rfl).1 c11).1, fun y13 z13 => by subst z13; exact fun z14 => ⟨fun c15 => ⟨((((((((((((g1.2 x5 x11 yb1v1 z1).1 c2).2) _ rfl).2 c6).2).2) _ rfl).1 c11).2) _ rfl).1 c15).1, fun y17 z17 => by subst z17; exact fun z18 => by first | exact ((((((((((((((g1.2 x5 x11 yb1v1 z1).1 c2).2) _ rfl).2 c6).2).2) _ rfl).1 c11).2) _ rfl).1 c15).2) _ rfl) | exact ⟨⟨rfl, ((((((((((((((g1.2 x5 x11 yb1v1 z1).1 c2).2) _ rfl).2 c6).2).2) _ rfl).1 c11).2) _ rfl).1 c15).2) _ rfl).1⟩, ((((((((((((((g1.2 x5 x11 yb1v1 z1).1 c2).2) _ rfl).2 c6).2).2) _ rfl).1 c11).2) _ rfl).1 c15).2) _ rfl).2⟩⟩, fun c15 => ⟨((((((((((((g1.2 x5 x11 yb1v1 z1).1 c2).2) _ rfl).2 c6).2).2) _ rfl).1 c11).2) _ rfl).2 c15).1, fun y17 z17 => by subst z17; exact fun z18 => by first | exact ((((((((((((((g1.2 x5 x11 yb1v1 z1).1 c2).2) _ rfl).2 c6).2).2) _ rfl).1 c11).2) _ rfl).2 c15).2) _ rfl) | exact ⟨⟨rfl, ((((((((((((((g1.2 x5 x11 yb1v1 z1).1 c2).2) _ rfl).2 c6).2).2) _ rfl).1 c11).2) _ rfl).2 c15).2) _ rfl).1⟩, ((((((((((((((g1.2 x5 x11 yb1v1 z1).1 c2).2) _ rfl).2 c6).2).2) _ rfl).1 c11).2) _ rfl).2 c15).2) _ rfl).2⟩⟩⟩⟩, fun c11 => by first | exact (((((((((g1.2 x5 x11 yb1v1 z1).1 c2).2) _ rfl).2 c6).2).2) _ rfl).2 c11) | exact ⟨⟨rfl, (((((((((g1.2 x5 x11 yb1v1 z1).1 c2).2) _ rfl).2 c6).2).2) _ rfl).2 c11).1⟩, (((((((((g1.2 x5 x11 yb1v1 z1).1 c2).2) _ rfl).2 c6).2).2) _ rfl).2 c11).2⟩⟩⟩⟩⟩⟩, fun c2 => ⟨fun c3 => (((g1.2 x5 x11 yb1v1 z1).2 c2).1 c3), fun c3 => (((g1.2 x5 x11 yb1v1 z1).2 c2).2 c3)⟩⟩⟩)

def rplainF_vc (u0 : FReader) (u1 : Int) (K : ((List UInt8) × FReader) → Prop) : Prop :=
  (u0.f.Data.length ≤ 140737488355328 →
    (∃ inv18 : (List Int) → Int → FReader → Prop, ∃ mu18 : (List Int) → Int → FReader → Nat, inv18 ([] : List Int) 0 u0 ∧
    (∀ (x5 : List Int) (x7 : Int) (yb1 : FReader), inv18 x5 x7 yb1 →
    (((decide (x7 < u1)) = true →
      ((0 ≤ yb1.Reader.At ∧ yb1.Reader.At ≤ (yb1.Reader.Row.length : Int) ∧ yb1.Reader.Row.length ≤ 1000000) ∧
      (∀ r49, (rbitFS yb1) = r49 →
      (r49.2.f.Data.length ≤ 140737488355328 →
      (((x5.length + 1) * 1 ≤ 140737488355328) ∧
      (inv18 (x5 ++ [r49.1]) (w64 (x7 + 1)) r49.2 ∧ mu18 (x5 ++ [r49.1]) (w64 (x7 + 1)) r49.2 < mu18 x5 x7 yb1)))))) ∧
    ((decide (x7 < u1)) = false →
      (((yb1.Reader.Code != 0) = true →
        (K ([], yb1))) ∧
      ((yb1.Reader.Code != 0) = false →
        (K (bstr x5, yb1)))))))))
theorem rplainF_lift (u0 : FReader) (u1 : Int) {K : ((List UInt8) × FReader) → Prop} (h : rplain_vc u0.Reader u1 fun r => K (r.1, (⟨r.2, u0.f⟩ : FReader))) : rplainF_vc u0 u1 K :=
  fun z0 => (Exists.elim h fun i1 e1 => Exists.elim e1 fun m1 g1 => ⟨fun x5 x7 yb1 => (⟨yb1.Reader, u0.f⟩ : FReader) = yb1 ∧ i1 x5 x7 yb1.Reader, fun x5 x7 yb1 => m1 x5 x7 yb1.Reader, ⟨rfl, g1.1⟩, fun x5 x7 yb1 z1 => by obtain ⟨e1yb1, z1⟩ := z1; obtain ⟨yb1v1, hx1yb1⟩ : ∃ q, q = yb1.Reader := ⟨_, rfl⟩; rw [← hx1yb1] at e1yb1 z1; subst e1yb1; clear hx1yb1; exact ⟨fun c2 => ⟨((g1.2 x5 x7 yb1v1 z1).1 c2).1, fun y4 z4 => by subst z4; exact fun z5 => ⟨((((g1.2 x5 x7 yb1v1 z1).1 c2).2) _ rfl).1, by first | exact ((((g1.2 x5 x7 yb1v1 z1).1 c2).2) _ rfl).2 | exact ⟨⟨rfl, (((((g1.2 x5 x7 yb1v1 z1).1 c2).2) _ rfl).2).1⟩, (((((g1.2 x5 x7 yb1v1 z1).1 c2).2) _ rfl).2).2⟩⟩⟩, fun c2 => ⟨fun c3 => (((g1.2 x5 x7 yb1v1 z1).2 c2).1 c3), fun c3 => (((g1.2 x5 x7 yb1v1 z1).2 c2).2 c3)⟩⟩⟩)

def sput_vc (u0 : List UInt8) (K : ((List UInt8) × Int) → Prop) : Prop :=
  ((((bcheckS u0) != 0) = true →
      (K ([], (bcheckS u0)))) ∧
    (((bcheckS u0) != 0) = false →
      (∃ inv47 : (List Int) → Int → Counter → Prop, ∃ mu47 : (List Int) → Int → Counter → Nat, inv47 ([] : List Int) 0 (⟨0, 0⟩ : Counter) ∧
      (∀ (x5 : List Int) (x17 : Int) (yb34 : Counter), inv47 x5 x17 yb34 →
      (((decide (x17 < (u0.length : Int))) = true →
        ((0 ≤ x17 ∧ x17 < (u0.length : Int)) ∧
        (∀ c80, u0[x17.toNat]? = some c80 →
        (((x5.length + 1) * 1 ≤ 140737488355328) ∧
        ((0 ≤ x17 ∧ x17 < (u0.length : Int)) ∧
        (∀ c109, u0[x17.toNat]? = some c109 →
        ((-1000000 ≤ yb34.n ∧ yb34.n ≤ 1000000 ∧ 0 ≤ (c109.toNat : Int) ∧ (c109.toNat : Int) ≤ 97) ∧
        (∀ r120, (cnextS yb34 (c109.toNat : Int)) = r120 →
        ((r120.2.1 = true →
          ((((x5 ++ [(c80.toNat : Int)]).length + 1) * 1 ≤ 140737488355328) ∧
          ((-1000000 ≤ r120.2.2.n ∧ r120.2.2.n ≤ 1000000 ∧ 0 ≤ r120.1 ∧ r120.1 ≤ 97) ∧
          (∀ r174, (cnextS r120.2.2 r120.1) = r174 →
          (inv47 ((x5 ++ [(c80.toNat : Int)]) ++ [r120.1]) (w64 (x17 + 1)) r174.2.2 ∧ mu47 ((x5 ++ [(c80.toNat : Int)]) ++ [r120.1]) (w64 (x17 + 1)) r174.2.2 < mu47 x5 x17 yb34))))) ∧
        (r120.2.1 = false →
          (inv47 (x5 ++ [(c80.toNat : Int)]) (w64 (x17 + 1)) r120.2.2 ∧ mu47 (x5 ++ [(c80.toNat : Int)]) (w64 (x17 + 1)) r120.2.2 < mu47 x5 x17 yb34))))))))))) ∧
      ((decide (x17 < (u0.length : Int))) = false →
        (K (bstr x5, 0))))))))

def sfixed_vc (u0 : List UInt8) (u1 : Int) (K : ((List UInt8) × Int) → Prop) : Prop :=
  ((((bcheckS u0) != 0) = true →
      (K ([], (bcheckS u0)))) ∧
    (((bcheckS u0) != 0) = false →
      ((((u1 != 48) && (u1 != 49)) = true →
        (K ([], 3))) ∧
      (((u1 != 48) && (u1 != 49)) = false →
        (∃ inv70 : (List Int) → Int → Int → Prop, ∃ mu70 : (List Int) → Int → Int → Nat, inv70 ([] : List Int) u1 0 ∧
        (∀ (x7 : List Int) (x8 : Int) (x24 : Int), inv70 x7 x8 x24 →
        (((decide (x24 < (u0.length : Int))) = true →
          ((((x24.tmod 4) == 0) = true →
            (((x7.length + 1) * 1 ≤ 140737488355328) ∧
            ((0 ≤ x24 ∧ x24 < (u0.length : Int)) ∧
            (∀ c136, u0[x24.toNat]? = some c136 →
            ((((x7 ++ [w8 (97 - x8)]).length + 1) * 1 ≤ 140737488355328) ∧
            ((0 ≤ x24 ∧ x24 < (u0.length : Int)) ∧
            (∀ c166, u0[x24.toNat]? = some c166 →
            (inv70 ((x7 ++ [w8 (97 - x8)]) ++ [(c136.toNat : Int)]) (c166.toNat : Int) (w64 (x24 + 1)) ∧ mu70 ((x7 ++ [w8 (97 - x8)]) ++ [(c136.toNat : Int)]) (c166.toNat : Int) (w64 (x24 + 1)) < mu70 x7 x8 x24)))))))) ∧
          (((x24.tmod 4) == 0) = false →
            ((0 ≤ x24 ∧ x24 < (u0.length : Int)) ∧
            (∀ c188, u0[x24.toNat]? = some c188 →
            (((x7.length + 1) * 1 ≤ 140737488355328) ∧
            ((0 ≤ x24 ∧ x24 < (u0.length : Int)) ∧
            (∀ c217, u0[x24.toNat]? = some c217 →
            (inv70 (x7 ++ [(c188.toNat : Int)]) (c217.toNat : Int) (w64 (x24 + 1)) ∧ mu70 (x7 ++ [(c188.toNat : Int)]) (c217.toNat : Int) (w64 (x24 + 1)) < mu70 x7 x8 x24))))))))) ∧
        ((decide (x24 < (u0.length : Int))) = false →
          (K (bstr x7, 0))))))))))

def bbytes_vc (u0 : List UInt8) (K : ((List Int) × Int) → Prop) : Prop :=
  ((((bcheckS u0) != 0) = true →
      (K (([] : List Int), (bcheckS u0)))) ∧
    (((bcheckS u0) != 0) = false →
      (((((u0.length : Int).tmod 8) != 0) = true →
        (K (([] : List Int), 4))) ∧
      ((((u0.length : Int).tmod 8) != 0) = false →
        (∃ inv53 : (List UInt8) → (List Int) → Prop, ∃ mu53 : (List UInt8) → (List Int) → Nat, inv53 u0 ([] : List Int) ∧
        (∀ (x0 : List UInt8) (x5 : List Int), inv53 x0 x5 →
        (((decide ((x0.length : Int) > 0)) = true →
          ((0 ≤ (8 : Int) ∧ (8 : Int) ≤ (x0.length : Int)) ∧
          (((x0.take (8 : Int).toNat).length ≤ 62 ∧ isRow (x0.take (8 : Int).toNat) = true) ∧
          (((x5.length + 1) * 1 ≤ 140737488355328) ∧
          ((0 ≤ (8 : Int) ∧ (8 : Int) ≤ (x0.length : Int)) ∧
          (inv53 (x0.drop (8 : Int).toNat) (x5 ++ [w8 (breadS (x0.take (8 : Int).toNat))]) ∧ mu53 (x0.drop (8 : Int).toNat) (x5 ++ [w8 (breadS (x0.take (8 : Int).toNat))]) < mu53 x0 x5)))))) ∧
        ((decide ((x0.length : Int) > 0)) = false →
          (K (x5, 0))))))))))

def beq_vc (u0 : List Int) (u1 : List Int) (K : Bool → Prop) : Prop :=
  (u0.length ≤ 140737488355328 →
    (u1.length ≤ 140737488355328 →
    ((((u0.length : Int) != (u1.length : Int)) = true →
      (K false)) ∧
    (((u0.length : Int) != (u1.length : Int)) = false →
      (∃ inv37 : Int → Prop, ∃ mu37 : Int → Nat, inv37 0 ∧
      (∀ (x13 : Int), inv37 x13 →
      (((decide (x13 < (u0.length : Int))) = true →
        ((0 ≤ x13 ∧ x13 < (u0.length : Int)) ∧
        (∀ q74, u0[x13.toNat]? = some q74 →
        ((0 ≤ x13 ∧ x13 < (u1.length : Int)) ∧
        (∀ q96, u1[x13.toNat]? = some q96 →
        (((q74 != q96) = true →
          (K false)) ∧
        ((q74 != q96) = false →
          (inv37 (w64 (x13 + 1)) ∧ mu37 (w64 (x13 + 1)) < mu37 x13)))))))) ∧
      ((decide (x13 < (u0.length : Int))) = false →
        (K true)))))))))

def hasprefix0_vc (u0 : List UInt8) (u1 : List UInt8) (K : Bool → Prop) : Prop :=
  (((decide ((u0.length : Int) ≥ (u1.length : Int))) = true →
      ((0 ≤ (u1.length : Int) ∧ (u1.length : Int) ≤ (u0.length : Int)) ∧
      (K ((u0.take (u1.length : Int).toNat) == u1)))) ∧
    ((decide ((u0.length : Int) ≥ (u1.length : Int))) = false →
      (K false)))
def hasprefix0 (u0 : List UInt8) (u1 : List UInt8) : Bool :=
  bif decide ((u0.length : Int) ≥ (u1.length : Int)) then ((u0.take (u1.length : Int).toNat) == u1)
    else false
theorem hasprefix0_ok (u0 : List UInt8) (u1 : List UInt8) : hasprefix0_vc u0 u1 (fun r => r = hasprefix0 u0 u1) := ⟨fun h0 => ⟨(by (try simp at h0); omega), (by simp only [hasprefix0, h0, cond_true, cond_false])⟩, fun h0 => (by simp only [hasprefix0, h0, cond_true, cond_false])⟩

def hasprefix_vc (u0 : List UInt8) (u1 : List UInt8) (K : Bool → Prop) : Prop :=
  (K (hasprefix0 u0 u1))
def hasprefix (u0 : List UInt8) (u1 : List UInt8) : Bool :=
  (hasprefix0 u0 u1)
theorem hasprefix_ok (u0 : List UInt8) (u1 : List UInt8) : hasprefix_vc u0 u1 (fun r => r = hasprefix u0 u1) := (by rfl)

def fname_vc (u0 : Frame) (K : (List UInt8) → Prop) : Prop :=
  (u0.Data.length ≤ 140737488355328 →
    (((!u0.Long) = true →
      ((0 ≤ (11 : Int) ∧ (11 : Int) ≤ 64 ∧ 0 ≤ (wu64 u0.ID) ∧ (wu64 u0.ID) < 2 ^ 62) ∧
      ((((bwriteS (wu64 u0.ID) 11).length : Int) + ((fbit u0.Remote).length : Int) ≤ 9223372036854775807) ∧
      (((((bwriteS (wu64 u0.ID) 11) ++ (fbit u0.Remote)).length : Int) + (([48] : List UInt8).length : Int) ≤ 9223372036854775807) ∧
      (K (((bwriteS (wu64 u0.ID) 11) ++ (fbit u0.Remote)) ++ ([48] : List UInt8))))))) ∧
    ((!u0.Long) = false →
      ((0 ≤ (11 : Int) ∧ (11 : Int) ≤ 64 ∧ 0 ≤ (wu64 (bShr .i64 u0.ID 18)) ∧ (wu64 (bShr .i64 u0.ID 18)) < 2 ^ 62) ∧
      ((((bwriteS (wu64 (bShr .i64 u0.ID 18)) 11).length : Int) + (([49, 49] : List UInt8).length : Int) ≤ 9223372036854775807) ∧
      ((0 ≤ (18 : Int) ∧ (18 : Int) ≤ 64 ∧ 0 ≤ (wu64 u0.ID) ∧ (wu64 u0.ID) < 2 ^ 62) ∧
      (((((bwriteS (wu64 (bShr .i64 u0.ID 18)) 11) ++ ([49, 49] : List UInt8)).length : Int) + ((bwriteS (wu64 u0.ID) 18).length : Int) ≤ 9223372036854775807) ∧
      ((((((bwriteS (wu64 (bShr .i64 u0.ID 18)) 11) ++ ([49, 49] : List UInt8)) ++ (bwriteS (wu64 u0.ID) 18)).length : Int) + ((fbit u0.Remote).length : Int) ≤ 9223372036854775807) ∧
      (K ((((bwriteS (wu64 (bShr .i64 u0.ID 18)) 11) ++ ([49, 49] : List UInt8)) ++ (bwriteS (wu64 u0.ID) 18)) ++ (fbit u0.Remote)))))))))))

def fcheckfr_vc (u0 : Frame) (K : Int → Prop) : Prop :=
  (u0.Data.length ≤ 140737488355328 →
    (((((decide (u0.ID < 0)) || ((!u0.Long) && (decide (u0.ID > 2047)))) || (decide (u0.ID > 536870911))) = true →
      (K 3)) ∧
    ((((decide (u0.ID < 0)) || ((!u0.Long) && (decide (u0.ID > 2047)))) || (decide (u0.ID > 536870911))) = false →
      (((u0.Remote && (u0.Fast || (decide ((u0.Data.length : Int) > 0)))) = true →
        (K 4)) ∧
      ((u0.Remote && (u0.Fast || (decide ((u0.Data.length : Int) > 0)))) = false →
        (((((decide (u0.Size < 0)) || (decide (u0.Size > 8))) || ((!u0.Remote) && (u0.Size != 0))) = true →
          (K 3)) ∧
        ((((decide (u0.Size < 0)) || (decide (u0.Size > 8))) || ((!u0.Remote) && (u0.Size != 0))) = false →
          ((((decide ((u0.Data.length : Int) > 64)) || ((!u0.Fast) && (decide ((u0.Data.length : Int) > 8)))) = true →
            (K 2)) ∧
          (((decide ((u0.Data.length : Int) > 64)) || ((!u0.Fast) && (decide ((u0.Data.length : Int) > 8)))) = false →
            (((!(scontainsS fsizes (u0.Data.length : Int))) = true →
              (K 4)) ∧
            ((!(scontainsS fsizes (u0.Data.length : Int))) = false →
              (K 0))))))))))))
def fcheckfr (u0 : Frame) : Int :=
  bif ((decide (u0.ID < 0)) || ((!u0.Long) && (decide (u0.ID > 2047)))) || (decide (u0.ID > 536870911)) then 3
    else bif u0.Remote && (u0.Fast || (decide ((u0.Data.length : Int) > 0))) then 4
    else bif ((decide (u0.Size < 0)) || (decide (u0.Size > 8))) || ((!u0.Remote) && (u0.Size != 0)) then 3
    else bif (decide ((u0.Data.length : Int) > 64)) || ((!u0.Fast) && (decide ((u0.Data.length : Int) > 8))) then 2
    else bif !(scontainsS fsizes (u0.Data.length : Int)) then 4
    else 0
theorem fcheckfr_ok (u0 : Frame) : fcheckfr_vc u0 (fun r => r = fcheckfr u0) := (fun _ => ⟨fun h0 => (by simp only [fcheckfr, h0, cond_true, cond_false]), fun h0 => ⟨fun h1 => (by simp only [fcheckfr, h0, h1, cond_true, cond_false]), fun h1 => ⟨fun h2 => (by simp only [fcheckfr, h0, h1, h2, cond_true, cond_false]), fun h2 => ⟨fun h3 => (by simp only [fcheckfr, h0, h1, h2, h3, cond_true, cond_false]), fun h3 => ⟨fun h4 => (by simp only [fcheckfr, h0, h1, h2, h3, h4, cond_true, cond_false]), fun h4 => (by simp only [fcheckfr, h0, h1, h2, h3, h4, cond_true, cond_false])⟩⟩⟩⟩⟩)

def fcount_vc (u0 : Int) (K : (List UInt8) → Prop) : Prop :=
  ((0 ≤ (3 : Int) ∧ (3 : Int) ≤ 64 ∧ 0 ≤ (wu64 (bXor .i64 (u0.tmod 8) (bShr .i64 (u0.tmod 8) 1))) ∧ (wu64 (bXor .i64 (u0.tmod 8) (bShr .i64 (u0.tmod 8) 1))) < 2 ^ 62) ∧
    ((([49] : List UInt8).length = 1) ∧
    ((((bwriteS (wu64 (bXor .i64 (u0.tmod 8) (bShr .i64 (u0.tmod 8) 1))) 3).length : Int) + ((fbit (((count1S (bwriteS (wu64 (bXor .i64 (u0.tmod 8) (bShr .i64 (u0.tmod 8) 1))) 3) ([49] : List UInt8)).tmod 2) == 1)).length : Int) ≤ 9223372036854775807) ∧
    (K ((bwriteS (wu64 (bXor .i64 (u0.tmod 8) (bShr .i64 (u0.tmod 8) 1))) 3) ++ (fbit (((count1S (bwriteS (wu64 (bXor .i64 (u0.tmod 8) (bShr .i64 (u0.tmod 8) 1))) 3) ([49] : List UInt8)).tmod 2) == 1)))))))

end Go.Proofs.YtmbdcehmeiiaoaaDoor
