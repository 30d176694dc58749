/- What must hold so that each function ends well: pure predicates, made by program. -/
import Derived.Test.YtfafpnacflcgmaaDoorPZ
set_option linter.unusedVariables false
set_option linter.unusedSimpArgs false
namespace Go.Proofs.YtfafpnacflcgmaaDoor
open Go.Sy Go.RowKit
def bread_vc (u0 : List UInt8) (K : Int → Prop) : Prop :=
  (∃ inv15 : Int → Int → Prop, ∃ mu15 : Int → Int → Nat, inv15 0 0 ∧
    (∀ (x3 : Int) (x7 : Int), inv15 x3 x7 →
    (((decide (x7 < (u0.length : Int))) = true →
      ((0 ≤ x7 ∧ x7 < (u0.length : Int)) ∧
      (∀ c49, u0[x7.toNat]? = some c49 →
      (inv15 (bOr .u64 (bShl .u64 x3 1) (wu64 (w8 ((c49.toNat : Int) - 48)))) (w64 (x7 + 1)) ∧ mu15 (bOr .u64 (bShl .u64 x3 1) (wu64 (w8 ((c49.toNat : Int) - 48)))) (w64 (x7 + 1)) < mu15 x3 x7)))) ∧
    ((decide (x7 < (u0.length : Int))) = false →
      (K x3)))))
theorem bread_mono {u0 : List UInt8} {K K1 : Int → Prop} (hK : ∀ r, K r → K1 r) (h : bread_vc u0 K) : bread_vc u0 K1 :=
  (Exists.elim h fun i0 e0 => Exists.elim e0 fun m0 g0 => ⟨i0, m0, g0.1, fun x3 x7 z0 => ⟨fun c1 => ⟨((g0.2 x3 x7 z0).1 c1).1, fun c49 z3 => ((((g0.2 x3 x7 z0).1 c1).2) c49 z3)⟩, fun c1 => hK _ ((g0.2 x3 x7 z0).2 c1)⟩⟩)

def bwrite_vc (u0 : Int) (u1 : Int) (K : (List UInt8) → Prop) : Prop :=
  ((0 ≤ u1 ∧ u1 ≤ u1 ∧ u1 * 1 ≤ 140737488355328) ∧
    (∃ inv23 : Int → Int → (List Int) → Prop, ∃ mu23 : Int → Int → (List Int) → Nat, inv23 u0 0 (List.replicate u1.toNat (0 : Int)) ∧
    (∀ (x0 : Int) (x10 : Int) (zg90 : List Int), inv23 x0 x10 zg90 →
    (((decide (x10 < u1)) = true →
      ((0 ≤ w64 ((w64 (u1 - 1)) - x10) ∧ w64 ((w64 (u1 - 1)) - x10) < (zg90.length : Int)) ∧
      (inv23 (bShr .u64 x0 1) (w64 (x10 + 1)) (zg90.set (w64 ((w64 (u1 - 1)) - x10)).toNat (w8 (48 + (w8 (bAnd .u64 x0 1))))) ∧ mu23 (bShr .u64 x0 1) (w64 (x10 + 1)) (zg90.set (w64 ((w64 (u1 - 1)) - x10)).toNat (w8 (48 + (w8 (bAnd .u64 x0 1))))) < mu23 x0 x10 zg90))) ∧
    ((decide (x10 < u1)) = false →
      (K (bstr zg90)))))))
theorem bwrite_mono {u0 : Int} {u1 : Int} {K K1 : (List UInt8) → Prop} (hK : ∀ r, K r → K1 r) (h : bwrite_vc u0 u1 K) : bwrite_vc u0 u1 K1 :=
  ⟨h.1, (Exists.elim h.2 fun i1 e1 => Exists.elim e1 fun m1 g1 => ⟨i1, m1, g1.1, fun x0 x10 zg90 z1 => ⟨fun c2 => ⟨((g1.2 x0 x10 zg90 z1).1 c2).1, ((g1.2 x0 x10 zg90 z1).1 c2).2⟩, fun c2 => hK _ ((g1.2 x0 x10 zg90 z1).2 c2)⟩⟩)⟩

def rother_vc (u0 : Int) (K : Int → Prop) : Prop :=
  (((u0 == 48) = true →
      (K 49)) ∧
    ((u0 == 48) = false →
      (K 48)))
theorem rother_mono {u0 : Int} {K K1 : Int → Prop} (hK : ∀ r, K r → K1 r) (h : rother_vc u0 K) : rother_vc u0 K1 :=
  ⟨fun c0 => hK _ (h.1 c0), fun c0 => hK _ (h.2 c0)⟩
def rother (u0 : Int) : Int :=
  bif u0 == 48 then 49
    else 48
theorem rother_ok (u0 : Int) : rother_vc u0 (fun r => r = rother u0) := ⟨fun h0 => (by simp only [rother, h0, cond_true, cond_false]), fun h0 => (by simp only [rother, h0, cond_true, cond_false])⟩

def smost_vc (u0 : Int) (K : (Int × Int) → Prop) : Prop :=
  ((((decide (u0 < 0)) || (decide (u0 > 1000))) = true →
      (K (0, 3))) ∧
    (((decide (u0 < 0)) || (decide (u0 > 1000))) = false →
      (((u0 == 0) = true →
        (K (0, 0))) ∧
      ((u0 == 0) = false →
        (K (w64 (u0 + (w64 ((w64 (u0 - 1)).tdiv 4))), 0))))))
theorem smost_mono {u0 : Int} {K K1 : (Int × Int) → Prop} (hK : ∀ r, K r → K1 r) (h : smost_vc u0 K) : smost_vc u0 K1 :=
  ⟨fun c0 => hK _ (h.1 c0), fun c0 => ⟨fun c1 => hK _ ((h.2 c0).1 c1), fun c1 => hK _ ((h.2 c0).2 c1)⟩⟩
def smost (u0 : Int) : Int × Int :=
  bif (decide (u0 < 0)) || (decide (u0 > 1000)) then (0, 3)
    else bif u0 == 0 then (0, 0)
    else (w64 (u0 + (w64 ((w64 (u0 - 1)).tdiv 4))), 0)
theorem smost_ok (u0 : Int) : smost_vc u0 (fun r => r = smost u0) := ⟨fun h0 => (by simp only [smost, h0, cond_true, cond_false]), fun h0 => ⟨fun h1 => (by simp only [smost, h0, h1, cond_true, cond_false]), fun h1 => (by simp only [smost, h0, h1, cond_true, cond_false])⟩⟩

def hasprefix0_vc (u0 : List UInt8) (u1 : List UInt8) (K : Bool → Prop) : Prop :=
  (((decide ((u0.length : Int) ≥ (u1.length : Int))) = true →
      ((0 ≤ (u1.length : Int) ∧ (u1.length : Int) ≤ (u0.length : Int)) ∧
      (K ((u0.take (u1.length : Int).toNat) == u1)))) ∧
    ((decide ((u0.length : Int) ≥ (u1.length : Int))) = false →
      (K false)))
theorem hasprefix0_mono {u0 : List UInt8} {u1 : List UInt8} {K K1 : Bool → Prop} (hK : ∀ r, K r → K1 r) (h : hasprefix0_vc u0 u1 K) : hasprefix0_vc u0 u1 K1 :=
  ⟨fun c0 => ⟨(h.1 c0).1, hK _ ((h.1 c0).2)⟩, fun c0 => hK _ (h.2 c0)⟩
def hasprefix0 (u0 : List UInt8) (u1 : List UInt8) : Bool :=
  bif decide ((u0.length : Int) ≥ (u1.length : Int)) then ((u0.take (u1.length : Int).toNat) == u1)
    else false
theorem hasprefix0_ok (u0 : List UInt8) (u1 : List UInt8) : hasprefix0_vc u0 u1 (fun r => r = hasprefix0 u0 u1) := ⟨fun h0 => ⟨(by (try simp at h0); omega), (by simp only [hasprefix0, h0, cond_true, cond_false])⟩, fun h0 => (by simp only [hasprefix0, h0, cond_true, cond_false])⟩

def hasprefix_vc (u0 : List UInt8) (u1 : List UInt8) (K : Bool → Prop) : Prop :=
  (K (hasprefix0 u0 u1))
theorem hasprefix_mono {u0 : List UInt8} {u1 : List UInt8} {K K1 : Bool → Prop} (hK : ∀ r, K r → K1 r) (h : hasprefix_vc u0 u1 K) : hasprefix_vc u0 u1 K1 :=
  hK _ h
def hasprefix (u0 : List UInt8) (u1 : List UInt8) : Bool :=
  (hasprefix0 u0 u1)
theorem hasprefix_ok (u0 : List UInt8) (u1 : List UInt8) : hasprefix_vc u0 u1 (fun r => r = hasprefix u0 u1) := (by rfl)

def bcheck_vc (u0 : List UInt8) (K : Int → Prop) : Prop :=
  (((decide ((u0.length : Int) > 1000)) = true →
      (K 2)) ∧
    ((decide ((u0.length : Int) > 1000)) = false →
      ((u0.length ≤ 9223372036854775807 ∧ ([48, 49] : List UInt8).length < 4294967281 ∧ ([48, 49] : List UInt8).all (fun b => decide (b.toNat < 128)) = true) ∧
      ((((trimS u0 ([48, 49] : List UInt8)) != []) = true →
        (K 4)) ∧
      (((trimS u0 ([48, 49] : List UInt8)) != []) = false →
        (K 0))))))
theorem bcheck_mono {u0 : List UInt8} {K K1 : Int → Prop} (hK : ∀ r, K r → K1 r) (h : bcheck_vc u0 K) : bcheck_vc u0 K1 :=
  ⟨fun c0 => hK _ (h.1 c0), fun c0 => ⟨(h.2 c0).1, ⟨fun c2 => hK _ (((h.2 c0).2).1 c2), fun c2 => hK _ (((h.2 c0).2).2 c2)⟩⟩⟩

def rcheckrow_vc (u0 : List UInt8) (K : Int → Prop) : Prop :=
  (((decide ((u0.length : Int) > 1000)) = true →
      (K 2)) ∧
    ((decide ((u0.length : Int) > 1000)) = false →
      ((([48] : List UInt8).length = 1) ∧
      ((([49] : List UInt8).length = 1) ∧
      ((((w64 ((count1S u0 ([48] : List UInt8)) + (count1S u0 ([49] : List UInt8)))) != (u0.length : Int)) = true →
        (K 4)) ∧
      (((w64 ((count1S u0 ([48] : List UInt8)) + (count1S u0 ([49] : List UInt8)))) != (u0.length : Int)) = false →
        (K 0)))))))
theorem rcheckrow_mono {u0 : List UInt8} {K K1 : Int → Prop} (hK : ∀ r, K r → K1 r) (h : rcheckrow_vc u0 K) : rcheckrow_vc u0 K1 :=
  ⟨fun c0 => hK _ (h.1 c0), fun c0 => ⟨(h.2 c0).1, ⟨((h.2 c0).2).1, ⟨fun c3 => hK _ ((((h.2 c0).2).2).1 c3), fun c3 => hK _ ((((h.2 c0).2).2).2 c3)⟩⟩⟩⟩

def rsame_vc (u0 : List UInt8) (K : Bool → Prop) : Prop :=
  ((0 ≤ (1 : Int) ∧ (1 : Int) ≤ (u0.length : Int)) ∧
    (((u0.take (1 : Int).toNat).length = 1) ∧
    (K ((count1S u0 (u0.take (1 : Int).toNat)) == (u0.length : Int)))))
theorem rsame_mono {u0 : List UInt8} {K K1 : Bool → Prop} (hK : ∀ r, K r → K1 r) (h : rsame_vc u0 K) : rsame_vc u0 K1 :=
  ⟨h.1, ⟨h.2.1, hK _ h.2.2⟩⟩

def cnext_vc (u0 : Counter) (u1 : Int) (K : (Int × Bool × Counter) → Prop) : Prop :=
  (((u1 == u0.last) = true →
      (K (w8 (97 - u1), (w64 (u0.n + 1)) == 5, (⟨u0.last, w64 (u0.n + 1)⟩ : Counter)))) ∧
    ((u1 == u0.last) = false →
      (K (w8 (97 - u1), false, (⟨u1, 1⟩ : Counter)))))
theorem cnext_mono {u0 : Counter} {u1 : Int} {K K1 : (Int × Bool × Counter) → Prop} (hK : ∀ r, K r → K1 r) (h : cnext_vc u0 u1 K) : cnext_vc u0 u1 K1 :=
  ⟨fun c0 => hK _ (h.1 c0), fun c0 => hK _ (h.2 c0)⟩

def cnextR_vc (u0 : Reader) (u1 : Int) (K : (Int × Bool × Reader) → Prop) : Prop :=
  (((u1 == u0.c.last) = true →
      (K (w8 (97 - u1), (w64 (u0.c.n + 1)) == 5, (⟨u0.Row, u0.At, u0.Code, (⟨u0.c.last, w64 (u0.c.n + 1)⟩ : Counter)⟩ : Reader)))) ∧
    ((u1 == u0.c.last) = false →
      (K (w8 (97 - u1), false, (⟨u0.Row, u0.At, u0.Code, (⟨u1, 1⟩ : Counter)⟩ : Reader)))))
theorem cnextR_mono {u0 : Reader} {u1 : Int} {K K1 : (Int × Bool × Reader) → Prop} (hK : ∀ r, K r → K1 r) (h : cnextR_vc u0 u1 K) : cnextR_vc u0 u1 K1 :=
  ⟨fun c0 => hK _ (h.1 c0), fun c0 => hK _ (h.2 c0)⟩

def rbit_vc (u0 : Reader) (K : (Int × Reader) → Prop) : Prop :=
  (((u0.Code != 0) = true →
      (K (48, u0))) ∧
    ((u0.Code != 0) = false →
      (((u0.At == (u0.Row.length : Int)) = true →
        (K (48, (⟨u0.Row, u0.At, 7, u0.c⟩ : Reader)))) ∧
      ((u0.At == (u0.Row.length : Int)) = false →
        ((0 ≤ w64 ((w64 (u0.At + 1)) - 1) ∧ w64 ((w64 (u0.At + 1)) - 1) < (u0.Row.length : Int)) ∧
        (∀ c122, u0.Row[(w64 ((w64 (u0.At + 1)) - 1)).toNat]? = some c122 →
        (K ((c122.toNat : Int), (⟨u0.Row, w64 (u0.At + 1), u0.Code, u0.c⟩ : Reader)))))))))
theorem rbit_mono {u0 : Reader} {K K1 : (Int × Reader) → Prop} (hK : ∀ r, K r → K1 r) (h : rbit_vc u0 K) : rbit_vc u0 K1 :=
  ⟨fun c0 => hK _ (h.1 c0), fun c0 => ⟨fun c1 => hK _ ((h.2 c0).1 c1), fun c1 => ⟨((h.2 c0).2 c1).1, fun c122 z3 => hK _ ((((h.2 c0).2 c1).2) c122 z3)⟩⟩⟩

def fixbits_vc (u0 : List UInt8) (u1 : Int) (K : (List UInt8) → Prop) : Prop :=
  (∃ inv11 : Int → (List UInt8) → Int → Prop, ∃ mu11 : Int → (List UInt8) → Int → Nat, inv11 u1 [] 0 ∧
    (∀ (x1 : Int) (x5 : List UInt8) (x6 : Int), inv11 x1 x5 x6 →
    (((decide (x6 < (u0.length : Int))) = true →
      ((0 ≤ x6 ∧ x6 ≤ (min (w64 (x6 + 4)) (u0.length : Int)) ∧ (min (w64 (x6 + 4)) (u0.length : Int)) ≤ (u0.length : Int)) ∧
      ((((bstr ([(rother x1)] : List Int)).length : Int) + (((u0.take (min (w64 (x6 + 4)) (u0.length : Int)).toNat).drop x6.toNat).length : Int) ≤ 9223372036854775807) ∧
      (((x5.length : Int) + (((bstr ([(rother x1)] : List Int)) ++ ((u0.take (min (w64 (x6 + 4)) (u0.length : Int)).toNat).drop x6.toNat)).length : Int) ≤ 9223372036854775807) ∧
      ((0 ≤ w64 (((x5 ++ ((bstr ([(rother x1)] : List Int)) ++ ((u0.take (min (w64 (x6 + 4)) (u0.length : Int)).toNat).drop x6.toNat))).length : Int) - 1) ∧ w64 (((x5 ++ ((bstr ([(rother x1)] : List Int)) ++ ((u0.take (min (w64 (x6 + 4)) (u0.length : Int)).toNat).drop x6.toNat))).length : Int) - 1) < ((x5 ++ ((bstr ([(rother x1)] : List Int)) ++ ((u0.take (min (w64 (x6 + 4)) (u0.length : Int)).toNat).drop x6.toNat))).length : Int)) ∧
      (∀ c207, (x5 ++ ((bstr ([(rother x1)] : List Int)) ++ ((u0.take (min (w64 (x6 + 4)) (u0.length : Int)).toNat).drop x6.toNat)))[(w64 (((x5 ++ ((bstr ([(rother x1)] : List Int)) ++ ((u0.take (min (w64 (x6 + 4)) (u0.length : Int)).toNat).drop x6.toNat))).length : Int) - 1)).toNat]? = some c207 →
      (inv11 (c207.toNat : Int) (x5 ++ ((bstr ([(rother x1)] : List Int)) ++ ((u0.take (min (w64 (x6 + 4)) (u0.length : Int)).toNat).drop x6.toNat))) (w64 (x6 + 4)) ∧ mu11 (c207.toNat : Int) (x5 ++ ((bstr ([(rother x1)] : List Int)) ++ ((u0.take (min (w64 (x6 + 4)) (u0.length : Int)).toNat).drop x6.toNat))) (w64 (x6 + 4)) < mu11 x1 x5 x6))))))) ∧
    ((decide (x6 < (u0.length : Int))) = false →
      (K x5)))))
theorem fixbits_mono {u0 : List UInt8} {u1 : Int} {K K1 : (List UInt8) → Prop} (hK : ∀ r, K r → K1 r) (h : fixbits_vc u0 u1 K) : fixbits_vc u0 u1 K1 :=
  (Exists.elim h fun i0 e0 => Exists.elim e0 fun m0 g0 => ⟨i0, m0, g0.1, fun x1 x5 x6 z0 => ⟨fun c1 => ⟨((g0.2 x1 x5 x6 z0).1 c1).1, ⟨(((g0.2 x1 x5 x6 z0).1 c1).2).1, ⟨((((g0.2 x1 x5 x6 z0).1 c1).2).2).1, ⟨(((((g0.2 x1 x5 x6 z0).1 c1).2).2).2).1, fun c207 z6 => (((((((g0.2 x1 x5 x6 z0).1 c1).2).2).2).2) c207 z6)⟩⟩⟩⟩, fun c1 => hK _ ((g0.2 x1 x5 x6 z0).2 c1)⟩⟩)

end Go.Proofs.YtfafpnacflcgmaaDoor
