/- What must hold so that each function ends well: pure predicates, made by program. -/
import Derived.Test.YtmbdcehmeiiaoaaDoorPZ
set_option linter.unusedVariables false
set_option linter.unusedSimpArgs false
namespace Go.Proofs.YtmbdcehmeiiaoaaDoor
open Go.Sy Go.RowKit
def bread_vc (u0 : List UInt8) (K : Int → Prop) : Prop :=
  (∃ inv15 : Int → Int → Prop, ∃ mu15 : Int → Int → Nat, inv15 0 0 ∧
    (∀ (x3 : Int) (x7 : Int), inv15 x3 x7 →
    (((decide (x7 < (u0.length : Int))) = true →
      ((0 ≤ x7 ∧ x7 < (u0.length : Int)) ∧
      (∀ c49, u0[x7.toNat]? = some c49 →
      (inv15 (bOr .u64 (bShl .u64 x3 1) (wu64 (w8 ((c49.toNat : Int) - 48)))) (w64 (x7 + 1)) ∧ mu15 (bOr .u64 (bShl .u64 x3 1) (wu64 (w8 ((c49.toNat : Int) - 48)))) (w64 (x7 + 1)) < mu15 x3 x7)))) ∧
    ((decide (x7 < (u0.length : Int))) = false →
      (K x3)))))

def bwrite_vc (u0 : Int) (u1 : Int) (K : (List UInt8) → Prop) : Prop :=
  ((0 ≤ u1 ∧ u1 ≤ u1 ∧ u1 * 1 ≤ 140737488355328) ∧
    (∃ inv23 : Int → Int → (List Int) → Prop, ∃ mu23 : Int → Int → (List Int) → Nat, inv23 u0 0 (List.replicate u1.toNat (0 : Int)) ∧
    (∀ (x0 : Int) (x10 : Int) (zg90 : List Int), inv23 x0 x10 zg90 →
    (((decide (x10 < u1)) = true →
      ((0 ≤ w64 ((w64 (u1 - 1)) - x10) ∧ w64 ((w64 (u1 - 1)) - x10) < (zg90.length : Int)) ∧
      (inv23 (bShr .u64 x0 1) (w64 (x10 + 1)) (zg90.set (w64 ((w64 (u1 - 1)) - x10)).toNat (w8 (48 + (w8 (bAnd .u64 x0 1))))) ∧ mu23 (bShr .u64 x0 1) (w64 (x10 + 1)) (zg90.set (w64 ((w64 (u1 - 1)) - x10)).toNat (w8 (48 + (w8 (bAnd .u64 x0 1))))) < mu23 x0 x10 zg90))) ∧
    ((decide (x10 < u1)) = false →
      (K (bstr zg90)))))))

def bcheck_vc (u0 : List UInt8) (K : Int → Prop) : Prop :=
  (((decide ((u0.length : Int) > 1000)) = true →
      (K 2)) ∧
    ((decide ((u0.length : Int) > 1000)) = false →
      ((u0.length ≤ 9223372036854775807 ∧ ([48, 49] : List UInt8).length < 4294967281 ∧ ([48, 49] : List UInt8).all (fun b => decide (b.toNat < 128)) = true) ∧
      ((((trimS u0 ([48, 49] : List UInt8)) != []) = true →
        (K 4)) ∧
      (((trimS u0 ([48, 49] : List UInt8)) != []) = false →
        (K 0))))))

def smost_vc (u0 : Int) (K : (Int × Int) → Prop) : Prop :=
  ((((decide (u0 < 0)) || (decide (u0 > 1000))) = true →
      (K (0, 3))) ∧
    (((decide (u0 < 0)) || (decide (u0 > 1000))) = false →
      (((u0 == 0) = true →
        (K (0, 0))) ∧
      ((u0 == 0) = false →
        (K (w64 (u0 + (w64 ((w64 (u0 - 1)).tdiv 4))), 0))))))
def smost (u0 : Int) : Int × Int :=
  bif (decide (u0 < 0)) || (decide (u0 > 1000)) then (0, 3)
    else bif u0 == 0 then (0, 0)
    else (w64 (u0 + (w64 ((w64 (u0 - 1)).tdiv 4))), 0)
theorem smost_ok (u0 : Int) : smost_vc u0 (fun r => r = smost u0) := ⟨fun h0 => (by simp only [smost, h0, cond_true, cond_false]), fun h0 => ⟨fun h1 => (by simp only [smost, h0, h1, cond_true, cond_false]), fun h1 => (by simp only [smost, h0, h1, cond_true, cond_false])⟩⟩

def ckinds_vc  (K : (Kind × Kind × Kind × Kind × Kind) → Prop) : Prop :=
  (K ((⟨15, 17817, 0, 0⟩ : Kind), (⟨17, 92251, 65536, 0⟩ : Kind), (⟨21, 1058969, 1048576, 0⟩ : Kind), (⟨8, 47, 255, 255⟩ : Kind), (⟨16, 4129, 65535, 0⟩ : Kind)))
def ckinds  : (Kind × Kind × Kind × Kind × Kind) :=
  ((⟨15, 17817, 0, 0⟩ : Kind), (⟨17, 92251, 65536, 0⟩ : Kind), (⟨21, 1058969, 1048576, 0⟩ : Kind), (⟨8, 47, 255, 255⟩ : Kind), (⟨16, 4129, 65535, 0⟩ : Kind))
theorem ckinds_ok  : ckinds_vc  (fun r => r = ckinds ) := (by rfl)

def csize_vc (u0 : Int) (K : (Int × Int) → Prop) : Prop :=
  ((((decide (u0 < 0)) || (decide (u0 ≥ 5))) = true →
      (K (0, 8))) ∧
    (((decide (u0 < 0)) || (decide (u0 ≥ 5))) = false →
      ((0 ≤ u0 ∧ u0 < 5) ∧
      (K (([ckinds.1.Size, ckinds.2.1.Size, ckinds.2.2.1.Size, ckinds.2.2.2.1.Size, ckinds.2.2.2.2.Size] : List Int).getD u0.toNat 0, 0)))))
def csize (u0 : Int) : Int × Int :=
  bif (decide (u0 < 0)) || (decide (u0 ≥ 5)) then (0, 8)
    else (([ckinds.1.Size, ckinds.2.1.Size, ckinds.2.2.1.Size, ckinds.2.2.2.1.Size, ckinds.2.2.2.2.Size] : List Int).getD u0.toNat 0, 0)
theorem csize_ok (u0 : Int) : csize_vc u0 (fun r => r = csize u0) := ⟨fun h0 => (by simp only [csize, h0, cond_true, cond_false]), fun h0 => ⟨(by (try simp at h0); omega), (by simp only [csize, h0, cond_true, cond_false])⟩⟩

def ksum_vc (u0 : Kind) (u1 : List UInt8) (K : Int → Prop) : Prop :=
  ((0 ≤ w64 (u0.Size - 1)) ∧
    (∃ inv37 : Int → Int → Prop, ∃ mu37 : Int → Int → Nat, inv37 u0.From 0 ∧
    (∀ (x5 : Int) (x17 : Int), inv37 x5 x17 →
    (((decide (x17 < (u1.length : Int))) = true →
      ((0 ≤ x17 ∧ x17 < (u1.length : Int)) ∧
      (∀ c75, u1[x17.toNat]? = some c75 →
      (((((bAnd .u64 x5 (bShl .u64 1 (w64 (u0.Size - 1)))) != 0) != ((c75.toNat : Int) == 49)) = true →
        (inv37 (bXor .u64 (bAnd .u64 (bShl .u64 x5 1) (wu64 ((bShl .u64 (bShl .u64 1 (w64 (u0.Size - 1))) 1) - 1))) u0.Poly) (w64 (x17 + 1)) ∧ mu37 (bXor .u64 (bAnd .u64 (bShl .u64 x5 1) (wu64 ((bShl .u64 (bShl .u64 1 (w64 (u0.Size - 1))) 1) - 1))) u0.Poly) (w64 (x17 + 1)) < mu37 x5 x17)) ∧
      ((((bAnd .u64 x5 (bShl .u64 1 (w64 (u0.Size - 1)))) != 0) != ((c75.toNat : Int) == 49)) = false →
        (inv37 (bAnd .u64 (bShl .u64 x5 1) (wu64 ((bShl .u64 (bShl .u64 1 (w64 (u0.Size - 1))) 1) - 1))) (w64 (x17 + 1)) ∧ mu37 (bAnd .u64 (bShl .u64 x5 1) (wu64 ((bShl .u64 (bShl .u64 1 (w64 (u0.Size - 1))) 1) - 1))) (w64 (x17 + 1)) < mu37 x5 x17)))))) ∧
    ((decide (x17 < (u1.length : Int))) = false →
      (K (bXor .u64 x5 u0.End)))))))

def cnext_vc (u0 : Counter) (u1 : Int) (K : (Int × Bool × Counter) → Prop) : Prop :=
  (((u1 == u0.last) = true →
      (K (w8 (97 - u1), (w64 (u0.n + 1)) == 5, (⟨u0.last, w64 (u0.n + 1)⟩ : Counter)))) ∧
    ((u1 == u0.last) = false →
      (K (w8 (97 - u1), false, (⟨u1, 1⟩ : Counter)))))

def cnextR_vc (u0 : Reader) (u1 : Int) (K : (Int × Bool × Reader) → Prop) : Prop :=
  (((u1 == u0.c.last) = true →
      (K (w8 (97 - u1), (w64 (u0.c.n + 1)) == 5, (⟨u0.Row, u0.At, u0.Code, (⟨u0.c.last, w64 (u0.c.n + 1)⟩ : Counter)⟩ : Reader)))) ∧
    ((u1 == u0.c.last) = false →
      (K (w8 (97 - u1), false, (⟨u0.Row, u0.At, u0.Code, (⟨u1, 1⟩ : Counter)⟩ : Reader)))))
theorem cnextR_mono {u0 : Reader} {u1 : Int} {K K1 : (Int × Bool × Reader) → Prop} (hK : ∀ r, K r → K1 r) (h : cnextR_vc u0 u1 K) : cnextR_vc u0 u1 K1 :=
  ⟨fun c0 => hK _ (h.1 c0), fun c0 => hK _ (h.2 c0)⟩

def rbit_vc (u0 : Reader) (K : (Int × Reader) → Prop) : Prop :=
  (((u0.Code != 0) = true →
      (K (48, u0))) ∧
    ((u0.Code != 0) = false →
      (((u0.At == (u0.Row.length : Int)) = true →
        (K (48, (⟨u0.Row, u0.At, 7, u0.c⟩ : Reader)))) ∧
      ((u0.At == (u0.Row.length : Int)) = false →
        ((0 ≤ w64 ((w64 (u0.At + 1)) - 1) ∧ w64 ((w64 (u0.At + 1)) - 1) < (u0.Row.length : Int)) ∧
        (∀ c122, u0.Row[(w64 ((w64 (u0.At + 1)) - 1)).toNat]? = some c122 →
        (K ((c122.toNat : Int), (⟨u0.Row, w64 (u0.At + 1), u0.Code, u0.c⟩ : Reader)))))))))
theorem rbit_mono {u0 : Reader} {K K1 : (Int × Reader) → Prop} (hK : ∀ r, K r → K1 r) (h : rbit_vc u0 K) : rbit_vc u0 K1 :=
  ⟨fun c0 => hK _ (h.1 c0), fun c0 => ⟨fun c1 => hK _ ((h.2 c0).1 c1), fun c1 => ⟨((h.2 c0).2 c1).1, fun y3 z3 => hK _ ((((h.2 c0).2 c1).2) y3 z3)⟩⟩⟩

def cnextF_vc (u0 : FReader) (u1 : Int) (K : (Int × Bool × FReader) → Prop) : Prop :=
  (u0.f.Data.length ≤ 140737488355328 →
    (((u1 == u0.Reader.c.last) = true →
      (K (w8 (97 - u1), (w64 (u0.Reader.c.n + 1)) == 5, (⟨(⟨u0.Reader.Row, u0.Reader.At, u0.Reader.Code, (⟨u0.Reader.c.last, w64 (u0.Reader.c.n + 1)⟩ : Counter)⟩ : Reader), u0.f⟩ : FReader)))) ∧
    ((u1 == u0.Reader.c.last) = false →
      (K (w8 (97 - u1), false, (⟨(⟨u0.Reader.Row, u0.Reader.At, u0.Reader.Code, (⟨u1, 1⟩ : Counter)⟩ : Reader), u0.f⟩ : FReader))))))
theorem cnextF_lift (u0 : FReader) (u1 : Int) {K : (Int × Bool × FReader) → Prop} (h : cnextR_vc u0.Reader u1 fun r => K (r.1, r.2.1, (⟨r.2.2, u0.f⟩ : FReader))) : cnextF_vc u0 u1 K :=
  fun z0 => ⟨fun c1 => (h.1 c1), fun c1 => (h.2 c1)⟩

def rbitF_vc (u0 : FReader) (K : (Int × FReader) → Prop) : Prop :=
  (u0.f.Data.length ≤ 140737488355328 →
    (((u0.Reader.Code != 0) = true →
      (K (48, u0))) ∧
    ((u0.Reader.Code != 0) = false →
      (((u0.Reader.At == (u0.Reader.Row.length : Int)) = true →
        (K (48, (⟨(⟨u0.Reader.Row, u0.Reader.At, 7, u0.Reader.c⟩ : Reader), u0.f⟩ : FReader)))) ∧
      ((u0.Reader.At == (u0.Reader.Row.length : Int)) = false →
        ((0 ≤ w64 ((w64 (u0.Reader.At + 1)) - 1) ∧ w64 ((w64 (u0.Reader.At + 1)) - 1) < (u0.Reader.Row.length : Int)) ∧
        (∀ c126, u0.Reader.Row[(w64 ((w64 (u0.Reader.At + 1)) - 1)).toNat]? = some c126 →
        (K ((c126.toNat : Int), (⟨(⟨u0.Reader.Row, w64 (u0.Reader.At + 1), u0.Reader.Code, u0.Reader.c⟩ : Reader), u0.f⟩ : FReader))))))))))
theorem rbitF_lift (u0 : FReader) {K : (Int × FReader) → Prop} (h : rbit_vc u0.Reader fun r => K (r.1, (⟨r.2, u0.f⟩ : FReader))) : rbitF_vc u0 K :=
  fun z0 => ⟨fun c1 => (h.1 c1), fun c1 => ⟨fun c2 => ((h.2 c1).1 c2), fun c2 => ⟨((h.2 c1).2 c2).1, fun y4 z4 => ((((h.2 c1).2 c2).2) y4 z4)⟩⟩⟩

def fsizes_vc  (K : (List Int) → Prop) : Prop :=
  (K ([0, 1, 2, 3, 4, 5, 6, 7, 8, 12, 16, 20, 24, 32, 48, 64] : List Int))
def fsizes  : (List Int) :=
  ([0, 1, 2, 3, 4, 5, 6, 7, 8, 12, 16, 20, 24, 32, 48, 64] : List Int)
theorem fsizes_ok  : fsizes_vc  (fun r => r = fsizes ) := (by rfl)

def fbit_vc (u0 : Bool) (K : (List UInt8) → Prop) : Prop :=
  ((u0 = true →
      (K ([49] : List UInt8))) ∧
    (u0 = false →
      (K ([48] : List UInt8))))
def fbit (u0 : Bool) : (List UInt8) :=
  bif u0 then ([49] : List UInt8)
    else ([48] : List UInt8)
theorem fbit_ok (u0 : Bool) : fbit_vc u0 (fun r => r = fbit u0) := ⟨fun h0 => (by simp only [fbit, h0, cond_true, cond_false]), fun h0 => (by simp only [fbit, h0, cond_true, cond_false])⟩

def fkind_vc (u0 : Frame) (K : Int → Prop) : Prop :=
  (u0.Data.length ≤ 140737488355328 →
    (((!u0.Fast) = true →
      (K 0)) ∧
    ((!u0.Fast) = false →
      (((decide ((u0.Data.length : Int) ≤ 16)) = true →
        (K 1)) ∧
      ((decide ((u0.Data.length : Int) ≤ 16)) = false →
        (K 2))))))
def fkind (u0 : Frame) : Int :=
  bif !u0.Fast then 0
    else bif decide ((u0.Data.length : Int) ≤ 16) then 1
    else 2
theorem fkind_ok (u0 : Frame) : fkind_vc u0 (fun r => r = fkind u0) := (fun _ => ⟨fun h0 => (by simp only [fkind, h0, cond_true, cond_false]), fun h0 => ⟨fun h1 => (by simp only [fkind, h0, h1, cond_true, cond_false]), fun h1 => (by simp only [fkind, h0, h1, cond_true, cond_false])⟩⟩)

def sindex_vc (u0 : List Int) (u1 : Int) (K : Int → Prop) : Prop :=
  (u0.length ≤ 140737488355328 →
    (∃ inv16 : Int → Prop, ∃ mu16 : Int → Nat, inv16 0 ∧
    (∀ (x8 : Int), inv16 x8 →
    (((decide (x8 < (u0.length : Int))) = true →
      ((0 ≤ x8 ∧ x8 < (u0.length : Int)) ∧
      (∀ q51, u0[x8.toNat]? = some q51 →
      (((u1 == q51) = true →
        (K x8)) ∧
      ((u1 == q51) = false →
        (inv16 (w64 (x8 + 1)) ∧ mu16 (w64 (x8 + 1)) < mu16 x8)))))) ∧
    ((decide (x8 < (u0.length : Int))) = false →
      (K (-1)))))))
theorem sindex_mono {u0 : List Int} {u1 : Int} {K K1 : Int → Prop} (hK : ∀ r, K r → K1 r) (h : sindex_vc u0 u1 K) : sindex_vc u0 u1 K1 :=
  fun z0 => (Exists.elim (h z0) fun i1 e1 => Exists.elim e1 fun m1 g1 => ⟨i1, m1, g1.1, fun x8 z1 => ⟨fun c2 => ⟨((g1.2 x8 z1).1 c2).1, fun y4 z4 => ⟨fun c5 => hK _ (((((g1.2 x8 z1).1 c2).2) y4 z4).1 c5), fun c5 => (((((g1.2 x8 z1).1 c2).2) y4 z4).2 c5)⟩⟩, fun c2 => hK _ ((g1.2 x8 z1).2 c2)⟩⟩)

def scontains_vc (u0 : List Int) (u1 : Int) (K : Bool → Prop) : Prop :=
  (u0.length ≤ 140737488355328 →
    (sindex_vc u0 u1 fun r13 =>
    (K (decide (r13 ≥ 0)))))

end Go.Proofs.YtmbdcehmeiiaoaaDoor
