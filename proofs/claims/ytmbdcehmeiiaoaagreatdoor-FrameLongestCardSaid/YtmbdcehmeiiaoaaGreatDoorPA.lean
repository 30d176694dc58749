/- What must hold so that each function ends well: pure predicates, made by program. -/
import Derived.Test.YtmbdcehmeiiaoaaGreatDoorPZ
set_option linter.unusedVariables false
set_option linter.unusedSimpArgs false
namespace Go.Proofs.YtmbdcehmeiiaoaaGreatDoor
open Go.Sy Go.RowKit
def bread_vc (u0 : List UInt8) (K : Int → Prop) : Prop :=
  (∃ inv15 : Int → Int → Prop, ∃ mu15 : Int → Int → Nat, inv15 0 0 ∧
    (∀ (x3 : Int) (x7 : Int), inv15 x3 x7 →
    (((decide (x7 < (u0.length : Int))) = true →
      ((0 ≤ x7 ∧ x7 < (u0.length : Int)) ∧
      (∀ c49, u0[x7.toNat]? = some c49 →
      (inv15 (bOr .u64 (bShl .u64 x3 1) (wu64 (w8 ((c49.toNat : Int) - 48)))) (w64 (x7 + 1)) ∧ mu15 (bOr .u64 (bShl .u64 x3 1) (wu64 (w8 ((c49.toNat : Int) - 48)))) (w64 (x7 + 1)) < mu15 x3 x7)))) ∧
    ((decide (x7 < (u0.length : Int))) = false →
      (K x3)))))

def bwrite_vc (u0 : Int) (u1 : Int) (K : (List UInt8) → Prop) : Prop :=
  ((0 ≤ u1 ∧ u1 ≤ u1 ∧ u1 * 1 ≤ 140737488355328) ∧
    (∃ inv23 : Int → Int → (List Int) → Prop, ∃ mu23 : Int → Int → (List Int) → Nat, inv23 u0 0 (List.replicate u1.toNat (0 : Int)) ∧
    (∀ (x0 : Int) (x10 : Int) (zg90 : List Int), inv23 x0 x10 zg90 →
    (((decide (x10 < u1)) = true →
      ((0 ≤ w64 ((w64 (u1 - 1)) - x10) ∧ w64 ((w64 (u1 - 1)) - x10) < (zg90.length : Int)) ∧
      (inv23 (bShr .u64 x0 1) (w64 (x10 + 1)) (zg90.set (w64 ((w64 (u1 - 1)) - x10)).toNat (w8 (48 + (w8 (bAnd .u64 x0 1))))) ∧ mu23 (bShr .u64 x0 1) (w64 (x10 + 1)) (zg90.set (w64 ((w64 (u1 - 1)) - x10)).toNat (w8 (48 + (w8 (bAnd .u64 x0 1))))) < mu23 x0 x10 zg90))) ∧
    ((decide (x10 < u1)) = false →
      (K (bstr zg90)))))))

def bcheck_vc (u0 : List UInt8) (K : Int → Prop) : Prop :=
  (((decide ((u0.length : Int) > 1000)) = true →
      (K 2)) ∧
    ((decide ((u0.length : Int) > 1000)) = false →
      ((u0.length ≤ 9223372036854775807 ∧ ([48, 49] : List UInt8).length < 4294967281 ∧ ([48, 49] : List UInt8).all (fun b => decide (b.toNat < 128)) = true) ∧
      ((((trimS u0 ([48, 49] : List UInt8)) != ([] : List UInt8)) = true →
        (K 4)) ∧
      (((trimS u0 ([48, 49] : List UInt8)) != ([] : List UInt8)) = false →
        (K 0))))))

def smost_vc (u0 : Int) (K : (Int × Int) → Prop) : Prop :=
  ((((decide (u0 < 0)) || (decide (u0 > 1000))) = true →
      (K (0, 3))) ∧
    (((decide (u0 < 0)) || (decide (u0 > 1000))) = false →
      (((u0 == 0) = true →
        (K (0, 0))) ∧
      ((u0 == 0) = false →
        (K (w64 (u0 + (w64 ((w64 (u0 - 1)).tdiv 4))), 0))))))
def smost (u0 : Int) : Int × Int :=
  bif (decide (u0 < 0)) || (decide (u0 > 1000)) then (0, 3)
    else bif u0 == 0 then (0, 0)
    else (w64 (u0 + (w64 ((w64 (u0 - 1)).tdiv 4))), 0)
theorem smost_ok (u0 : Int) : smost_vc u0 (fun r => r = smost u0) := ⟨fun h0 => (by simp only [smost, h0, cond_true, cond_false]), fun h0 => ⟨fun h1 => (by simp only [smost, h0, h1, cond_true, cond_false]), fun h1 => (by simp only [smost, h0, h1, cond_true, cond_false])⟩⟩

def ckinds_vc  (K : (Kind × Kind × Kind × Kind × Kind) → Prop) : Prop :=
  (K ((⟨15, 17817, 0, 0⟩ : Kind), (⟨17, 92251, 65536, 0⟩ : Kind), (⟨21, 1058969, 1048576, 0⟩ : Kind), (⟨8, 47, 255, 255⟩ : Kind), (⟨16, 4129, 65535, 0⟩ : Kind)))
def ckinds  : (Kind × Kind × Kind × Kind × Kind) :=
  ((⟨15, 17817, 0, 0⟩ : Kind), (⟨17, 92251, 65536, 0⟩ : Kind), (⟨21, 1058969, 1048576, 0⟩ : Kind), (⟨8, 47, 255, 255⟩ : Kind), (⟨16, 4129, 65535, 0⟩ : Kind))
theorem ckinds_ok  : ckinds_vc  (fun r => r = ckinds ) := (by rfl)

def csize_vc (u0 : Int) (K : (Int × Int) → Prop) : Prop :=
  ((((decide (u0 < 0)) || (decide (u0 ≥ 5))) = true →
      (K (0, 8))) ∧
    (((decide (u0 < 0)) || (decide (u0 ≥ 5))) = false →
      ((0 ≤ u0 ∧ u0 < 5) ∧
      (K (([ckinds.1.Size, ckinds.2.1.Size, ckinds.2.2.1.Size, ckinds.2.2.2.1.Size, ckinds.2.2.2.2.Size] : List Int).getD u0.toNat 0, 0)))))
def csize (u0 : Int) : Int × Int :=
  bif (decide (u0 < 0)) || (decide (u0 ≥ 5)) then (0, 8)
    else (([ckinds.1.Size, ckinds.2.1.Size, ckinds.2.2.1.Size, ckinds.2.2.2.1.Size, ckinds.2.2.2.2.Size] : List Int).getD u0.toNat 0, 0)
theorem csize_ok (u0 : Int) : csize_vc u0 (fun r => r = csize u0) := ⟨fun h0 => (by simp only [csize, h0, cond_true, cond_false]), fun h0 => ⟨(by (try simp at h0); omega), (by simp only [csize, h0, cond_true, cond_false])⟩⟩

def ksum_vc (u0 : Kind) (u1 : List UInt8) (K : Int → Prop) : Prop :=
  ((0 ≤ w64 (u0.Size - 1)) ∧
    (∃ inv37 : Int → Int → Prop, ∃ mu37 : Int → Int → Nat, inv37 u0.From 0 ∧
    (∀ (x5 : Int) (x17 : Int), inv37 x5 x17 →
    (((decide (x17 < (u1.length : Int))) = true →
      ((0 ≤ x17 ∧ x17 < (u1.length : Int)) ∧
      (∀ c75, u1[x17.toNat]? = some c75 →
      (((((bAnd .u64 x5 (bShl .u64 1 (w64 (u0.Size - 1)))) != 0) != ((c75.toNat : Int) == 49)) = true →
        (inv37 (bXor .u64 (bAnd .u64 (bShl .u64 x5 1) (wu64 ((bShl .u64 (bShl .u64 1 (w64 (u0.Size - 1))) 1) - 1))) u0.Poly) (w64 (x17 + 1)) ∧ mu37 (bXor .u64 (bAnd .u64 (bShl .u64 x5 1) (wu64 ((bShl .u64 (bShl .u64 1 (w64 (u0.Size - 1))) 1) - 1))) u0.Poly) (w64 (x17 + 1)) < mu37 x5 x17)) ∧
      ((((bAnd .u64 x5 (bShl .u64 1 (w64 (u0.Size - 1)))) != 0) != ((c75.toNat : Int) == 49)) = false →
        (inv37 (bAnd .u64 (bShl .u64 x5 1) (wu64 ((bShl .u64 (bShl .u64 1 (w64 (u0.Size - 1))) 1) - 1))) (w64 (x17 + 1)) ∧ mu37 (bAnd .u64 (bShl .u64 x5 1) (wu64 ((bShl .u64 (bShl .u64 1 (w64 (u0.Size - 1))) 1) - 1))) (w64 (x17 + 1)) < mu37 x5 x17)))))) ∧
    ((decide (x17 < (u1.length : Int))) = false →
      (K (bXor .u64 x5 u0.End)))))))

def cnext_vc (u0 : Counter) (u1 : Int) (K : (Int × Bool × Counter) → Prop) : Prop :=
  (((u1 == u0.last) = true →
      (K (w8 (97 - u1), (w64 (u0.n + 1)) == 5, (⟨u0.last, w64 (u0.n + 1)⟩ : Counter)))) ∧
    ((u1 == u0.last) = false →
      (K (w8 (97 - u1), false, (⟨u1, 1⟩ : Counter)))))

def cnextR_vc (u0 : Reader) (u1 : Int) (K : (Int × Bool × Reader) → Prop) : Prop :=
  (((u1 == u0.c.last) = true →
      (K (w8 (97 - u1), (w64 (u0.c.n + 1)) == 5, (⟨u0.Row, u0.At, u0.Code, (⟨u0.c.last, w64 (u0.c.n + 1)⟩ : Counter)⟩ : Reader)))) ∧
    ((u1 == u0.c.last) = false →
      (K (w8 (97 - u1), false, (⟨u0.Row, u0.At, u0.Code, (⟨u1, 1⟩ : Counter)⟩ : Reader)))))
theorem cnextR_mono {u0 : Reader} {u1 : Int} {K K1 : (Int × Bool × Reader) → Prop} (hK : ∀ r, K r → K1 r) (h : cnextR_vc u0 u1 K) : cnextR_vc u0 u1 K1 :=
  ⟨fun c0 => hK _ (h.1 c0), fun c0 => hK _ (h.2 c0)⟩

def rbit_vc (u0 : Reader) (K : (Int × Reader) → Prop) : Prop :=
  (((u0.Code != 0) = true →
      (K (48, u0))) ∧
    ((u0.Code != 0) = false →
      (((u0.At == (u0.Row.length : Int)) = true →
        (K (48, (⟨u0.Row, u0.At, 7, u0.c⟩ : Reader)))) ∧
      ((u0.At == (u0.Row.length : Int)) = false →
        ((0 ≤ w64 ((w64 (u0.At + 1)) - 1) ∧ w64 ((w64 (u0.At + 1)) - 1) < (u0.Row.length : Int)) ∧
        (∀ c122, u0.Row[(w64 ((w64 (u0.At + 1)) - 1)).toNat]? = some c122 →
        (K ((c122.toNat : Int), (⟨u0.Row, w64 (u0.At + 1), u0.Code, u0.c⟩ : Reader)))))))))
theorem rbit_mono {u0 : Reader} {K K1 : (Int × Reader) → Prop} (hK : ∀ r, K r → K1 r) (h : rbit_vc u0 K) : rbit_vc u0 K1 :=
  ⟨fun c0 => hK _ (h.1 c0), fun c0 => ⟨fun c1 => hK _ ((h.2 c0).1 c1), fun c1 => ⟨((h.2 c0).2 c1).1, fun y3 z3 => hK _ ((((h.2 c0).2 c1).2) y3 z3)⟩⟩⟩

def cnextF_vc (u0 : FReader) (u1 : Int) (K : (Int × Bool × FReader) → Prop) : Prop :=
  (u0.f.Data.length ≤ 140737488355328 →
    (((u1 == u0.Reader.c.last) = true →
      (K (w8 (97 - u1), (w64 (u0.Reader.c.n + 1)) == 5, (⟨(⟨u0.Reader.Row, u0.Reader.At, u0.Reader.Code, (⟨u0.Reader.c.last, w64 (u0.Reader.c.n + 1)⟩ : Counter)⟩ : Reader), u0.f⟩ : FReader)))) ∧
    ((u1 == u0.Reader.c.last) = false →
      (K (w8 (97 - u1), false, (⟨(⟨u0.Reader.Row, u0.Reader.At, u0.Reader.Code, (⟨u1, 1⟩ : Counter)⟩ : Reader), u0.f⟩ : FReader))))))
theorem cnextF_lift (u0 : FReader) (u1 : Int) {K : (Int × Bool × FReader) → Prop} (h : cnextR_vc u0.Reader u1 fun r => K (r.1, r.2.1, (⟨r.2.2, u0.f⟩ : FReader))) : cnextF_vc u0 u1 K :=
  fun z0 => ⟨fun c1 => (h.1 c1), fun c1 => (h.2 c1)⟩

def rbitF_vc (u0 : FReader) (K : (Int × FReader) → Prop) : Prop :=
  (u0.f.Data.length ≤ 140737488355328 →
    (((u0.Reader.Code != 0) = true →
      (K (48, u0))) ∧
    ((u0.Reader.Code != 0) = false →
      (((u0.Reader.At == (u0.Reader.Row.length : Int)) = true →
        (K (48, (⟨(⟨u0.Reader.Row, u0.Reader.At, 7, u0.Reader.c⟩ : Reader), u0.f⟩ : FReader)))) ∧
      ((u0.Reader.At == (u0.Reader.Row.length : Int)) = false →
        ((0 ≤ w64 ((w64 (u0.Reader.At + 1)) - 1) ∧ w64 ((w64 (u0.Reader.At + 1)) - 1) < (u0.Reader.Row.length : Int)) ∧
        (∀ c126, u0.Reader.Row[(w64 ((w64 (u0.Reader.At + 1)) - 1)).toNat]? = some c126 →
        (K ((c126.toNat : Int), (⟨(⟨u0.Reader.Row, w64 (u0.Reader.At + 1), u0.Reader.Code, u0.Reader.c⟩ : Reader), u0.f⟩ : FReader))))))))))
theorem rbitF_lift (u0 : FReader) {K : (Int × FReader) → Prop} (h : rbit_vc u0.Reader fun r => K (r.1, (⟨r.2, u0.f⟩ : FReader))) : rbitF_vc u0 K :=
  fun z0 => ⟨fun c1 => (h.1 c1), fun c1 => ⟨fun c2 => ((h.2 c1).1 c2), fun c2 => ⟨((h.2 c1).2 c2).1, fun y4 z4 => ((((h.2 c1).2 c2).2) y4 z4)⟩⟩⟩

def fsizes_vc  (K : (List Int) → Prop) : Prop :=
  (K ([0, 1, 2, 3, 4, 5, 6, 7, 8, 12, 16, 20, 24, 32, 48, 64] : List Int))
def fsizes  : (List Int) :=
  ([0, 1, 2, 3, 4, 5, 6, 7, 8, 12, 16, 20, 24, 32, 48, 64] : List Int)
theorem fsizes_ok  : fsizes_vc  (fun r => r = fsizes ) := (by rfl)

def fbit_vc (u0 : Bool) (K : (List UInt8) → Prop) : Prop :=
  ((u0 = true →
      (K ([49] : List UInt8))) ∧
    (u0 = false →
      (K ([48] : List UInt8))))
def fbit (u0 : Bool) : (List UInt8) :=
  bif u0 then ([49] : List UInt8)
    else ([48] : List UInt8)
theorem fbit_ok (u0 : Bool) : fbit_vc u0 (fun r => r = fbit u0) := ⟨fun h0 => (by simp only [fbit, h0, cond_true, cond_false]), fun h0 => (by simp only [fbit, h0, cond_true, cond_false])⟩

def fkind_vc (u0 : Frame) (K : Int → Prop) : Prop :=
  (u0.Data.length ≤ 140737488355328 →
    (((!u0.Fast) = true →
      (K 0)) ∧
    ((!u0.Fast) = false →
      (((decide ((u0.Data.length : Int) ≤ 16)) = true →
        (K 1)) ∧
      ((decide ((u0.Data.length : Int) ≤ 16)) = false →
        (K 2))))))
def fkind (u0 : Frame) : Int :=
  bif !u0.Fast then 0
    else bif decide ((u0.Data.length : Int) ≤ 16) then 1
    else 2
theorem fkind_ok (u0 : Frame) : fkind_vc u0 (fun r => r = fkind u0) := (fun _ => ⟨fun h0 => (by simp only [fkind, h0, cond_true, cond_false]), fun h0 => ⟨fun h1 => (by simp only [fkind, h0, h1, cond_true, cond_false]), fun h1 => (by simp only [fkind, h0, h1, cond_true, cond_false])⟩⟩)

def sindex_vc (u0 : List Int) (u1 : Int) (K : Int → Prop) : Prop :=
  (u0.length ≤ 140737488355328 →
    (∃ inv16 : Int → Prop, ∃ mu16 : Int → Nat, inv16 0 ∧
    (∀ (x8 : Int), inv16 x8 →
    (((decide (x8 < (u0.length : Int))) = true →
      ((0 ≤ x8 ∧ x8 < (u0.length : Int)) ∧
      (∀ q51, u0[x8.toNat]? = some q51 →
      (((u1 == q51) = true →
        (K x8)) ∧
      ((u1 == q51) = false →
        (inv16 (w64 (x8 + 1)) ∧ mu16 (w64 (x8 + 1)) < mu16 x8)))))) ∧
    ((decide (x8 < (u0.length : Int))) = false →
      (K (-1)))))))
theorem sindex_mono {u0 : List Int} {u1 : Int} {K K1 : Int → Prop} (hK : ∀ r, K r → K1 r) (h : sindex_vc u0 u1 K) : sindex_vc u0 u1 K1 :=
  fun z0 => (Exists.elim (h z0) fun i1 e1 => Exists.elim e1 fun m1 g1 => ⟨i1, m1, g1.1, fun x8 z1 => ⟨fun c2 => ⟨((g1.2 x8 z1).1 c2).1, fun y4 z4 => ⟨fun c5 => hK _ (((((g1.2 x8 z1).1 c2).2) y4 z4).1 c5), fun c5 => (((((g1.2 x8 z1).1 c2).2) y4 z4).2 c5)⟩⟩, fun c2 => hK _ ((g1.2 x8 z1).2 c2)⟩⟩)

def scontains_vc (u0 : List Int) (u1 : Int) (K : Bool → Prop) : Prop :=
  (u0.length ≤ 140737488355328 →
    (sindex_vc u0 u1 fun r13 =>
    (K (decide (r13 ≥ 0)))))

/-! Pure proofs: no program in sight. -/
theorem bread_ok (b : List UInt8) (h : b.length ≤ 62 ∧ isRow b = true) : bread_vc b (fun r => r = breadS b) := by
  refine ⟨fun x y => ∃ k : Nat, y = k ∧ k ≤ b.length ∧ x = ((val (b.take k) : Nat) : Int), fun _ y => b.length - y.toNat, ⟨0, rfl, by omega, rfl⟩, ?_⟩
  rintro _ _ ⟨k, rfl, hk, rfl⟩
  refine ⟨fun h1 => ⟨by simp at h1; omega, fun c hc => ?_⟩, fun h1 => ?_⟩
  · rw [Int.toNat_natCast] at hc
    have hkl : k < b.length := (List.getElem?_eq_some_iff.1 hc).1
    have hv := val_lt (isRow_take h.2 k)
    have hl : (b.take k).length ≤ 61 := by rw [List.length_take]; omega
    have hp : 2 ^ (b.take k).length ≤ 2 ^ 61 := Nat.pow_le_pow_right (by omega) hl
    have hp61 : (2 : Nat) ^ 61 = 2305843009213693952 := rfl
    have hd : ∃ d : Nat, wu64 (w8 ((c.toNat : Int) - 48)) = (d : Int) ∧ d = c.toNat - 48 ∧ d < 2 := by
      rcases isRow_mem h.2 (List.mem_of_getElem? hc) with rfl | rfl
      · exact ⟨0, rfl, rfl, by omega⟩
      · exact ⟨1, rfl, rfl, by omega⟩
    obtain ⟨d, e1, e2, e3⟩ := hd
    have e4 := shl1 (val (b.take k)) (by omega)
    rw [e4, e1, or_bit _ d (by omega) e3, w64_succ k (by omega)]
    refine ⟨⟨k + 1, rfl, by omega, ?_⟩, by dsimp only; omega⟩
    rw [take_next b k c hc, val_snoc, e2]
  · have : k = b.length := by simp at h1; omega
    subst this
    rw [List.take_length]
    rfl
theorem bwrite_ok (n s : Int) (h : 0 ≤ s ∧ s ≤ 64 ∧ 0 ≤ n ∧ n < 2 ^ 62) : bwrite_vc n s (fun r => r = bwriteS n s) := by
  obtain ⟨m, rfl⟩ : ∃ m : Nat, s = m := ⟨s.toNat, by omega⟩
  obtain ⟨v, rfl⟩ : ∃ v : Nat, n = v := ⟨n.toNat, by omega⟩
  have p62 : (2 : Int) ^ 62 = 4611686018427387904 := rfl
  refine ⟨by omega, fun x i z => ∃ k : Nat, i = k ∧ k ≤ m ∧ x = ((v / 2 ^ k : Nat) : Int) ∧ z.length = m ∧ z.drop (m - k) = (wr k v).map (fun c => (c.toNat : Int)), fun _ i _ => m - i.toNat,
    ⟨0, rfl, by omega, by simp, by simp, by simp [wr]⟩, ?_⟩
  rintro _ _ z ⟨k, rfl, hk, rfl, hz, hd⟩
  refine ⟨fun h1 => ?_, fun h1 => ?_⟩
  · have hkm : k < m := by simp at h1; omega
    have e1 : w64 (w64 ((m : Int) - 1) - k) = ((m - 1 - k : Nat) : Int) := by
      rw [w64_eq ((m : Int) - 1) (by omega), w64_eq _ (by omega)]
      omega
    have hv : v / 2 ^ k < 18446744073709551616 := Nat.lt_of_le_of_lt (Nat.div_le_self _ _) (by omega)
    rw [e1, and1 _ hv, shr1, w64_succ k (by omega)]
    refine ⟨by omega, ⟨k + 1, rfl, by omega, ?_, by simpa using hz, ?_⟩, by dsimp only; omega⟩
    · rw [Nat.div_div_eq_div_mul, Nat.pow_succ]
    · have e2 : m - (k + 1) = m - 1 - k := by omega
      rw [e2, Int.toNat_natCast, wr, List.map_cons, ← hd]
      have hlt : m - 1 - k < z.length := by omega
      have e3 : m - k = m - 1 - k + 1 := by omega
      rw [e3, List.drop_eq_getElem_cons (by simpa using hlt), List.getElem_set_self]
      congr 1
      · rcases Nat.mod_two_eq_zero_or_one (v / 2 ^ k) with hh | hh <;> rw [hh] <;> rfl
      · rw [List.drop_set_of_lt (by omega)]
  · have : k = m := by simp at h1; omega
    subst this
    have e2 : k - k = 0 := by omega
    rw [e2, List.drop_zero] at hd
    show bstr z = wr (k : Int).toNat (v : Int).toNat
    rw [hd, Int.toNat_natCast, Int.toNat_natCast, bstr_ints]
theorem bcheck_ok (b : List UInt8) : bcheck_vc b (fun r => r = bcheckS b) := by
  refine ⟨fun h => ?_, fun h => ⟨⟨?_, by decide, by decide⟩, fun h1 => ?_, fun h1 => ?_⟩⟩
  · have : 1000 < b.length := by simp at h; omega
    simp [bcheckS, this]
  · simp at h; omega
  · have hn : ¬ 1000 < b.length := by simp at h; omega
    have : ¬ isRow b = true := fun hr => by
      rw [(trim_row b).2 hr] at h1
      cases h1
    simp [bcheckS, hn, this]
  · have hn : ¬ 1000 < b.length := by simp at h; omega
    have : isRow b = true := (trim_row b).1 (by simpa using h1)
    simp [bcheckS, hn, this]
theorem bcheck_zero (b : List UInt8) : bcheckS b = 0 ↔ b.length ≤ 1000 ∧ isRow b = true := by
  unfold bcheckS
  split
  · constructor
    · intro h; cases h
    · intro h; omega
  · split
    · rename_i h1 h2
      exact ⟨fun _ => ⟨by omega, h2⟩, fun _ => rfl⟩
    · rename_i h1 h2
      exact ⟨fun h => (by cases h), fun h => absurd h.2 h2⟩
/-! Sums of rows, by a register. -/
theorem band64 (x y : Nat) (hx : x < 18446744073709551616) (hy : y < 18446744073709551616) : bAnd .u64 (x : Int) (y : Int) = ((x &&& y : Nat) : Int) := by
  have e : (BitVec.ofInt IntKind.u64.bits (x : Int) &&& BitVec.ofInt IntKind.u64.bits (y : Int)).toNat = x &&& y := by
    rw [BitVec.toNat_and]
    show (BitVec.ofInt 64 (x : Int)).toNat &&& (BitVec.ofInt 64 (y : Int)).toNat = _
    rw [ofInt_toNat x hx, ofInt_toNat y hy]
  unfold bAnd
  rw [e]
  have := @Nat.and_le_left x y
  exact wu64_eq _ (by omega)
theorem bxor64 (x y : Nat) (hx : x < 18446744073709551616) (hy : y < 18446744073709551616) : bXor .u64 (x : Int) (y : Int) = ((x ^^^ y : Nat) : Int) := by
  have e : (BitVec.ofInt IntKind.u64.bits (x : Int) ^^^ BitVec.ofInt IntKind.u64.bits (y : Int)).toNat = x ^^^ y := by
    rw [BitVec.toNat_xor]
    show (BitVec.ofInt 64 (x : Int)).toNat ^^^ (BitVec.ofInt 64 (y : Int)).toNat = _
    rw [ofInt_toNat x hx, ofInt_toNat y hy]
  unfold bXor
  rw [e]
  have := Nat.xor_lt_two_pow (x := x) (y := y) (n := 64) hx hy
  exact wu64_eq _ (by omega)
/-- One bit more goes into the register. -/
def crcG (S p r : Nat) (b : Bool) : Nat := (2 * r % 2 ^ S) ^^^ (if (r.testBit (S - 1) != b) = true then p else 0)
def isOne (c : UInt8) : Bool := c == 49
def crcF (S p : Nat) : Nat → List UInt8 → Nat
  | r, [] => r
  | r, c :: l => crcF S p (crcG S p r (isOne c)) l
theorem crcF_append (S p r : Nat) (a b : List UInt8) : crcF S p r (a ++ b) = crcF S p (crcF S p r a) b := by
  induction a generalizing r with
  | nil => rfl
  | cons c l ih => exact ih _
theorem crcG_lt {S p r : Nat} {b : Bool} (hp : p < 2 ^ S) : crcG S p r b < 2 ^ S := by
  unfold crcG
  refine Nat.xor_lt_two_pow (Nat.mod_lt _ (Nat.two_pow_pos _)) ?_
  split
  · exact hp
  · exact Nat.two_pow_pos _
theorem crcF_lt {S p : Nat} (hp : p < 2 ^ S) (l : List UInt8) : ∀ {r : Nat}, r < 2 ^ S → crcF S p r l < 2 ^ S := by
  induction l with
  | nil => exact fun h => h
  | cons c l ih => exact fun _ => ih (crcG_lt hp)
/-- What is turned together. -/
theorem crcG_xor (S p r s : Nat) (a b : Bool) : crcG S p (r ^^^ s) (a != b) = crcG S p r a ^^^ crcG S p s b := by
  apply Nat.eq_of_testBit_eq
  intro i
  unfold crcG
  have h2 : ∀ x : Nat, (2 * x % 2 ^ S).testBit i = (decide (i < S) && (decide (1 ≤ i) && x.testBit (i - 1))) := fun x => by
    rw [Nat.testBit_mod_two_pow, Nat.mul_comm, show x * 2 = x <<< 1 from by rw [Nat.shiftLeft_eq], Nat.testBit_shiftLeft]
  have h3 : ∀ c : Bool, (if c = true then p else 0).testBit i = (c && p.testBit i) := fun c => by cases c <;> simp
  simp only [Nat.testBit_xor, h2, h3]
  generalize r.testBit (S - 1) = u
  generalize s.testBit (S - 1) = v
  generalize r.testBit (i - 1) = w
  generalize s.testBit (i - 1) = x
  generalize p.testBit i = y
  cases decide (i < S) <;> cases decide (1 ≤ i) <;> cases u <;> cases v <;> cases w <;> cases x <;> cases y <;> cases a <;> cases b <;> rfl
/-- Rows that are turned by one another (of the second one as long as it is). -/
def xorR : List UInt8 → List UInt8 → List UInt8
  | a, [] => a
  | [], _ => []
  | x :: a, c :: b => (if isOne c then x ^^^ 1 else x) :: xorR a b
theorem xorR_length (a : List UInt8) : ∀ b, (xorR a b).length = a.length := by
  induction a with
  | nil => intro b; cases b <;> rfl
  | cons x a ih => intro b; cases b with
    | nil => rfl
    | cons c b => simp [xorR, ih]
theorem xor_bit {x : UInt8} (h : x = 48 ∨ x = 49) : (x ^^^ 1 = 48 ∨ x ^^^ 1 = 49) ∧ isOne (x ^^^ 1) = !isOne x := by
  rcases h with rfl | rfl <;> exact ⟨by decide, by decide⟩
theorem xorR_row {a : List UInt8} (h : isRow a = true) : ∀ b, isRow (xorR a b) = true := by
  induction a with
  | nil => intro b; cases b <;> rfl
  | cons x a ih => intro b; cases b with
    | nil => exact h
    | cons c b =>
      rw [isRow_cons, Bool.and_eq_true] at h
      rw [xorR, isRow_cons, ih h.2]
      have hx := isBit_or h.1
      split
      · rcases (xor_bit hx).1 with e | e <;> rw [e] <;> rfl
      · rw [h.1]; rfl
theorem xor_one {x c : UInt8} (hx : x = 48 ∨ x = 49) : isOne (if isOne c = true then x ^^^ 1 else x) = (isOne x != isOne c) := by
  split
  · rename_i h; rw [(xor_bit hx).2, h]; cases isOne x <;> rfl
  · rename_i h; rw [show isOne c = false by simpa using h]; cases isOne x <;> rfl
theorem crcF_xor (S p : Nat) : ∀ (a b : List UInt8) (r s : Nat), isRow a = true → a.length = b.length → crcF S p (r ^^^ s) (xorR a b) = crcF S p r a ^^^ crcF S p s b := by
  intro a
  induction a with
  | nil => intro b r s _ h; cases b with
    | nil => rfl
    | cons c b => cases h
  | cons x a ih => intro b r s hr h; cases b with
    | nil => cases h
    | cons c b =>
      rw [isRow_cons, Bool.and_eq_true] at hr
      rw [xorR, crcF, crcF, crcF, xor_one (isBit_or hr.1), crcG_xor]
      exact ih b _ _ hr.2 (by simpa using h)
theorem wr_xor : ∀ (s n m : Nat), wr s (n ^^^ m) = xorR (wr s n) (wr s m) := by
  intro s
  induction s with
  | zero => intro n m; rfl
  | succ s ih =>
    intro n m
    rw [wr, wr, wr, xorR, ih]
    congr 1
    have e : ∀ x : Nat, x / 2 ^ s % 2 = if x.testBit s then 1 else 0 := fun x => by
      rw [Nat.testBit_eq_decide_div_mod_eq]
      rcases Nat.mod_two_eq_zero_or_one (x / 2 ^ s) with h | h <;> rw [h] <;> rfl
    rw [e, e, e, Nat.testBit_xor]
    cases n.testBit s <;> cases m.testBit s <;> rfl
theorem xorR_assoc_len {a b : List UInt8} (h : a.length = b.length) : (xorR a b).length = b.length := by rw [xorR_length, h]
/-- The number of a kind's sum. -/
def okKindS (k : Kind) : Prop := 1 ≤ k.Size ∧ k.Size ≤ 62 ∧ 0 ≤ k.Poly ∧ k.Poly < 2 ^ k.Size.toNat ∧ 0 ≤ k.From ∧ k.From < 2 ^ k.Size.toNat ∧ 0 ≤ k.End ∧ k.End < 2 ^ k.Size.toNat ∧ k.Poly % 2 = 1
def ksumS (k : Kind) (b : List UInt8) : Int := ((crcF k.Size.toNat k.Poly.toNat k.From.toNat b ^^^ k.End.toNat : Nat) : Int)
theorem and_pow (r i : Nat) : r &&& 2 ^ i = if r.testBit i = true then 2 ^ i else 0 := by
  apply Nat.eq_of_testBit_eq
  intro j
  rw [Nat.testBit_and, Nat.testBit_two_pow]
  by_cases h : i = j
  · subst h; cases hr : r.testBit i <;> simp [Nat.testBit_two_pow]
  · cases hr : r.testBit i <;> simp [h, Nat.testBit_two_pow]
theorem ksum_ok (k : Kind) (b : List UInt8) (h : okKindS k ∧ b.length ≤ 1000000) : ksum_vc k b (fun r => r = ksumS k b) := by
  obtain ⟨⟨h1, h2, h3, h4, h5, h6, h7, h8, _⟩, hbl⟩ := h
  obtain ⟨ks, kp, kf, ke⟩ := k
  dsimp only at h1 h2 h3 h4 h5 h6 h7 h8
  obtain ⟨S, rfl⟩ : ∃ S : Nat, ks = S := ⟨ks.toNat, by omega⟩
  obtain ⟨p, rfl⟩ : ∃ p : Nat, kp = p := ⟨kp.toNat, by omega⟩
  obtain ⟨f, rfl⟩ : ∃ f : Nat, kf = f := ⟨kf.toNat, by omega⟩
  obtain ⟨e, rfl⟩ : ∃ e : Nat, ke = e := ⟨ke.toNat, by omega⟩
  unfold ksum_vc ksumS
  dsimp only
  simp only [Int.toNat_natCast] at *
  have h4 : p < 2 ^ S := by exact_mod_cast h4
  have h6 : f < 2 ^ S := by exact_mod_cast h6
  have h8 : e < 2 ^ S := by exact_mod_cast h8
  have p62 : (2 : Nat) ^ 62 = 4611686018427387904 := rfl
  have hS62 : 2 ^ S ≤ 2 ^ 62 := Nat.pow_le_pow_right (by omega) (by omega)
  have ew : w64 ((S : Int) - 1) = ((S - 1 : Nat) : Int) := by rw [w64_eq _ (by omega)]; omega
  have hpow : 2 ^ S = 2 * 2 ^ (S - 1) := by rw [show S = (S - 1) + 1 by omega, Nat.pow_succ]; simp; omega
  have etop : bShl .u64 1 ((S - 1 : Nat) : Int) = ((2 ^ (S - 1) : Nat) : Int) := by
    unfold bShl
    have : min (((S - 1 : Nat) : Int)).toNat IntKind.u64.bits = S - 1 := by simp [IntKind.bits]; omega
    rw [this]
    have e2 : (1 : Int) * 2 ^ (S - 1) = ((2 ^ (S - 1) : Nat) : Int) := by push_cast; omega
    rw [e2]
    exact wu64_eq _ (by omega)
  have emask : wu64 (bShl .u64 ((2 ^ (S - 1) : Nat) : Int) 1 - 1) = ((2 ^ S - 1 : Nat) : Int) := by
    rw [shl1 _ (by omega), wu64_eq _ (by omega)]
    omega
  rw [ew, etop, emask]
  refine ⟨by omega, fun x i => ∃ j : Nat, i = j ∧ j ≤ b.length ∧ x = ((crcF S p f (b.take j) : Nat) : Int), fun _ i => b.length - i.toNat, ⟨0, rfl, by omega, by simp [crcF]⟩, ?_⟩
  rintro _ _ ⟨j, rfl, hj, rfl⟩
  have hr := crcF_lt h4 (b.take j) h6
  refine ⟨fun h => ?_, fun h => ?_⟩
  · have hj : j < b.length := by have := of_decide_eq_true h; omega
    rw [w64_succ j (by omega)]
    refine ⟨by omega, fun c hc => ?_⟩
    rw [Int.toNat_natCast] at hc
    have en : crcF S p f (b.take (j + 1)) = crcG S p (crcF S p f (b.take j)) (isOne c) := by
      rw [take_next b j c hc, crcF_append]
      rfl
    generalize crcF S p f (b.take j) = r at *
    have hand := and_pow r (S - 1)
    have e1 : (bAnd .u64 (r : Int) ((2 ^ (S - 1) : Nat) : Int) != 0) = r.testBit (S - 1) := by
      rw [band64 _ _ (by omega) (by omega), hand]
      have := Nat.two_pow_pos (S - 1)
      cases r.testBit (S - 1)
      · rfl
      · have h7 : ((2 ^ (S - 1) : Nat) : Int) ≠ 0 := by omega
        rw [if_pos rfl]
        exact bne_iff_ne.2 h7
    have e2 : ((c.toNat : Int) == 49) = isOne c := by
      unfold isOne
      by_cases hc : c = 49
      · subst hc; rfl
      · have h9 : ¬ c.toNat = 49 := fun h => hc (UInt8.toNat_inj.1 h)
        have h8 : ¬ (c.toNat : Int) = 49 := by omega
        rw [show ((c.toNat : Int) == 49) = false by simpa using h8, show (c == 49) = false by simpa using hc]
    have e3 : bAnd .u64 (bShl .u64 (r : Int) 1) ((2 ^ S - 1 : Nat) : Int) = ((2 * r % 2 ^ S : Nat) : Int) := by
      rw [shl1 _ (by omega), band64 _ _ (by omega) (by omega), Nat.and_two_pow_sub_one_eq_mod]
    have hm : 2 * r % 2 ^ S < 2 ^ S := Nat.mod_lt _ (Nat.two_pow_pos _)
    rw [e1, e2, e3]
    refine ⟨fun h => ?_, fun h => ?_⟩
    · rw [bxor64 _ _ (by omega) (by omega)]
      refine ⟨⟨j + 1, rfl, by omega, ?_⟩, by (try dsimp only); omega⟩
      rw [en, crcG, if_pos h]
    · refine ⟨⟨j + 1, rfl, by omega, ?_⟩, by (try dsimp only); omega⟩
      rw [en, crcG, if_neg (by rw [h]; simp), Nat.xor_zero]
  · have : j = b.length := by have := of_decide_eq_false h; omega
    subst this
    rw [List.take_length] at *
    show bXor .u64 _ _ = _
    rw [bxor64 _ _ (by omega) (by omega)]
theorem nx_counter (c : Counter) (b : UInt8) : nx c b = if (b.toNat : Int) = c.last then ⟨c.last, c.n + 1⟩ else ⟨b.toNat, 1⟩ := rfl
/-- The counter's next, as the program has it. -/
def cnextS (c : Counter) (b : Int) : Int × Bool × Counter := if b = c.last then (97 - b, decide (c.n + 1 = 5), ⟨c.last, c.n + 1⟩) else (97 - b, false, ⟨b, 1⟩)
theorem cnext_ok (c : Counter) (b : Int) (h : -1000000 ≤ c.n ∧ c.n ≤ 1000000 ∧ 0 ≤ b ∧ b ≤ 97) : cnext_vc c b (fun r => r = cnextS c b) := by
  have e1 : w8 (97 - b) = 97 - b := w8_eq _ (by omega)
  have e2 : w64 (c.n + 1) = c.n + 1 := w64_eq _ (by omega)
  refine ⟨fun h1 => ?_, fun h1 => ?_⟩
  · have h1 : b = c.last := by simpa using h1
    rw [e1, e2]
    unfold cnextS
    rw [if_pos h1]
    rfl
  · have h1 : ¬ b = c.last := by simpa using h1
    rw [e1]
    unfold cnextS
    rw [if_neg h1]
def cnextRS (r : Reader) (b : Int) : Int × Bool × Reader := ((cnextS r.c b).1, (cnextS r.c b).2.1, ⟨r.Row, r.At, r.Code, (cnextS r.c b).2.2⟩)
theorem cnextR_ok (r : Reader) (b : Int) (h : -1000000 ≤ r.c.n ∧ r.c.n ≤ 1000000 ∧ 0 ≤ b ∧ b ≤ 97) : cnextR_vc r b (fun q => q = cnextRS r b) := by
  have e1 : w8 (97 - b) = 97 - b := w8_eq _ (by omega)
  have e2 : w64 (r.c.n + 1) = r.c.n + 1 := w64_eq _ (by omega)
  refine ⟨fun h1 => ?_, fun h1 => ?_⟩
  · have h1 : b = r.c.last := by simpa using h1
    rw [e1, e2]
    unfold cnextRS cnextS
    rw [if_pos h1]
    rfl
  · have h1 : ¬ b = r.c.last := by simpa using h1
    rw [e1]
    unfold cnextRS cnextS
    rw [if_neg h1]
def rbitS (r : Reader) : Int × Reader :=
  if r.Code ≠ 0 then (48, r) else match r.Row[r.At.toNat]? with
    | none => (48, ⟨r.Row, r.At, 7, r.c⟩)
    | some b => ((b.toNat : Int), ⟨r.Row, r.At + 1, r.Code, r.c⟩)
theorem rbit_ok (r : Reader) (h : 0 ≤ r.At ∧ r.At ≤ (r.Row.length : Int) ∧ r.Row.length ≤ 1000000) : rbit_vc r (fun q => q = rbitS r) := by
  refine ⟨fun h1 => ?_, fun h1 => ⟨fun h2 => ?_, fun h2 => ?_⟩⟩
  · have h1 : r.Code ≠ 0 := by simpa using h1
    unfold rbitS
    rw [if_pos h1]
  all_goals
    have h1 : ¬ r.Code ≠ 0 := by simpa using h1
  · have h2 : r.At = (r.Row.length : Int) := by simpa using h2
    have e : r.Row[r.At.toNat]? = none := List.getElem?_eq_none (by omega)
    unfold rbitS
    rw [if_neg h1, e]
  · have h2 : ¬ r.At = (r.Row.length : Int) := by simpa using h2
    have e1 : w64 (w64 (r.At + 1) - 1) = r.At := by
      rw [w64_eq (r.At + 1) (by omega), w64_eq _ (by omega)]
      omega
    have e2 : w64 (r.At + 1) = r.At + 1 := w64_eq _ (by omega)
    rw [e1, e2]
    refine ⟨by omega, fun b hb => ?_⟩
    unfold rbitS
    rw [if_neg h1, hb]
def sidx {α : Type} (p : α → Bool) (l : List α) : Int := match l.findIdx? p with | some i => (i : Int) | none => -1
theorem sidx_at {α : Type} (p : α → Bool) (l : List α) (k : Nat) (q : α) (hq : l[k]? = some q) (hp : p q = true) (hb : ∀ j x, j < k → l[j]? = some x → p x = false) : sidx p l = k := by
  unfold sidx
  have : l.findIdx? p = some k := by
    rw [List.findIdx?_eq_some_iff_getElem]
    obtain ⟨h1, h2⟩ := List.getElem?_eq_some_iff.1 hq
    exact ⟨h1, by rw [h2]; exact hp, fun j hj => by rw [hb j _ hj (List.getElem?_eq_getElem (by omega))]; simp⟩
  rw [this]
theorem sidx_none {α : Type} (p : α → Bool) (l : List α) (hb : ∀ (j : Nat) x, l[j]? = some x → p x = false) : sidx p l = -1 := by
  unfold sidx
  have : l.findIdx? p = none := by
    rw [List.findIdx?_eq_none_iff]
    intro x hx
    obtain ⟨j, hj⟩ := List.mem_iff_getElem?.1 hx
    exact hb j x hj
  rw [this]
theorem sidx_ge {α : Type} (p : α → Bool) (l : List α) : decide (sidx p l ≥ 0) = l.any p := by
  unfold sidx
  cases h : l.findIdx? p with
  | none =>
    have : l.any p = false := by
      rw [List.findIdx?_eq_none_iff] at h
      rw [List.any_eq_false]
      intro x hx
      simp [h x hx]
    rw [this]
    rfl
  | some i =>
    have : l.any p = true := by
      rw [List.findIdx?_eq_some_iff_getElem] at h
      obtain ⟨h1, h2, _⟩ := h
      exact List.any_eq_true.2 ⟨_, List.getElem_mem h1, h2⟩
    rw [this]
    simp
theorem sindex_ok (l : List Int) (x : Int) : sindex_vc l x (fun r => r = sidx (fun q => x == q) l) := by
  intro hl
  refine rg0 hl (fun k => ∀ j y, j < k → l[j]? = some y → (x == y) = false) (fun j y h => absurd h (Nat.not_lt_zero _)) ?_ ?_
  · intro k q hk hq hj inv mu hn
    refine ⟨fun h => (sidx_at _ l k q hq h hj).symm, fun h => hn fun j y hj1 hy => ?_⟩
    rcases Nat.lt_or_ge j k with h1 | h1
    · exact hj j y h1 hy
    · have : j = k := by omega
      subst this
      rw [hq] at hy
      cases hy
      exact h
  · intro hj
    refine (sidx_none _ l fun j y hy => hj j y (List.getElem?_eq_some_iff.1 hy).1 hy).symm
def scontainsS (l : List Int) (x : Int) : Bool := l.any fun q => x == q
theorem scontains_ok (l : List Int) (x : Int) : scontains_vc l x (fun r => r = scontainsS l x) := fun _ => sindex_mono (fun r h => by subst h; exact sidx_ge _ l) (sindex_ok l x)
def cnextFS (r : FReader) (b : Int) : Int × Bool × FReader := ((cnextRS r.Reader b).1, (cnextRS r.Reader b).2.1, ⟨(cnextRS r.Reader b).2.2, r.f⟩)
theorem cnextF_ok (r : FReader) (b : Int) (h : -1000000 ≤ r.Reader.c.n ∧ r.Reader.c.n ≤ 1000000 ∧ 0 ≤ b ∧ b ≤ 97) : cnextF_vc r b (fun q => q = cnextFS r b) :=
  cnextF_lift r b (cnextR_mono (by rintro _ rfl; rfl) (cnextR_ok r.Reader b h))
def rbitFS (r : FReader) : Int × FReader := ((rbitS r.Reader).1, ⟨(rbitS r.Reader).2, r.f⟩)
theorem rbitF_ok (r : FReader) (h : 0 ≤ r.Reader.At ∧ r.Reader.At ≤ (r.Reader.Row.length : Int) ∧ r.Reader.Row.length ≤ 1000000) : rbitF_vc r (fun q => q = rbitFS r) :=
  rbitF_lift r (rbit_mono (by rintro _ rfl; rfl) (rbit_ok r.Reader h))
def sindexS (l : List Int) (x : Int) : Int := sidx (fun q => x == q) l
theorem sindex_ok2 (l : List Int) (x : Int) : sindex_vc l x (fun r => r = sindexS l x) := sindex_ok l x

end Go.Proofs.YtmbdcehmeiiaoaaGreatDoor
