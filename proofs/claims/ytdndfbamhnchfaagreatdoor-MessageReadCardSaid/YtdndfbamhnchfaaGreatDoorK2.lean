/- Texts put together (pure ones, or walks made by program). -/
import Derived.Test.YtdndfbamhnchfaaGreatDoorK0
import Derived.Test.YtdndfbamhnchfaaGreatDoorK1
set_option linter.unusedVariables false
set_option linter.unusedSimpArgs false
namespace Go.Proofs.YtdndfbamhnchfaaGreatDoor
open Go.Sy Go.RowKit
def gtwin_vc (u0 : List Int) (K : (List Int) → Prop) : Prop :=
  (u0.length ≤ 140737488355328 →
    (((([] : List Int).length + u0.length) * 4 ≤ 140737488355328) ∧
    (K (([] : List Int) ++ u0))))

def gwords_vc (u0 : Int) (K : (List Int) → Prop) : Prop :=
  ((gtrimS ([wu32 u0, wu32 (bShr .u64 u0 32)] : List Int)).length ≤ 140737488355328 →
    (K (gtrimS ([wu32 u0, wu32 (bShr .u64 u0 32)] : List Int))))

def gmul_vc (u0 : List Int) (u1 : List Int) (K : (List Int) → Prop) : Prop :=
  (u0.length ≤ 140737488355328 →
    (u1.length ≤ 140737488355328 →
    (((((u0.length : Int) == 0) || ((u1.length : Int) == 0)) = true →
      (K [])) ∧
    ((((u0.length : Int) == 0) || ((u1.length : Int) == 0)) = false →
      ((0 ≤ (w64 ((u0.length : Int) + (u1.length : Int))) ∧ (w64 ((u0.length : Int) + (u1.length : Int))) ≤ (w64 ((u0.length : Int) + (u1.length : Int))) ∧ (w64 ((u0.length : Int) + (u1.length : Int))) * 4 ≤ 140737488355328) ∧
      (∃ inv61 : Int → (List Int) → Prop, ∃ mu61 : Int → (List Int) → Nat, inv61 0 (List.replicate (w64 ((u0.length : Int) + (u1.length : Int))).toNat (0 : Int)) ∧
      (∀ (x6 : Int) (zg490 : List Int), inv61 x6 zg490 →
      (((decide (x6 < (u0.length : Int))) = true →
        (∃ inv92 : Int → Int → (List Int) → Prop, ∃ mu92 : Int → Int → (List Int) → Nat, inv92 0 0 zg490 ∧
        (∀ (x7 : Int) (x8 : Int) (zg490v : List Int), inv92 x7 x8 zg490v →
        (((decide (x8 < (u1.length : Int))) = true →
          ((0 ≤ x6 ∧ x6 < (u0.length : Int)) ∧
          (∀ q145, u0[x6.toNat]? = some q145 →
          ((0 ≤ x8 ∧ x8 < (u1.length : Int)) ∧
          (∀ q163, u1[x8.toNat]? = some q163 →
          ((0 ≤ w64 (x6 + x8) ∧ w64 (x6 + x8) < (zg490v.length : Int)) ∧
          (∀ q185, zg490v[(w64 (x6 + x8)).toNat]? = some q185 →
          ((0 ≤ w64 (x6 + x8) ∧ w64 (x6 + x8) < (zg490v.length : Int)) ∧
          (inv92 (bShr .u64 (wu64 (x7 + (wu64 ((wu64 ((wu64 q145) * (wu64 q163))) + (wu64 q185))))) 32) (w64 (x8 + 1)) (zg490v.set (w64 (x6 + x8)).toNat (wu32 (wu64 (x7 + (wu64 ((wu64 ((wu64 q145) * (wu64 q163))) + (wu64 q185))))))) ∧ mu92 (bShr .u64 (wu64 (x7 + (wu64 ((wu64 ((wu64 q145) * (wu64 q163))) + (wu64 q185))))) 32) (w64 (x8 + 1)) (zg490v.set (w64 (x6 + x8)).toNat (wu32 (wu64 (x7 + (wu64 ((wu64 ((wu64 q145) * (wu64 q163))) + (wu64 q185))))))) < mu92 x7 x8 zg490v))))))))) ∧
        ((decide (x8 < (u1.length : Int))) = false →
          ((0 ≤ w64 (x6 + (u1.length : Int)) ∧ w64 (x6 + (u1.length : Int)) < (zg490v.length : Int)) ∧
          (inv61 (w64 (x6 + 1)) (zg490v.set (w64 (x6 + (u1.length : Int))).toNat (wu32 x7)) ∧ mu61 (w64 (x6 + 1)) (zg490v.set (w64 (x6 + (u1.length : Int))).toNat (wu32 x7)) < mu61 x6 zg490))))))) ∧
      ((decide (x6 < (u0.length : Int))) = false →
        ((gtrimS zg490).length ≤ 140737488355328 →
        (K (gtrimS zg490))))))))))))

def gadd_vc (u0 : List Int) (u1 : List Int) (K : (List Int) → Prop) : Prop :=
  (u0.length ≤ 140737488355328 →
    (u1.length ≤ 140737488355328 →
    (((decide ((u0.length : Int) < (u1.length : Int))) = true →
      ((0 ≤ (w64 ((u1.length : Int) + 1)) ∧ (w64 ((u1.length : Int) + 1)) ≤ (w64 ((u1.length : Int) + 1)) ∧ (w64 ((u1.length : Int) + 1)) * 4 ≤ 140737488355328) ∧
      (∃ inv58 : Int → Int → (List Int) → Prop, ∃ mu58 : Int → Int → (List Int) → Nat, inv58 0 0 (List.replicate (w64 ((u1.length : Int) + 1)).toNat (0 : Int)) ∧
      (∀ (x6 : Int) (x7 : Int) (zg430 : List Int), inv58 x6 x7 zg430 →
      (((decide (x7 < (u1.length : Int))) = true →
        ((0 ≤ x7 ∧ x7 < (u1.length : Int)) ∧
        (∀ q94, u1[x7.toNat]? = some q94 →
        (((decide (x7 < (u0.length : Int))) = true →
          ((0 ≤ x7 ∧ x7 < (u0.length : Int)) ∧
          (∀ q132, u0[x7.toNat]? = some q132 →
          ((0 ≤ x7 ∧ x7 < (zg430.length : Int)) ∧
          (inv58 (bShr .u64 (wu64 ((wu64 (x6 + (wu64 q94))) + (wu64 q132))) 32) (w64 (x7 + 1)) (zg430.set x7.toNat (wu32 (wu64 ((wu64 (x6 + (wu64 q94))) + (wu64 q132))))) ∧ mu58 (bShr .u64 (wu64 ((wu64 (x6 + (wu64 q94))) + (wu64 q132))) 32) (w64 (x7 + 1)) (zg430.set x7.toNat (wu32 (wu64 ((wu64 (x6 + (wu64 q94))) + (wu64 q132))))) < mu58 x6 x7 zg430))))) ∧
        ((decide (x7 < (u0.length : Int))) = false →
          ((0 ≤ x7 ∧ x7 < (zg430.length : Int)) ∧
          (inv58 (bShr .u64 (wu64 (x6 + (wu64 q94))) 32) (w64 (x7 + 1)) (zg430.set x7.toNat (wu32 (wu64 (x6 + (wu64 q94))))) ∧ mu58 (bShr .u64 (wu64 (x6 + (wu64 q94))) 32) (w64 (x7 + 1)) (zg430.set x7.toNat (wu32 (wu64 (x6 + (wu64 q94))))) < mu58 x6 x7 zg430))))))) ∧
      ((decide (x7 < (u1.length : Int))) = false →
        ((0 ≤ (u1.length : Int) ∧ (u1.length : Int) < (zg430.length : Int)) ∧
        ((gtrimS (zg430.set (u1.length : Int).toNat (wu32 x6))).length ≤ 140737488355328 →
        (K (gtrimS (zg430.set (u1.length : Int).toNat (wu32 x6)))))))))))) ∧
    ((decide ((u0.length : Int) < (u1.length : Int))) = false →
      ((0 ≤ (w64 ((u0.length : Int) + 1)) ∧ (w64 ((u0.length : Int) + 1)) ≤ (w64 ((u0.length : Int) + 1)) ∧ (w64 ((u0.length : Int) + 1)) * 4 ≤ 140737488355328) ∧
      (∃ inv282 : Int → Int → (List Int) → Prop, ∃ mu282 : Int → Int → (List Int) → Nat, inv282 0 0 (List.replicate (w64 ((u0.length : Int) + 1)).toNat (0 : Int)) ∧
      (∀ (x6 : Int) (x7 : Int) (zg2670 : List Int), inv282 x6 x7 zg2670 →
      (((decide (x7 < (u0.length : Int))) = true →
        ((0 ≤ x7 ∧ x7 < (u0.length : Int)) ∧
        (∀ q318, u0[x7.toNat]? = some q318 →
        (((decide (x7 < (u1.length : Int))) = true →
          ((0 ≤ x7 ∧ x7 < (u1.length : Int)) ∧
          (∀ q356, u1[x7.toNat]? = some q356 →
          ((0 ≤ x7 ∧ x7 < (zg2670.length : Int)) ∧
          (inv282 (bShr .u64 (wu64 ((wu64 (x6 + (wu64 q318))) + (wu64 q356))) 32) (w64 (x7 + 1)) (zg2670.set x7.toNat (wu32 (wu64 ((wu64 (x6 + (wu64 q318))) + (wu64 q356))))) ∧ mu282 (bShr .u64 (wu64 ((wu64 (x6 + (wu64 q318))) + (wu64 q356))) 32) (w64 (x7 + 1)) (zg2670.set x7.toNat (wu32 (wu64 ((wu64 (x6 + (wu64 q318))) + (wu64 q356))))) < mu282 x6 x7 zg2670))))) ∧
        ((decide (x7 < (u1.length : Int))) = false →
          ((0 ≤ x7 ∧ x7 < (zg2670.length : Int)) ∧
          (inv282 (bShr .u64 (wu64 (x6 + (wu64 q318))) 32) (w64 (x7 + 1)) (zg2670.set x7.toNat (wu32 (wu64 (x6 + (wu64 q318))))) ∧ mu282 (bShr .u64 (wu64 (x6 + (wu64 q318))) 32) (w64 (x7 + 1)) (zg2670.set x7.toNat (wu32 (wu64 (x6 + (wu64 q318))))) < mu282 x6 x7 zg2670))))))) ∧
      ((decide (x7 < (u0.length : Int))) = false →
        ((0 ≤ (u0.length : Int) ∧ (u0.length : Int) < (zg2670.length : Int)) ∧
        ((gtrimS (zg2670.set (u0.length : Int).toNat (wu32 x6))).length ≤ 140737488355328 →
        (K (gtrimS (zg2670.set (u0.length : Int).toNat (wu32 x6)))))))))))))))

def gsub_vc (u0 : List Int) (u1 : List Int) (K : (List Int) → Prop) : Prop :=
  (u0.length ≤ 140737488355328 →
    (u1.length ≤ 140737488355328 →
    ((0 ≤ (u0.length : Int) ∧ (u0.length : Int) ≤ (u0.length : Int) ∧ (u0.length : Int) * 4 ≤ 140737488355328) ∧
    (∃ inv34 : Int → Int → (List Int) → Prop, ∃ mu34 : Int → Int → (List Int) → Nat, inv34 0 0 (List.replicate (u0.length : Int).toNat (0 : Int)) ∧
    (∀ (x6 : Int) (x7 : Int) (zg190 : List Int), inv34 x6 x7 zg190 →
    (((decide (x7 < (u0.length : Int))) = true →
      ((0 ≤ x7 ∧ x7 < (u0.length : Int)) ∧
      (∀ q68, u0[x7.toNat]? = some q68 →
      (((decide (x7 < (u1.length : Int))) = true →
        ((0 ≤ x7 ∧ x7 < (u1.length : Int)) ∧
        (∀ q108, u1[x7.toNat]? = some q108 →
        ((0 ≤ x7 ∧ x7 < (zg190.length : Int)) ∧
        (inv34 (bShr .u64 (wu64 ((wu64 ((wu64 q68) - x6)) - (wu64 q108))) 63) (w64 (x7 + 1)) (zg190.set x7.toNat (wu32 (wu64 ((wu64 ((wu64 q68) - x6)) - (wu64 q108))))) ∧ mu34 (bShr .u64 (wu64 ((wu64 ((wu64 q68) - x6)) - (wu64 q108))) 63) (w64 (x7 + 1)) (zg190.set x7.toNat (wu32 (wu64 ((wu64 ((wu64 q68) - x6)) - (wu64 q108))))) < mu34 x6 x7 zg190))))) ∧
      ((decide (x7 < (u1.length : Int))) = false →
        ((0 ≤ x7 ∧ x7 < (zg190.length : Int)) ∧
        (inv34 (bShr .u64 (wu64 ((wu64 q68) - x6)) 63) (w64 (x7 + 1)) (zg190.set x7.toNat (wu32 (wu64 ((wu64 q68) - x6)))) ∧ mu34 (bShr .u64 (wu64 ((wu64 q68) - x6)) 63) (w64 (x7 + 1)) (zg190.set x7.toNat (wu32 (wu64 ((wu64 q68) - x6)))) < mu34 x6 x7 zg190))))))) ∧
    ((decide (x7 < (u0.length : Int))) = false →
      ((gtrimS zg190).length ≤ 140737488355328 →
      (K (gtrimS zg190))))))))))

/-! Pure proofs: no program in sight. -/
theorem wu64_eq (x : Int) (h : 0 ≤ x ∧ x ≤ 18446744073709551615) : wu64 x = x := IntWalk.u64_in x h
theorem shr32 (n : Nat) : bShr .u64 (n : Int) 32 = ((n / 2 ^ 32 : Nat) : Int) := shru n 32 (by omega) .u64 (by decide)
theorem take_set_self {α : Type} (l : List α) (k : Nat) (x : α) : (l.set k x).take k = l.take k := by
  apply List.ext_getElem?
  intro j
  rw [List.getElem?_take, List.getElem?_take]
  split
  · rw [List.getElem?_set_ne (by omega)]
  · rfl
theorem wv_take_set {l : List Int} {k d : Nat} (h : k < l.length) : wv ((l.set k (d : Int)).take (k + 1)) = wv (l.take k) + 4294967296 ^ k * d := by
  have h1 : (l.set k (d : Int))[k]? = some (d : Int) := by rw [List.getElem?_set_self (by omega)]
  rw [wv_next h1, take_set_self]
theorem bor64 (x y : Nat) (hx : x < 18446744073709551616) (hy : y < 18446744073709551616) : bOr .u64 (x : Int) (y : Int) = ((x ||| y : Nat) : Int) := by
  have e : (BitVec.ofInt IntKind.u64.bits (x : Int) ||| BitVec.ofInt IntKind.u64.bits (y : Int)).toNat = x ||| y := by
    rw [BitVec.toNat_or]
    show (BitVec.ofInt 64 (x : Int)).toNat ||| (BitVec.ofInt 64 (y : Int)).toNat = _
    rw [ofInt_toNat x hx, ofInt_toNat y hy]
  unfold bOr
  rw [e]
  have := Nat.or_lt_two_pow (x := x) (y := y) (n := 64) hx hy
  exact wu64_eq _ (by omega)
theorem wu32_eq (n : Nat) (h : n < 4294967296) : wu32 (n : Int) = (n : Int) := by rw [wu32_nat, Nat.mod_eq_of_lt h]
theorem shlu (n s : Nat) (hs : s ≤ 64) (h : n * 2 ^ s < 18446744073709551616) : bShl .u64 (n : Int) (s : Int) = ((n * 2 ^ s : Nat) : Int) := by
  unfold bShl
  have e : min (s : Int).toNat IntKind.u64.bits = s := by rw [Int.toNat_natCast]; exact Nat.min_eq_left hs
  rw [e]
  have e2 : (n : Int) * 2 ^ s = ((n * 2 ^ s : Nat) : Int) := by norm_cast
  rw [e2]
  exact wu64_eq _ (by omega)
def gtwinS (l : List Int) : List Int := l
theorem gtwin_ok (l : List Int) (h : l.length ≤ 1000000) : gtwin_vc l (fun r => r = gtwinS l) := fun _ => ⟨by simp; omega, rfl⟩
def gwordsS (x : Int) : List Int := ws x.toNat
theorem gwords_ok (x : Int) (h : 0 ≤ x ∧ x ≤ 18446744073709551615) : gwords_vc x (fun r => r = gwordsS x) := by
  intro _
  obtain ⟨n, rfl⟩ : ∃ n : Nat, x = n := ⟨x.toNat, by omega⟩
  have e : bShr .u64 (n : Int) 32 = ((n / 2 ^ 32 : Nat) : Int) := shru n 32 (by omega) .u64 (by decide)
  rw [e, wu32_nat, wu32_nat]
  have hw : wok [((n % 4294967296 : Nat) : Int), ((n / 2 ^ 32 % 4294967296 : Nat) : Int)] := by
    intro y hy
    rcases List.mem_cons.1 hy with rfl | hy
    · omega
    · rw [List.mem_singleton.1 hy]; omega
  rw [gtrim_ws hw]
  unfold gwordsS
  congr 1
  simp only [wv, Int.toNat_natCast]
  omega
def gaddS (a b : List Int) : List Int := ws (wv a + wv b)
theorem gadd_loop (a b : List Int) (hab : b.length ≤ a.length) (ha : wok a) (hb : wok b) (hl : a.length ≤ 1000000) {Q : List Int → Prop} (hQ : ∀ l, l = ws (wv a + wv b) → Q l) :
      ((0 ≤ (w64 ((a.length : Int) + 1)) ∧ (w64 ((a.length : Int) + 1)) ≤ (w64 ((a.length : Int) + 1)) ∧ (w64 ((a.length : Int) + 1)) * 4 ≤ 140737488355328) ∧
      (∃ inv59 : Int → Int → (List Int) → Prop, ∃ mu59 : Int → Int → (List Int) → Nat, inv59 0 0 (List.replicate (w64 ((a.length : Int) + 1)).toNat (0 : Int)) ∧
      (∀ (x6 : Int) (x7 : Int) (zg430 : List Int), inv59 x6 x7 zg430 →
      (((decide (x7 < (a.length : Int))) = true →
        ((0 ≤ x7 ∧ x7 < (a.length : Int)) ∧
        (∀ q95, a[x7.toNat]? = some q95 →
        (((decide (x7 < (b.length : Int))) = true →
          ((0 ≤ x7 ∧ x7 < (b.length : Int)) ∧
          (∀ q134, b[x7.toNat]? = some q134 →
          ((0 ≤ x7 ∧ x7 < (zg430.length : Int)) ∧
          (inv59 (bShr .u64 (wu64 ((wu64 (x6 + (wu64 q95))) + (wu64 q134))) 32) (w64 (x7 + 1)) (zg430.set x7.toNat (wu32 (wu64 ((wu64 (x6 + (wu64 q95))) + (wu64 q134))))) ∧ mu59 (bShr .u64 (wu64 ((wu64 (x6 + (wu64 q95))) + (wu64 q134))) 32) (w64 (x7 + 1)) (zg430.set x7.toNat (wu32 (wu64 ((wu64 (x6 + (wu64 q95))) + (wu64 q134))))) < mu59 x6 x7 zg430))))) ∧
        ((decide (x7 < (b.length : Int))) = false →
          ((0 ≤ x7 ∧ x7 < (zg430.length : Int)) ∧
          (inv59 (bShr .u64 (wu64 (x6 + (wu64 q95))) 32) (w64 (x7 + 1)) (zg430.set x7.toNat (wu32 (wu64 (x6 + (wu64 q95))))) ∧ mu59 (bShr .u64 (wu64 (x6 + (wu64 q95))) 32) (w64 (x7 + 1)) (zg430.set x7.toNat (wu32 (wu64 (x6 + (wu64 q95))))) < mu59 x6 x7 zg430))))))) ∧
      ((decide (x7 < (a.length : Int))) = false →
        ((0 ≤ (a.length : Int) ∧ (a.length : Int) < (zg430.length : Int)) ∧
        ((gtrimS (zg430.set (a.length : Int).toNat (wu32 x6))).length ≤ 140737488355328 →
        (Q (gtrimS (zg430.set (a.length : Int).toNat (wu32 x6))))))))))) := by
  have e0 : w64 ((a.length : Int) + 1) = ((a.length + 1 : Nat) : Int) := w64_succ _ (by omega)
  rw [e0]
  refine ⟨by omega, fun c i z => ∃ (cn k : Nat), c = cn ∧ i = k ∧ k ≤ a.length ∧ cn ≤ 1 ∧ z.length = a.length + 1 ∧ wok z ∧ wv (z.take k) + 4294967296 ^ k * cn = wv (a.take k) + wv (b.take k), fun _ i _ => a.length - i.toNat, ⟨0, 0, rfl, rfl, by omega, by omega, by simp, wok_rep _, by simp [wv]⟩, ?_⟩
  rintro _ _ z ⟨c, k, rfl, rfl, hk, hc, hz, hw, hv⟩
  have hmax : k < a.length → ∀ s : Nat, s ≤ 8589934591 → ∀ p n : Nat, s = c + n + p → a[k]? = some (n : Int) → wv (b.take (k + 1)) = wv (b.take k) + 4294967296 ^ k * p →
      (∃ (cn j : Nat), bShr .u64 (s : Int) 32 = cn ∧ w64 ((k : Int) + 1) = j ∧ j ≤ a.length ∧ cn ≤ 1 ∧ (z.set k (wu32 (s : Int))).length = a.length + 1 ∧ wok (z.set k (wu32 (s : Int))) ∧ wv ((z.set k (wu32 (s : Int))).take j) + 4294967296 ^ j * cn = wv (a.take j) + wv (b.take j)) ∧ a.length - (w64 ((k : Int) + 1)).toNat < a.length - k := by
    intro hka s hs p n hsum hn hp
    rw [w64_succ k (by omega), wu32_nat, shr32 s]
    refine ⟨⟨s / 2 ^ 32, k + 1, rfl, rfl, by omega, by omega, by rw [List.length_set]; exact hz, wok_set hw _ _ (Nat.mod_lt _ (by decide)), ?_⟩, by rw [Int.toNat_natCast]; omega⟩
    rw [wv_take_set (by omega), wv_next hn, hp, Nat.pow_succ]
    have h1 : 4294967296 ^ k * s = 4294967296 ^ k * (s % 4294967296) + 4294967296 ^ k * 4294967296 * (s / 2 ^ 32) := by
      rw [Nat.mul_assoc, ← Nat.mul_add]
      congr 1
      omega
    have h2 : 4294967296 ^ k * s = 4294967296 ^ k * c + 4294967296 ^ k * n + 4294967296 ^ k * p := by rw [hsum, Nat.mul_add, Nat.mul_add]
    generalize 4294967296 ^ k * s = A1 at *
    omega
  refine ⟨fun h1 => ?_, fun h1 => ?_⟩
  · have hka : k < a.length := by have := of_decide_eq_true h1; omega
    refine ⟨by omega, fun q hq => ?_⟩
    rw [Int.toNat_natCast] at hq
    obtain ⟨n, rfl, hn⟩ := wok_at ha hq
    rw [wu64_eq (n : Int) (by omega), wu64_eq ((c : Int) + n) (by omega)]
    refine ⟨fun h2 => ⟨by have := of_decide_eq_true h2; omega, fun p hp => ⟨by omega, ?_⟩⟩, fun h2 => ⟨by omega, ?_⟩⟩
    · rw [Int.toNat_natCast] at hp ⊢
      obtain ⟨m, rfl, hm⟩ := wok_at hb hp
      rw [wu64_eq (m : Int) (by omega), wu64_eq ((c : Int) + n + m) (by omega)]
      exact hmax hka (c + n + m) (by omega) m n rfl hq (wv_next hp)
    · rw [Int.toNat_natCast]
      have hkb : b.length ≤ k := by have := of_decide_eq_false h2; omega
      refine hmax hka (c + n) (by omega) 0 n rfl hq ?_
      have t1 : b.take (k + 1) = b := List.take_of_length_le (by omega)
      have t2 : b.take k = b := List.take_of_length_le hkb
      rw [t1, t2]
      rfl
  · have hka : k = a.length := by have := of_decide_eq_false h1; omega
    subst hka
    refine ⟨by omega, fun _ => hQ _ ?_⟩
    rw [Int.toNat_natCast, wu32_nat, gtrim_ws (wok_set hw _ _ (Nat.mod_lt _ (by decide)))]
    congr 1
    have h2 := wv_take_set (l := z) (k := a.length) (d := c % 4294967296) (by omega)
    have t1 : (z.set a.length ((c % 4294967296 : Nat) : Int)).take (a.length + 1) = z.set a.length ((c % 4294967296 : Nat) : Int) := List.take_of_length_le (by rw [List.length_set]; omega)
    have t2 : b.take a.length = b := List.take_of_length_le hab
    rw [t1] at h2
    rw [List.take_length, t2] at hv
    rw [h2, Nat.mod_eq_of_lt (by omega)]
    exact hv
theorem gadd_ok (a b : List Int) (h : wok a ∧ wok b ∧ a.length ≤ 1000000 ∧ b.length ≤ 1000000) : gadd_vc a b (fun r => r = gaddS a b) := by
  obtain ⟨ha, hb, la, lb⟩ := h
  intro _ _
  refine ⟨fun h1 => ?_, fun h1 => ?_⟩
  · exact gadd_loop (Q := fun r => r = gaddS a b) b a (by have := of_decide_eq_true h1; omega) hb ha lb fun l h => by
      show l = ws (wv a + wv b)
      rw [h, Nat.add_comm]
  · exact gadd_loop (Q := fun r => r = gaddS a b) a b (by have := of_decide_eq_false h1; omega) ha hb la fun l h => h
def gmulS (a b : List Int) : List Int := ws (wv a * wv b)
theorem mul_lt32 {n p : Nat} (hn : n < 4294967296) (hp : p < 4294967296) : n * p ≤ 18446744065119617025 :=
  Nat.mul_le_mul (Nat.le_of_lt_succ hn) (Nat.le_of_lt_succ hp)
theorem gmul_ok (a b : List Int) (h : wok a ∧ wok b ∧ a.length ≤ 1000 ∧ b.length ≤ 1000) : gmul_vc a b (fun r => r = gmulS a b) := by
  obtain ⟨ha, hb, la, lb⟩ := h
  intro _ _
  refine ⟨fun h1 => ?_, fun h1 => ?_⟩
  · have : a = [] ∨ b = [] := by
      rcases (show ((a.length : Int) == 0) = true ∨ ((b.length : Int) == 0) = true by simpa only [Bool.or_eq_true] using h1) with h1 | h1
      · have h2 : (a.length : Int) = 0 := by simpa only [beq_iff_eq] using h1
        exact .inl (List.eq_nil_of_length_eq_zero (by omega))
      · have h2 : (b.length : Int) = 0 := by simpa only [beq_iff_eq] using h1
        exact .inr (List.eq_nil_of_length_eq_zero (by omega))
    unfold gmulS
    rcases this with rfl | rfl
    · rw [wv, Nat.zero_mul, ws_zero]
    · rw [wv, Nat.mul_zero, ws_zero]
  · have e0 : w64 ((a.length : Int) + (b.length : Int)) = ((a.length + b.length : Nat) : Int) := by rw [w64_eq _ (by omega)]; rfl
    rw [e0]
    refine ⟨by omega, fun i z => ∃ k : Nat, i = k ∧ k ≤ a.length ∧ z.length = a.length + b.length ∧ wok z ∧ wv z = wv (a.take k) * wv b ∧ ∀ j, k + b.length ≤ j → j < a.length + b.length → z[j]? = some 0, fun i _ => a.length - i.toNat, ⟨0, rfl, by omega, by rw [List.length_replicate, Int.toNat_natCast], wok_rep _, by rw [wv_rep]; simp [wv], fun j _ hj => by rw [Int.toNat_natCast, List.getElem?_replicate, if_pos hj]⟩, ?_⟩
    rintro _ z ⟨k, rfl, hk, hz, hw, hv, h0⟩
    refine ⟨fun h2 => ?_, fun h2 => ?_⟩
    · have hka : k < a.length := by have := of_decide_eq_true h2; omega
      obtain ⟨x, hx⟩ : ∃ x, a[k]? = some x := ⟨_, List.getElem?_eq_getElem hka⟩
      obtain ⟨n, rfl, hn⟩ := wok_at ha hx
      refine ⟨fun c j y => ∃ (cn m : Nat), c = cn ∧ j = m ∧ m ≤ b.length ∧ cn < 4294967296 ∧ y.length = a.length + b.length ∧ wok y ∧ wv y + 4294967296 ^ (k + m) * cn = wv z + 4294967296 ^ k * (n * wv (b.take m)) ∧ ∀ i, k + b.length ≤ i → i < a.length + b.length → y[i]? = some 0, fun _ j _ => b.length - j.toNat, ⟨0, 0, rfl, rfl, by omega, by omega, hz, hw, by simp [wv], h0⟩, ?_⟩
      rintro _ _ y ⟨c, m, rfl, rfl, hm, hc, hy, hwy, hvy, h0y⟩
      refine ⟨fun h3 => ?_, fun h3 => ?_⟩
      · have hmb : m < b.length := by have := of_decide_eq_true h3; omega
        have e1 : w64 ((k : Int) + (m : Int)) = ((k + m : Nat) : Int) := by rw [w64_eq _ (by omega)]; rfl
        rw [e1]
        refine ⟨by omega, fun q hq => ⟨by omega, fun p hp => ⟨by omega, fun t ht => ⟨by omega, ?_⟩⟩⟩⟩
        rw [Int.toNat_natCast] at hq hp ht ⊢
        rw [hx] at hq
        cases hq
        obtain ⟨p, rfl, hpp⟩ := wok_at hb hp
        obtain ⟨t, rfl, htt⟩ := wok_at hwy ht
        have hnp := mul_lt32 hn hpp
        have e2 : (n : Int) * (p : Int) = ((n * p : Nat) : Int) := by norm_cast
        rw [wu64_eq (n : Int) (by omega), wu64_eq (p : Int) (by omega), wu64_eq (t : Int) (by omega), e2]
        have hvb := wv_next hp
        generalize hs : n * p = np at *
        rw [wu64_eq (np : Int) (by omega), wu64_eq ((np : Int) + t) (by omega), wu64_eq ((c : Int) + ((np : Int) + t)) (by omega)]
        have e3 : ((c : Int) + ((np : Int) + t)) = ((c + (np + t) : Nat) : Int) := by norm_cast
        rw [e3, w64_succ m (by omega), wu32_nat, shr32]
        have hset := wv_set y (k + m) t ((c + (np + t)) % 4294967296) ht
        refine ⟨⟨(c + (np + t)) / 2 ^ 32, m + 1, rfl, rfl, by omega, by omega, by rw [List.length_set]; exact hy, wok_set hwy _ _ (Nat.mod_lt _ (by decide)), ?_, fun i hi1 hi2 => ?_⟩, by (try dsimp only); omega⟩
        · rw [hvb, Nat.mul_add, Nat.mul_add, ← Nat.add_assoc k m 1, Nat.pow_succ]
          have h4 : 4294967296 ^ k * (n * (4294967296 ^ m * p)) = 4294967296 ^ (k + m) * np := by
            rw [Nat.pow_add, Nat.mul_left_comm n, hs, Nat.mul_assoc]
          rw [h4]
          have h5 : 4294967296 ^ (k + m) * (c + (np + t)) = 4294967296 ^ (k + m) * ((c + (np + t)) % 4294967296) + 4294967296 ^ (k + m) * 4294967296 * ((c + (np + t)) / 2 ^ 32) := by
            rw [Nat.mul_assoc, ← Nat.mul_add]
            congr 1
            omega
          rw [Nat.mul_add, Nat.mul_add] at h5
          generalize 4294967296 ^ (k + m) * np = A1 at *
          generalize 4294967296 ^ (k + m) * t = A2 at *
          generalize 4294967296 ^ (k + m) * c = A3 at *
          generalize 4294967296 ^ (k + m) * ((c + (np + t)) % 4294967296) = A4 at *
          generalize 4294967296 ^ (k + m) * 4294967296 * ((c + (np + t)) / 2 ^ 32) = A5 at *
          generalize 4294967296 ^ k * (n * wv (b.take m)) = A6 at *
          omega
        · rw [List.getElem?_set_ne (by omega)]
          exact h0y i hi1 hi2
      · have hmb : m = b.length := by have := of_decide_eq_false h3; omega
        subst hmb
        have e1 : w64 ((k : Int) + (b.length : Int)) = ((k + b.length : Nat) : Int) := by rw [w64_eq _ (by omega)]; rfl
        have hz0 : y[k + b.length]? = some ((0 : Nat) : Int) := h0y (k + b.length) (by omega) (by omega)
        rw [e1]
        refine ⟨by omega, ?_⟩
        rw [Int.toNat_natCast, w64_succ k (by omega), wu32_eq c hc]
        have hset := wv_set y (k + b.length) 0 c hz0
        rw [Nat.mul_zero, Nat.add_zero] at hset
        refine ⟨⟨k + 1, rfl, by omega, by rw [List.length_set]; exact hy, wok_set hwy _ _ hc, ?_, fun j hj1 hj2 => ?_⟩, by (try dsimp only); omega⟩
        · rw [hset, hvy, List.take_length, wv_next hx, hv, Nat.add_mul, Nat.mul_assoc]
        · rw [List.getElem?_set_ne (by omega)]
          exact h0y j (by omega) hj2
    · have hka : k = a.length := by have := of_decide_eq_false h2; omega
      subst hka
      intro _
      rw [gtrim_ws hw, hv, List.take_length]
      rfl
theorem or_add {t lo r m : Nat} (ht : t < 2 ^ r) (hlo : lo = m * 2 ^ r) : t ||| lo = t + lo := by
  have := Nat.shiftLeft_add_eq_or_of_lt (i := r) (b := t) ht m
  rw [Nat.shiftLeft_eq, ← hlo] at this
  rw [Nat.or_comm, ← this, Nat.add_comm]
/-! ### Plain numbers, comparison, difference -/
def gplainS (l : List Int) : Int := ((wv l % 18446744073709551616 : Nat) : Int)
theorem gplain_ok (l : List Int) (h : wok l) : gplain_vc l (fun r => r = gplainS l) := by
  intro _
  unfold gplainS
  have key : ∀ n m : Nat, n < 4294967296 → m < 4294967296 → bOr .u64 (n : Int) (bShl .u64 (m : Int) 32) = ((n + 4294967296 * m : Nat) : Int) := by
    intro n m hn hm
    have e1 : bShl .u64 (m : Int) 32 = ((m * 2 ^ 32 : Nat) : Int) := shlu m 32 (by omega) (by omega)
    rw [e1, bor64 n _ (by omega) (by omega), or_add (r := 32) hn rfl]
    congr 1
    omega
  cases l with
  | nil => exact ⟨fun h1 => (by cases h1), fun _ => ⟨fun h1 => (by cases h1), fun _ => rfl⟩⟩
  | cons a l =>
    obtain ⟨h1, h2⟩ := wok_cons h
    obtain ⟨a, rfl⟩ : ∃ n : Nat, a = n := ⟨a.toNat, by omega⟩
    refine ⟨fun _ => ⟨by (simp <;> omega), fun q hq => ?_⟩, fun h3 => ?_⟩
    · cases hq
      rw [wu64_eq (a : Int) (by omega)]
      cases l with
      | nil => exact ⟨fun h3 => absurd h3 (by simp), fun _ => by simp only [wv, Int.toNat_natCast, Nat.mul_zero, Nat.add_zero]; rw [Nat.mod_eq_of_lt (by omega)]⟩
      | cons b l =>
        obtain ⟨h3, h4⟩ := wok_cons h2
        obtain ⟨b, rfl⟩ : ∃ n : Nat, b = n := ⟨b.toNat, by omega⟩
        refine ⟨fun _ => ⟨by (simp <;> omega), fun p hp => ?_⟩, fun h5 => absurd (of_decide_eq_false h5) (by simp <;> omega)⟩
        cases hp
        rw [wu64_eq (b : Int) (by omega), key a b (by omega) (by omega)]
        simp only [wv, Int.toNat_natCast]
        congr 2
        omega
    · exact absurd (of_decide_eq_false h3) (by simp <;> omega)
theorem ws_ge {n : Nat} (h : n ≠ 0) : 4294967296 ^ ((ws n).length - 1) ≤ n := by
  obtain ⟨p, q, hp, hq, _⟩ := ws_last h
  have e := wv_ws n
  rw [hp, wv_append] at e
  rw [hp, List.length_append, List.length_singleton, Nat.add_sub_cancel]
  simp only [wv, Int.toNat_natCast, Nat.mul_zero, Nat.add_zero] at e
  have : 4294967296 ^ p.length * 1 ≤ 4294967296 ^ p.length * q := Nat.mul_le_mul_left _ (by omega)
  omega
theorem ws_nil {n : Nat} : ws n = [] ↔ n = 0 := by
  constructor
  · intro h
    rw [← wv_ws n, h]
    rfl
  · rintro rfl
    exact ws_zero
theorem ws_len0 {n : Nat} : (ws n).length = 0 ↔ n = 0 := by rw [List.length_eq_zero_iff, ws_nil]
theorem ws_lt_len {n m : Nat} (h : (ws n).length < (ws m).length) : n < m := by
  have hm : m ≠ 0 := by
    rintro rfl
    rw [ws_zero] at h
    exact absurd h (Nat.not_lt_zero _)
  have h1 := wv_lt (ws_wok n)
  rw [wv_ws] at h1
  have h2 := ws_ge hm
  have h3 : 4294967296 ^ (ws n).length ≤ 4294967296 ^ ((ws m).length - 1) := Nat.pow_le_pow_right (by omega) (by omega)
  omega
theorem wv_split (l : List Int) (k : Nat) (hk : k ≤ l.length) : wv l = wv (l.take k) + 4294967296 ^ k * wv (l.drop k) := by
  have := wv_append (l.take k) (l.drop k)
  rw [List.take_append_drop, List.length_take, Nat.min_eq_left hk] at this
  exact this
theorem wv_top {l : List Int} {k : Nat} {q : Int} (h : l[k]? = some q) : wv l = wv (l.take k) + 4294967296 ^ k * (q.toNat + 4294967296 * wv (l.drop (k + 1))) := by
  obtain ⟨hk, he⟩ := List.getElem?_eq_some_iff.1 h
  rw [wv_split l k (by omega), List.drop_eq_getElem_cons hk, he]
  rfl
def gcmpS (a b : List Int) : Int := if wv a < wv b then -1 else if wv b < wv a then 1 else 0
theorem gcmp_ok (a b : List Int) (h : a.length ≤ 1000 ∧ b.length ≤ 1000 ∧ a = ws (wv a) ∧ b = ws (wv b)) : gcmp_vc a b (fun r => r = gcmpS a b) := by
  intro _ _
  obtain ⟨h1, h2, ha, hb⟩ := h
  have wa : wok a := by rw [ha]; exact ws_wok _
  have wb : wok b := by rw [hb]; exact ws_wok _
  unfold gcmpS
  refine ⟨fun h3 => ⟨fun h4 => ?_, fun h4 => ?_⟩, fun h3 => ?_⟩
  · have h4 := of_decide_eq_true h4
    have : wv a < wv b := ws_lt_len (by rw [← ha, ← hb]; omega)
    rw [if_pos this]
  · have h4 := of_decide_eq_false h4
    have h3 : ¬ (a.length : Int) = b.length := by simpa using h3
    have : wv b < wv a := ws_lt_len (by rw [← ha, ← hb]; omega)
    rw [if_neg (by omega), if_pos this]
  · have h3 : (a.length : Int) = b.length := by simpa using h3
    refine ⟨fun i => ∃ k : Nat, i = (k : Int) - 1 ∧ k ≤ a.length ∧ a.drop k = b.drop k, fun i => (i + 1).toNat, ⟨a.length, w64_eq _ (by omega), by omega, ?_⟩, ?_⟩
    · rw [List.drop_eq_nil_of_le (by omega), List.drop_eq_nil_of_le (by omega)]
    · rintro _ ⟨k, rfl, hk, he⟩
      refine ⟨fun h5 => ?_, fun h5 => ?_⟩
      · have h5 := of_decide_eq_true h5
        obtain ⟨k, rfl⟩ : ∃ n, k = n + 1 := ⟨k - 1, by omega⟩
        have e : (((k + 1 : Nat) : Int) - 1) = k := by omega
        rw [e] at *
        refine ⟨by omega, fun p hp => ⟨by omega, fun q hq => ?_⟩⟩
        rw [Int.toNat_natCast] at hp hq
        have ep := wv_top hp
        have eq := wv_top hq
        rw [he] at ep
        have lp := wv_lt (wok_take wa k)
        have lq := wv_lt (wok_take wb k)
        rw [List.length_take, Nat.min_eq_left (by omega)] at lp lq
        obtain ⟨p, rfl, hp2⟩ := wok_at wa hp
        obtain ⟨q, rfl, hq2⟩ := wok_at wb hq
        rw [Int.toNat_natCast] at ep eq
        refine ⟨fun h6 => ⟨by omega, fun p' hp' => ⟨by omega, fun q' hq' => ?_⟩⟩, fun h6 => ?_⟩
        · rw [Int.toNat_natCast, hp] at hp'
          rw [Int.toNat_natCast, hq] at hq'
          cases hp'
          cases hq'
          have h6 : ¬ p = q := fun hc => by subst hc; simp at h6
          have key : ∀ {x y : Nat}, x < y → ∀ {u v : Nat}, u < 4294967296 ^ k → ∀ r, u + 4294967296 ^ k * (x + 4294967296 * r) < v + 4294967296 ^ k * (y + 4294967296 * r) := by
            intro x y hxy u v hu r
            have : 4294967296 ^ k * (x + 4294967296 * r + 1) ≤ 4294967296 ^ k * (y + 4294967296 * r) := Nat.mul_le_mul_left _ (by omega)
            rw [Nat.mul_add, Nat.mul_one] at this
            omega
          refine ⟨fun h7 => ?_, fun h7 => ?_⟩
          · have h7 := of_decide_eq_true h7
            have : wv a < wv b := by rw [ep, eq]; exact key (by omega) lp _
            rw [if_pos this]
          · have h7 := of_decide_eq_false h7
            have : wv b < wv a := by rw [ep, eq]; exact key (by omega) lq _
            rw [if_neg (by omega), if_pos this]
        · have h6 : (p : Int) = q := by simpa using h6
          have h6 : p = q := by omega
          subst h6
          refine ⟨⟨k, ?_, by omega, ?_⟩, ?_⟩
          · rw [w64_eq _ (by omega)]
          · obtain ⟨k1, e1⟩ := List.getElem?_eq_some_iff.1 hp
            obtain ⟨k2, e2⟩ := List.getElem?_eq_some_iff.1 hq
            rw [List.drop_eq_getElem_cons k1, List.drop_eq_getElem_cons k2, e1, e2, he]
          · rw [w64_eq _ (by omega)]
            (try dsimp only)
            omega
      · have h5 := of_decide_eq_false h5
        have e : k = 0 := by omega
        subst e
        rw [List.drop_zero, List.drop_zero] at he
        rw [he, if_neg (Nat.lt_irrefl _), if_neg (Nat.lt_irrefl _)]
def gsubS (a b : List Int) : List Int := ws (wv a - wv b)
theorem wu64_neg (x : Int) (h : -18446744073709551616 ≤ x ∧ x < 0) : wu64 x = x + 18446744073709551616 := by
  show IntKind.u64.wrap x = _
  simp [IntKind.wrap, IntKind.bits, IntKind.signed]
  omega
theorem wu64_less (x y : Int) (hx : -18446744073709551616 ≤ x ∧ x ≤ 18446744073709551615) (hy : 0 ≤ y ∧ y ≤ 4294967296) : wu64 (wu64 x - y) = wu64 (x - y) := by
  show IntKind.u64.wrap (IntKind.u64.wrap x - y) = IntKind.u64.wrap (x - y)
  simp [IntKind.wrap, IntKind.bits, IntKind.signed]
theorem borrow (d : Int) (h : -4294967296 ≤ d ∧ d < 4294967296) : ∃ r c : Nat, wu32 (wu64 d) = (r : Int) ∧ bShr .u64 (wu64 d) 63 = (c : Int) ∧ r < 4294967296 ∧ c ≤ 1 ∧ d + 4294967296 * c = r := by
  by_cases hd : 0 ≤ d
  · obtain ⟨n, rfl⟩ : ∃ n : Nat, d = n := ⟨d.toNat, by omega⟩
    have e : bShr .u64 (n : Int) 63 = ((n / 2 ^ 63 : Nat) : Int) := shru n 63 (by omega) .u64 (by decide)
    rw [wu64_eq (n : Int) (by omega), wu32_nat, e]
    exact ⟨_, _, rfl, rfl, Nat.mod_lt _ (by decide), by omega, by omega⟩
  · rw [wu64_neg d (by omega)]
    obtain ⟨n, hn⟩ : ∃ n : Nat, d + 18446744073709551616 = n := ⟨(d + 18446744073709551616).toNat, by omega⟩
    have e : bShr .u64 (n : Int) 63 = ((n / 2 ^ 63 : Nat) : Int) := shru n 63 (by omega) .u64 (by decide)
    rw [hn, wu32_nat, e]
    exact ⟨_, _, rfl, rfl, Nat.mod_lt _ (by decide), by omega, by omega⟩
theorem gsub_ok (a b : List Int) (h : wok a ∧ wok b ∧ a.length ≤ 1000 ∧ b.length ≤ a.length ∧ wv b ≤ wv a) : gsub_vc a b (fun r => r = gsubS a b) := by
  obtain ⟨ha, hb, hl, hab, hle⟩ := h
  intro _ _
  refine ⟨by omega, fun c i z => ∃ (cn k : Nat), c = cn ∧ i = k ∧ k ≤ a.length ∧ cn ≤ 1 ∧ z.length = a.length ∧ wok z ∧ wv (z.take k) + wv (b.take k) = wv (a.take k) + 4294967296 ^ k * cn, fun _ i _ => a.length - i.toNat, ⟨0, 0, rfl, rfl, by omega, by omega, by simp, wok_rep _, by simp [wv]⟩, ?_⟩
  rintro _ _ z ⟨c, k, rfl, rfl, hk, hc, hz, hw, hv⟩
  have hmax : k < a.length → ∀ (d : Int) (p n : Nat), n < 4294967296 → p < 4294967296 → d = (n : Int) - c - p → a[k]? = some (n : Int) → wv (b.take (k + 1)) = wv (b.take k) + 4294967296 ^ k * p →
      (∃ (cn j : Nat), bShr .u64 (wu64 d) 63 = cn ∧ w64 ((k : Int) + 1) = j ∧ j ≤ a.length ∧ cn ≤ 1 ∧ (z.set k (wu32 (wu64 d))).length = a.length ∧ wok (z.set k (wu32 (wu64 d))) ∧ wv ((z.set k (wu32 (wu64 d))).take j) + wv (b.take j) = wv (a.take j) + 4294967296 ^ j * cn) ∧ a.length - (w64 ((k : Int) + 1)).toNat < a.length - k := by
    intro hka d p n hn0 hp0 hd hn hp
    obtain ⟨r, cn, e1, e2, hr, hcn, hrel⟩ := borrow d (by omega)
    rw [e1, e2, w64_succ k (by omega)]
    refine ⟨⟨cn, k + 1, rfl, rfl, by omega, hcn, by rw [List.length_set]; exact hz, wok_set hw _ _ hr, ?_⟩, by rw [Int.toNat_natCast]; omega⟩
    rw [wv_take_set (by omega), wv_next hn, hp, Nat.pow_succ]
    have h1 : r + c + p = n + 4294967296 * cn := by omega
    have h2 : 4294967296 ^ k * r + 4294967296 ^ k * c + 4294967296 ^ k * p = 4294967296 ^ k * n + 4294967296 ^ k * 4294967296 * cn := by
      rw [Nat.mul_assoc, ← Nat.mul_add, ← Nat.mul_add, ← Nat.mul_add, h1]
    generalize 4294967296 ^ k * 4294967296 * cn = A1 at *
    omega
  refine ⟨fun h1 => ?_, fun h1 => ?_⟩
  · have hka : k < a.length := by have := of_decide_eq_true h1; omega
    refine ⟨by omega, fun q hq => ?_⟩
    rw [Int.toNat_natCast] at hq
    obtain ⟨n, rfl, hn⟩ := wok_at ha hq
    rw [wu64_eq (n : Int) (by omega)]
    refine ⟨fun h2 => ⟨by have := of_decide_eq_true h2; omega, fun p hp => ⟨by omega, ?_⟩⟩, fun h2 => ⟨by omega, ?_⟩⟩
    · rw [Int.toNat_natCast] at hp ⊢
      obtain ⟨m, rfl, hm⟩ := wok_at hb hp
      rw [wu64_eq (m : Int) (by omega), wu64_less _ _ (by omega) (by omega)]
      exact hmax hka _ m n hn hm rfl hq (wv_next hp)
    · rw [Int.toNat_natCast]
      have hkb : b.length ≤ k := by have := of_decide_eq_false h2; omega
      refine hmax hka _ 0 n hn (by omega) (by omega) hq ?_
      have t1 : b.take (k + 1) = b := List.take_of_length_le (by omega)
      have t2 : b.take k = b := List.take_of_length_le hkb
      rw [t1, t2]
      rfl
  · have hka : k = a.length := by have := of_decide_eq_false h1; omega
    subst hka
    intro _
    rw [gtrim_ws hw]
    unfold gsubS
    have t1 : z.take a.length = z := List.take_of_length_le (by omega)
    have t2 : b.take a.length = b := List.take_of_length_le hab
    rw [List.take_length, t1, t2] at hv
    have hzl := wv_lt hw
    rw [hz] at hzl
    have hc0 : c = 0 := by
      rcases Nat.lt_or_ge c 1 with h | h
      · omega
      · have : c = 1 := by omega
        subst this
        omega
    subst hc0
    congr 1
    omega

end Go.Proofs.YtdndfbamhnchfaaGreatDoor
set_option linter.unusedVariables false
set_option linter.unusedSimpArgs false
namespace Go.Proofs.YtdndfbamhnchfaaGreatDoor
open Go.Sy Go.RowKit
def gdiv_vc (u0 : List Int) (u1 : List Int) (K : ((List Int) × (List Int)) → Prop) : Prop :=
  (u0.length ≤ 140737488355328 →
    (u1.length ≤ 140737488355328 →
    ((((u1.length : Int) == 0) = false) ∧
    ((u0.length ≤ 1000 ∧ u1.length ≤ 1000 ∧ u0 = ws (wv u0) ∧ u1 = ws (wv u1)) ∧
    (((decide ((gcmpS u0 u1) < 0)) = true →
      ((u0.length ≤ 1000000) ∧
      ((gtwinS u0).length ≤ 140737488355328 →
      (K ([], (gtwinS u0)))))) ∧
    ((decide ((gcmpS u0 u1) < 0)) = false →
      (((decide ((u0.length : Int) ≤ 2)) = true) ∧
      ((wok u0) ∧
      ((wok u1) ∧
      (((gplainS u1) ≠ 0) ∧
      (((gplainS u1) ≠ 0) ∧
      ((0 ≤ (wu64 ((gplainS u0).tdiv (gplainS u1))) ∧ (wu64 ((gplainS u0).tdiv (gplainS u1))) ≤ 18446744073709551615) ∧
      ((0 ≤ ((gplainS u0).tmod (gplainS u1)) ∧ ((gplainS u0).tmod (gplainS u1)) ≤ 18446744073709551615) ∧
      (K ((gwordsS (wu64 ((gplainS u0).tdiv (gplainS u1)))), (gwordsS ((gplainS u0).tmod (gplainS u1))))))))))))))))))

def gcom_vc (u0 : List Int) (u1 : List Int) (K : (List Int) → Prop) : Prop :=
  (u0.length ≤ 140737488355328 →
    (u1.length ≤ 140737488355328 →
    (∃ inv13 : (List Int) → (List Int) → Prop, ∃ mu13 : (List Int) → (List Int) → Nat, inv13 u0 u1 ∧
    (∀ (x0 : List Int) (x1 : List Int), inv13 x0 x1 →
    (((decide ((x1.length : Int) > 2)) = false) ∧
    ((((x1.length : Int) == 0) = true →
      (K x0)) ∧
    (((x1.length : Int) == 0) = false →
      (((decide ((x0.length : Int) > 2)) = false) ∧
      ((wok x0) ∧
      ((wok x1) ∧
      (∃ inv83 : Int → Int → Prop, ∃ mu83 : Int → Int → Nat, inv83 (gplainS x0) (gplainS x1) ∧
      (∀ (x9 : Int) (x10 : Int), inv83 x9 x10 →
      (((decide (x10 > 0)) = true →
        ((x10 ≠ 0) ∧
        (inv83 x10 (x9.tmod x10) ∧ mu83 x10 (x9.tmod x10) < mu83 x9 x10))) ∧
      ((decide (x10 > 0)) = false →
        ((0 ≤ x9 ∧ x9 ≤ 18446744073709551615) ∧
        ((gwordsS x9).length ≤ 140737488355328 →
        (K (gwordsS x9))))))))))))))))))

def gsum_vc (u0 : Bool) (u1 : List Int) (u2 : Bool) (u3 : List Int) (K : (Bool × (List Int)) → Prop) : Prop :=
  (u1.length ≤ 140737488355328 →
    (u3.length ≤ 140737488355328 →
    (((u0 == u2) = true →
      ((wok u1 ∧ wok u3 ∧ u1.length ≤ 1000000 ∧ u3.length ≤ 1000000) ∧
      ((gaddS u1 u3).length ≤ 140737488355328 →
      (K (u0, (gaddS u1 u3)))))) ∧
    ((u0 == u2) = false →
      ((u1.length ≤ 1000 ∧ u3.length ≤ 1000 ∧ u1 = ws (wv u1) ∧ u3 = ws (wv u3)) ∧
      (((decide ((gcmpS u1 u3) ≥ 0)) = true →
        ((wok u1 ∧ wok u3 ∧ u1.length ≤ 1000 ∧ u3.length ≤ u1.length ∧ wv u3 ≤ wv u1) ∧
        ((gsubS u1 u3).length ≤ 140737488355328 →
        (K (u0, (gsubS u1 u3)))))) ∧
      ((decide ((gcmpS u1 u3) ≥ 0)) = false →
        ((wok u3 ∧ wok u1 ∧ u3.length ≤ 1000 ∧ u1.length ≤ u3.length ∧ wv u1 ≤ wv u3) ∧
        ((gsubS u3 u1).length ≤ 140737488355328 →
        (K (u2, (gsubS u3 u1))))))))))))

def ggive_vc (u0 : BInt) (u1 : Bool) (u2 : List Int) (K : BInt → Prop) : Prop :=
  (u0.abs.length ≤ 140737488355328 →
    (u2.length ≤ 140737488355328 →
    (K (⟨u1 && (decide ((u2.length : Int) > 0)), u2⟩ : BInt))))
def ggive (u0 : BInt) (u1 : Bool) (u2 : List Int) : BInt :=
  (⟨u1 && (decide ((u2.length : Int) > 0)), u2⟩ : BInt)
theorem ggive_ok (u0 : BInt) (u1 : Bool) (u2 : List Int) : ggive_vc u0 u1 u2 (fun r => r = ggive u0 u1 u2) := (fun _ => (fun _ => (by rfl)))

def ggiveA_vc (u0 : BRat) (u1 : Bool) (u2 : List Int) (K : BRat → Prop) : Prop :=
  (u0.a.abs.length ≤ 140737488355328 →
    (u0.b.abs.length ≤ 140737488355328 →
    (u2.length ≤ 140737488355328 →
    (K (⟨(⟨u1 && (decide ((u2.length : Int) > 0)), u2⟩ : BInt), u0.b⟩ : BRat)))))
def ggiveA (u0 : BRat) (u1 : Bool) (u2 : List Int) : BRat :=
  (⟨(⟨u1 && (decide ((u2.length : Int) > 0)), u2⟩ : BInt), u0.b⟩ : BRat)
theorem ggiveA_ok (u0 : BRat) (u1 : Bool) (u2 : List Int) : ggiveA_vc u0 u1 u2 (fun r => r = ggiveA u0 u1 u2) := (fun _ => (fun _ => (fun _ => (by rfl))))

def ggiveB_vc (u0 : BRat) (u1 : Bool) (u2 : List Int) (K : BRat → Prop) : Prop :=
  (u0.a.abs.length ≤ 140737488355328 →
    (u0.b.abs.length ≤ 140737488355328 →
    (u2.length ≤ 140737488355328 →
    (K (⟨u0.a, (⟨u1 && (decide ((u2.length : Int) > 0)), u2⟩ : BInt)⟩ : BRat)))))
def ggiveB (u0 : BRat) (u1 : Bool) (u2 : List Int) : BRat :=
  (⟨u0.a, (⟨u1 && (decide ((u2.length : Int) > 0)), u2⟩ : BInt)⟩ : BRat)
theorem ggiveB_ok (u0 : BRat) (u1 : Bool) (u2 : List Int) : ggiveB_vc u0 u1 u2 (fun r => r = ggiveB u0 u1 u2) := (fun _ => (fun _ => (fun _ => (by rfl))))

def gnew_vc (u0 : Int) (K : BInt → Prop) : Prop :=
  (((decide (u0 < 0)) = true →
      ((0 ≤ (wu64 (0 - (wu64 u0))) ∧ (wu64 (0 - (wu64 u0))) ≤ 18446744073709551615) ∧
      ((gwordsS (wu64 (0 - (wu64 u0)))).length ≤ 140737488355328 →
      (∀ r65, (ggive (⟨false, []⟩ : BInt) (decide (u0 < 0)) (gwordsS (wu64 (0 - (wu64 u0))))) = r65 →
      (r65.abs.length ≤ 140737488355328 →
      (K r65)))))) ∧
    ((decide (u0 < 0)) = false →
      ((0 ≤ (wu64 u0) ∧ (wu64 u0) ≤ 18446744073709551615) ∧
      ((gwordsS (wu64 u0)).length ≤ 140737488355328 →
      (∀ r110, (ggive (⟨false, []⟩ : BInt) (decide (u0 < 0)) (gwordsS (wu64 u0))) = r110 →
      (r110.abs.length ≤ 140737488355328 →
      (K r110)))))))

def rden_vc (u0 : BRat) (K : BRat → Prop) : Prop :=
  (u0.a.abs.length ≤ 140737488355328 →
    (u0.b.abs.length ≤ 140737488355328 →
    ((((u0.b.abs.length : Int) == 0) = false) ∧
    (K u0))))

def gnegA_vc (u0 : BRat) (K : BRat → Prop) : Prop :=
  (u0.a.abs.length ≤ 140737488355328 →
    (u0.b.abs.length ≤ 140737488355328 →
    ((u0.a.abs.length ≤ 1000000) ∧
    (K (ggiveA u0 (!u0.a.neg) (gtwinS u0.a.abs))))))

def gnegB_vc (u0 : BRat) (K : BRat → Prop) : Prop :=
  (u0.a.abs.length ≤ 140737488355328 →
    (u0.b.abs.length ≤ 140737488355328 →
    ((u0.b.abs.length ≤ 1000000) ∧
    (K (ggiveB u0 (!u0.b.neg) (gtwinS u0.b.abs))))))

/-! Pure proofs: no program in sight. -/
/-! ### Quotient, common divisor, sum; whole numbers with a sign -/
def gdivS (a b : List Int) : List Int × List Int := (ws (wv a / wv b), ws (wv a % wv b))
theorem gplain_small {l : List Int} (h : wv l < 18446744073709551616) : gplainS l = (wv l : Int) := by
  unfold gplainS
  rw [Nat.mod_eq_of_lt h]
theorem ws_two {n : Nat} (h : n < 18446744073709551616) : (ws n).length ≤ 2 := ws_len 2 n h
theorem can_wok {l : List Int} (h : l = ws (wv l)) : wok l := by rw [h]; exact ws_wok _
theorem can_two {l : List Int} (h : l = ws (wv l)) (hl : wv l < 18446744073709551616) : l.length ≤ 2 := by rw [h]; exact ws_two hl
theorem gdiv_ok (a b : List Int) (h : a = ws (wv a) ∧ b = ws (wv b) ∧ wv a < 18446744073709551616 ∧ wv b < 18446744073709551616 ∧ 0 < wv b) : gdiv_vc a b (fun r => r = gdivS a b) := by
  obtain ⟨ha, hb, la, lb, h0⟩ := h
  have a2 := can_two ha la
  have b2 := can_two hb lb
  intro _ _
  have hb0 : b.length ≠ 0 := by
    intro hc
    rw [List.length_eq_zero_iff] at hc
    rw [hc] at h0
    exact absurd h0 (Nat.not_lt_zero _)
  unfold gdivS
  refine ⟨by rw [beq_eq_false_iff_ne]; omega, ⟨by omega, by omega, ha, hb⟩, fun h1 => ⟨by omega, fun _ => ?_⟩, fun h1 => ⟨by rw [decide_eq_true_eq]; omega, can_wok ha, can_wok hb, ?_⟩⟩
  · have h1 := of_decide_eq_true h1
    have hlt : wv a < wv b := by
      unfold gcmpS at h1
      split at h1
      · assumption
      · split at h1 <;> omega
    rw [Nat.div_eq_of_lt hlt, Nat.mod_eq_of_lt hlt, ws_zero, ← ha]
    rfl
  · rw [gplain_small la, gplain_small lb]
    have e1 : ((wv a : Nat) : Int).tdiv ((wv b : Nat) : Int) = ((wv a / wv b : Nat) : Int) := by rw [Int.tdiv_eq_ediv_of_nonneg (by omega)]; norm_cast
    have e2 : ((wv a : Nat) : Int).tmod ((wv b : Nat) : Int) = ((wv a % wv b : Nat) : Int) := by rw [Int.tmod_eq_emod_of_nonneg (by omega)]; norm_cast
    have l1 : wv a / wv b ≤ wv a := Nat.div_le_self _ _
    have l2 : wv a % wv b < wv b := Nat.mod_lt _ h0
    rw [e1, e2]
    generalize wv a / wv b = Q at *
    generalize wv a % wv b = R at *
    rw [wu64_eq _ (by omega)]
    refine ⟨by omega, by omega, by omega, by omega, ?_⟩
    unfold gwordsS
    rw [Int.toNat_natCast, Int.toNat_natCast]
def gcomS (a b : List Int) : List Int := ws (Nat.gcd (wv a) (wv b))
theorem gcom_ok (a b : List Int) (h : a = ws (wv a) ∧ b = ws (wv b) ∧ wv a < 18446744073709551616 ∧ wv b < 18446744073709551616) : gcom_vc a b (fun r => r = gcomS a b) := by
  obtain ⟨ha, hb, la, lb⟩ := h
  have a2 := can_two ha la
  have b2 := can_two hb lb
  intro _ _
  unfold gcomS
  refine ⟨fun x y => x = a ∧ y = b, fun _ _ => 0, ⟨rfl, rfl⟩, ?_⟩
  rintro x y ⟨hx, hy⟩
  rw [hx, hy]
  clear hx hy
  refine ⟨by rw [decide_eq_false_iff_not]; omega, fun h1 => ?_, fun h1 => ⟨by rw [decide_eq_false_iff_not]; omega, can_wok ha, can_wok hb, fun x y => ∃ p q : Nat, x = p ∧ y = q ∧ p < 18446744073709551616 ∧ q < 18446744073709551616 ∧ Nat.gcd p q = Nat.gcd (wv a) (wv b), fun _ y => y.toNat, ⟨_, _, gplain_small la, gplain_small lb, la, lb, rfl⟩, ?_⟩⟩
  · have h1 : b.length = 0 := by have : (b.length : Int) = 0 := by simpa using h1
                                 omega
    rw [List.length_eq_zero_iff] at h1
    subst h1
    show a = ws (Nat.gcd (wv a) 0)
    rw [Nat.gcd_zero_right]
    exact ha
  · rintro _ _ ⟨p, q, rfl, rfl, hp, hq, hg⟩
    refine ⟨fun h2 => ⟨by have := of_decide_eq_true h2; omega, ⟨q, p % q, rfl, ?_, hq, ?_, ?_⟩, ?_⟩, fun h2 => ⟨by omega, fun _ => ?_⟩⟩
    · rw [Int.tmod_eq_emod_of_nonneg (by omega)]
      norm_cast
    · have := of_decide_eq_true h2
      have : p % q < q := Nat.mod_lt _ (by omega)
      omega
    · rw [← hg, Nat.gcd_comm p q, Nat.gcd_rec q p, Nat.gcd_comm]
    · have := of_decide_eq_true h2
      have e : ((p : Nat) : Int).tmod ((q : Nat) : Int) = ((p % q : Nat) : Int) := by rw [Int.tmod_eq_emod_of_nonneg (by omega)]; norm_cast
      rw [e]
      have : p % q < q := Nat.mod_lt _ (by omega)
      (try dsimp only)
      omega
    · have := of_decide_eq_false h2
      have hq0 : q = 0 := by omega
      subst hq0
      rw [Nat.gcd_zero_right] at hg
      unfold gwordsS
      rw [Int.toNat_natCast, hg]
def gsumS (xn : Bool) (xa : List Int) (yn : Bool) (ya : List Int) : Bool × List Int :=
  if xn = yn then (xn, ws (wv xa + wv ya)) else if wv ya ≤ wv xa then (xn, ws (wv xa - wv ya)) else (yn, ws (wv ya - wv xa))
theorem len_le_of {a b : List Int} (ha : a = ws (wv a)) (hb : b = ws (wv b)) (h : wv b ≤ wv a) : b.length ≤ a.length := by
  rcases Nat.lt_or_ge a.length b.length with hc | hc
  · have : wv a < wv b := ws_lt_len (by rw [← ha, ← hb]; exact hc)
    omega
  · exact hc
theorem gsum_ok (xn : Bool) (xa : List Int) (yn : Bool) (ya : List Int) (h : xa = ws (wv xa) ∧ ya = ws (wv ya) ∧ wv xa < 18446744073709551616 ∧ wv ya < 18446744073709551616) : gsum_vc xn xa yn ya (fun r => r = gsumS xn xa yn ya) := by
  obtain ⟨ha, hb, la, lb⟩ := h
  have a2 := can_two ha la
  have b2 := can_two hb lb
  intro _ _
  unfold gsumS
  refine ⟨fun h1 => ⟨⟨can_wok ha, can_wok hb, by omega, by omega⟩, fun _ => ?_⟩, fun h1 => ⟨⟨by omega, by omega, ha, hb⟩, fun h2 => ?_, fun h2 => ?_⟩⟩
  · rw [if_pos (by simpa using h1)]
    rfl
  · have h2 := of_decide_eq_true h2
    have hle : wv ya ≤ wv xa := by
      unfold gcmpS at h2
      split at h2
      · omega
      · omega
    refine ⟨⟨can_wok ha, can_wok hb, by omega, len_le_of ha hb hle, hle⟩, fun _ => ?_⟩
    rw [if_neg (by simpa using h1), if_pos hle]
    rfl
  · have h2 := of_decide_eq_false h2
    have hle : wv xa < wv ya := by
      unfold gcmpS at h2
      split at h2
      · assumption
      · split at h2 <;> omega
    refine ⟨⟨can_wok hb, can_wok ha, by omega, len_le_of hb ha (by omega), by omega⟩, fun _ => ?_⟩
    rw [if_neg (by simpa using h1), if_neg (by omega)]
    rfl
/-- A whole number as it lies in words. -/
def bz (z : Int) : BInt := ⟨decide (z < 0), ws z.natAbs⟩
def iv (x : BInt) : Int := if x.neg = true then -(wv x.abs : Int) else (wv x.abs : Int)
def bk (x : BInt) : Prop := x = bz (iv x) ∧ (iv x).natAbs < 18446744073709551616
theorem iv_bz (z : Int) : iv (bz z) = z := by
  unfold iv bz
  dsimp only
  rw [wv_ws]
  by_cases h : z < 0
  · rw [decide_eq_true h, if_pos rfl]
    omega
  · rw [decide_eq_false h, if_neg (by simp)]
    omega
theorem bk_bz {z : Int} (h : z.natAbs < 18446744073709551616) : bk (bz z) := by
  unfold bk
  rw [iv_bz]
  exact ⟨rfl, h⟩
theorem bk_abs {x : BInt} (h : bk x) : x.abs = ws (wv x.abs) ∧ wv x.abs = (iv x).natAbs ∧ wv x.abs < 18446744073709551616 ∧ x.neg = decide (iv x < 0) := by
  obtain ⟨h1, h2⟩ := h
  generalize iv x = z at *
  subst h1
  unfold bz
  dsimp only
  rw [wv_ws]
  exact ⟨rfl, rfl, h2, rfl⟩
theorem gnew_ok (x : Int) (h : -9223372036854775808 ≤ x ∧ x ≤ 9223372036854775807) : gnew_vc x (fun r => r = bz x) := by
  refine ⟨fun h1 => ?_, fun h1 => ?_⟩
  · have h1' := of_decide_eq_true h1
    have e : wu64 (0 - wu64 x) = -x := by
      rw [wu64_neg x (by omega), wu64_neg _ (by omega)]
      omega
    rw [e]
    refine ⟨by omega, fun _ r hr _ => ?_⟩
    subst hr
    show ggive _ _ _ = _
    unfold ggive bz gwordsS
    have e2 : (-x).toNat = x.natAbs := by omega
    have e3 : decide (((ws x.natAbs).length : Int) > 0) = true := by
      rw [decide_eq_true_eq]
      have : ¬ (ws x.natAbs).length = 0 := fun hc => by rw [ws_len0] at hc; omega
      omega
    rw [e2, e3, Bool.and_true]
  · have h1' := of_decide_eq_false h1
    rw [wu64_eq x (by omega)]
    refine ⟨by omega, fun _ r hr _ => ?_⟩
    subst hr
    show ggive _ _ _ = _
    unfold ggive bz gwordsS
    have e2 : x.toNat = x.natAbs := by omega
    rw [h1, Bool.false_and, e2]
def rdenS (r : BRat) : BRat := r
theorem rden_ok (r : BRat) (h : r.b.abs ≠ []) : rden_vc r (fun x => x = rdenS r) := by
  intro _ _
  refine ⟨?_, rfl⟩
  rw [beq_eq_false_iff_ne]
  intro hc
  have : r.b.abs.length = 0 := by omega
  exact h (List.length_eq_zero_iff.1 this)
def gnegAS (r : BRat) : BRat := ⟨⟨(!r.a.neg) && decide ((r.a.abs.length : Int) > 0), r.a.abs⟩, r.b⟩
theorem gnegA_ok (r : BRat) (h : r.a.abs.length ≤ 1000000) : gnegA_vc r (fun x => x = gnegAS r) := fun _ _ => ⟨h, rfl⟩
def gnegBS (r : BRat) : BRat := ⟨r.a, ⟨(!r.b.neg) && decide ((r.b.abs.length : Int) > 0), r.b.abs⟩⟩
theorem gnegB_ok (r : BRat) (h : r.b.abs.length ≤ 1000000) : gnegB_vc r (fun x => x = gnegBS r) := fun _ _ => ⟨h, rfl⟩

end Go.Proofs.YtdndfbamhnchfaaGreatDoor
set_option linter.unusedVariables false
set_option linter.unusedSimpArgs false
namespace Go.Proofs.YtdndfbamhnchfaaGreatDoor
open Go.Sy Go.RowKit
def gmulAB_vc (u0 : BInt) (u1 : BRat) (u2 : BRat) (K : (BInt × BRat × BRat) → Prop) : Prop :=
  (u0.abs.length ≤ 140737488355328 →
    (u1.a.abs.length ≤ 140737488355328 →
    (u1.b.abs.length ≤ 140737488355328 →
    (u2.a.abs.length ≤ 140737488355328 →
    (u2.b.abs.length ≤ 140737488355328 →
    ((wok u1.a.abs ∧ wok u2.b.abs ∧ u1.a.abs.length ≤ 1000 ∧ u2.b.abs.length ≤ 1000) ∧
    (K ((ggive u0 (u1.a.neg != u2.b.neg) (gmulS u1.a.abs u2.b.abs)), u1, u2))))))))

def gmulBB_vc (u0 : BInt) (u1 : BRat) (u2 : BRat) (K : (BInt × BRat × BRat) → Prop) : Prop :=
  (u0.abs.length ≤ 140737488355328 →
    (u1.a.abs.length ≤ 140737488355328 →
    (u1.b.abs.length ≤ 140737488355328 →
    (u2.a.abs.length ≤ 140737488355328 →
    (u2.b.abs.length ≤ 140737488355328 →
    ((wok u1.b.abs ∧ wok u2.b.abs ∧ u1.b.abs.length ≤ 1000 ∧ u2.b.abs.length ≤ 1000) ∧
    (K ((ggive u0 (u1.b.neg != u2.b.neg) (gmulS u1.b.abs u2.b.abs)), u1, u2))))))))

def gaddI_vc (u0 : BInt) (u1 : BInt) (u2 : BInt) (K : (BInt × BInt × BInt) → Prop) : Prop :=
  (u0.abs.length ≤ 140737488355328 →
    (u1.abs.length ≤ 140737488355328 →
    (u2.abs.length ≤ 140737488355328 →
    ((u1.abs = ws (wv u1.abs) ∧ u2.abs = ws (wv u2.abs) ∧ wv u1.abs < 18446744073709551616 ∧ wv u2.abs < 18446744073709551616) ∧
    (K ((ggive u0 (gsumS u1.neg u1.abs u2.neg u2.abs).1 (gsumS u1.neg u1.abs u2.neg u2.abs).2), u1, u2))))))

def rnorm_vc (u0 : BRat) (K : BRat → Prop) : Prop :=
  (u0.a.abs.length ≤ 140737488355328 →
    (u0.b.abs.length ≤ 140737488355328 →
    ((((u0.b.abs.length : Int) == 0) = false) ∧
    (∃ inv43 : BRat → Prop,
    ((u0.b.neg = true →
      ((u0.a.abs.length ≤ 1000000) ∧
      (((gnegAS u0).b.abs.length ≤ 1000000) ∧
      (inv43 (gnegBS (gnegAS u0)))))) ∧
    (u0.b.neg = false →
      (inv43 u0))) ∧
    (∀ (yb1 : BRat), inv43 yb1 →
      ((((yb1.a.abs.length : Int) == 0) = true →
        ((0 ≤ (1 : Int) ∧ (1 : Int) ≤ 18446744073709551615) ∧
        ((gwordsS 1).length ≤ 140737488355328 →
        (∀ r126, (ggiveB yb1 false (gwordsS 1)) = r126 →
        (r126.a.abs.length ≤ 140737488355328 →
        (r126.b.abs.length ≤ 140737488355328 →
        (K r126))))))) ∧
      (((yb1.a.abs.length : Int) == 0) = false →
        ((((yb1.b.abs.length : Int) == 1) = true →
          ((0 ≤ (0 : Int) ∧ (0 : Int) < (yb1.b.abs.length : Int)) ∧
          (∀ q187, yb1.b.abs[(0 : Int).toNat]? = some q187 →
          (((q187 == 1) = true →
            (K yb1)) ∧
          ((q187 == 1) = false →
            ((yb1.a.abs = ws (wv yb1.a.abs) ∧ yb1.b.abs = ws (wv yb1.b.abs) ∧ wv yb1.a.abs < 18446744073709551616 ∧ wv yb1.b.abs < 18446744073709551616) ∧
            (((((gcomS yb1.a.abs yb1.b.abs).length : Int) == 1) = true →
              ((0 ≤ (0 : Int) ∧ (0 : Int) < ((gcomS yb1.a.abs yb1.b.abs).length : Int)) ∧
              (∀ q267, (gcomS yb1.a.abs yb1.b.abs)[(0 : Int).toNat]? = some q267 →
              (((q267 == 1) = true →
                (K yb1)) ∧
              ((q267 == 1) = false →
                ((yb1.a.abs = ws (wv yb1.a.abs) ∧ (gcomS yb1.a.abs yb1.b.abs) = ws (wv (gcomS yb1.a.abs yb1.b.abs)) ∧ wv yb1.a.abs < 18446744073709551616 ∧ wv (gcomS yb1.a.abs yb1.b.abs) < 18446744073709551616 ∧ 0 < wv (gcomS yb1.a.abs yb1.b.abs)) ∧
                ((gdivS yb1.a.abs (gcomS yb1.a.abs yb1.b.abs)).1.length ≤ 140737488355328 →
                ((gdivS yb1.a.abs (gcomS yb1.a.abs yb1.b.abs)).2.length ≤ 140737488355328 →
                ((yb1.b.abs = ws (wv yb1.b.abs) ∧ (gcomS yb1.a.abs yb1.b.abs) = ws (wv (gcomS yb1.a.abs yb1.b.abs)) ∧ wv yb1.b.abs < 18446744073709551616 ∧ wv (gcomS yb1.a.abs yb1.b.abs) < 18446744073709551616 ∧ 0 < wv (gcomS yb1.a.abs yb1.b.abs)) ∧
                ((gdivS yb1.b.abs (gcomS yb1.a.abs yb1.b.abs)).1.length ≤ 140737488355328 →
                ((gdivS yb1.b.abs (gcomS yb1.a.abs yb1.b.abs)).2.length ≤ 140737488355328 →
                (K (⟨(⟨yb1.a.neg, (gdivS yb1.a.abs (gcomS yb1.a.abs yb1.b.abs)).1⟩ : BInt), (⟨yb1.b.neg, (gdivS yb1.b.abs (gcomS yb1.a.abs yb1.b.abs)).1⟩ : BInt)⟩ : BRat))))))))))))) ∧
            ((((gcomS yb1.a.abs yb1.b.abs).length : Int) == 1) = false →
              ((yb1.a.abs = ws (wv yb1.a.abs) ∧ (gcomS yb1.a.abs yb1.b.abs) = ws (wv (gcomS yb1.a.abs yb1.b.abs)) ∧ wv yb1.a.abs < 18446744073709551616 ∧ wv (gcomS yb1.a.abs yb1.b.abs) < 18446744073709551616 ∧ 0 < wv (gcomS yb1.a.abs yb1.b.abs)) ∧
              ((gdivS yb1.a.abs (gcomS yb1.a.abs yb1.b.abs)).1.length ≤ 140737488355328 →
              ((gdivS yb1.a.abs (gcomS yb1.a.abs yb1.b.abs)).2.length ≤ 140737488355328 →
              ((yb1.b.abs = ws (wv yb1.b.abs) ∧ (gcomS yb1.a.abs yb1.b.abs) = ws (wv (gcomS yb1.a.abs yb1.b.abs)) ∧ wv yb1.b.abs < 18446744073709551616 ∧ wv (gcomS yb1.a.abs yb1.b.abs) < 18446744073709551616 ∧ 0 < wv (gcomS yb1.a.abs yb1.b.abs)) ∧
              ((gdivS yb1.b.abs (gcomS yb1.a.abs yb1.b.abs)).1.length ≤ 140737488355328 →
              ((gdivS yb1.b.abs (gcomS yb1.a.abs yb1.b.abs)).2.length ≤ 140737488355328 →
              (K (⟨(⟨yb1.a.neg, (gdivS yb1.a.abs (gcomS yb1.a.abs yb1.b.abs)).1⟩ : BInt), (⟨yb1.b.neg, (gdivS yb1.b.abs (gcomS yb1.a.abs yb1.b.abs)).1⟩ : BInt)⟩ : BRat)))))))))))))))) ∧
        (((yb1.b.abs.length : Int) == 1) = false →
          ((yb1.a.abs = ws (wv yb1.a.abs) ∧ yb1.b.abs = ws (wv yb1.b.abs) ∧ wv yb1.a.abs < 18446744073709551616 ∧ wv yb1.b.abs < 18446744073709551616) ∧
          (((((gcomS yb1.a.abs yb1.b.abs).length : Int) == 1) = true →
            ((0 ≤ (0 : Int) ∧ (0 : Int) < ((gcomS yb1.a.abs yb1.b.abs).length : Int)) ∧
            (∀ q605, (gcomS yb1.a.abs yb1.b.abs)[(0 : Int).toNat]? = some q605 →
            (((q605 == 1) = true →
              (K yb1)) ∧
            ((q605 == 1) = false →
              ((yb1.a.abs = ws (wv yb1.a.abs) ∧ (gcomS yb1.a.abs yb1.b.abs) = ws (wv (gcomS yb1.a.abs yb1.b.abs)) ∧ wv yb1.a.abs < 18446744073709551616 ∧ wv (gcomS yb1.a.abs yb1.b.abs) < 18446744073709551616 ∧ 0 < wv (gcomS yb1.a.abs yb1.b.abs)) ∧
              ((gdivS yb1.a.abs (gcomS yb1.a.abs yb1.b.abs)).1.length ≤ 140737488355328 →
              ((gdivS yb1.a.abs (gcomS yb1.a.abs yb1.b.abs)).2.length ≤ 140737488355328 →
              ((yb1.b.abs = ws (wv yb1.b.abs) ∧ (gcomS yb1.a.abs yb1.b.abs) = ws (wv (gcomS yb1.a.abs yb1.b.abs)) ∧ wv yb1.b.abs < 18446744073709551616 ∧ wv (gcomS yb1.a.abs yb1.b.abs) < 18446744073709551616 ∧ 0 < wv (gcomS yb1.a.abs yb1.b.abs)) ∧
              ((gdivS yb1.b.abs (gcomS yb1.a.abs yb1.b.abs)).1.length ≤ 140737488355328 →
              ((gdivS yb1.b.abs (gcomS yb1.a.abs yb1.b.abs)).2.length ≤ 140737488355328 →
              (K (⟨(⟨yb1.a.neg, (gdivS yb1.a.abs (gcomS yb1.a.abs yb1.b.abs)).1⟩ : BInt), (⟨yb1.b.neg, (gdivS yb1.b.abs (gcomS yb1.a.abs yb1.b.abs)).1⟩ : BInt)⟩ : BRat))))))))))))) ∧
          ((((gcomS yb1.a.abs yb1.b.abs).length : Int) == 1) = false →
            ((yb1.a.abs = ws (wv yb1.a.abs) ∧ (gcomS yb1.a.abs yb1.b.abs) = ws (wv (gcomS yb1.a.abs yb1.b.abs)) ∧ wv yb1.a.abs < 18446744073709551616 ∧ wv (gcomS yb1.a.abs yb1.b.abs) < 18446744073709551616 ∧ 0 < wv (gcomS yb1.a.abs yb1.b.abs)) ∧
            ((gdivS yb1.a.abs (gcomS yb1.a.abs yb1.b.abs)).1.length ≤ 140737488355328 →
            ((gdivS yb1.a.abs (gcomS yb1.a.abs yb1.b.abs)).2.length ≤ 140737488355328 →
            ((yb1.b.abs = ws (wv yb1.b.abs) ∧ (gcomS yb1.a.abs yb1.b.abs) = ws (wv (gcomS yb1.a.abs yb1.b.abs)) ∧ wv yb1.b.abs < 18446744073709551616 ∧ wv (gcomS yb1.a.abs yb1.b.abs) < 18446744073709551616 ∧ 0 < wv (gcomS yb1.a.abs yb1.b.abs)) ∧
            ((gdivS yb1.b.abs (gcomS yb1.a.abs yb1.b.abs)).1.length ≤ 140737488355328 →
            ((gdivS yb1.b.abs (gcomS yb1.a.abs yb1.b.abs)).2.length ≤ 140737488355328 →
            (K (⟨(⟨yb1.a.neg, (gdivS yb1.a.abs (gcomS yb1.a.abs yb1.b.abs)).1⟩ : BInt), (⟨yb1.b.neg, (gdivS yb1.b.abs (gcomS yb1.a.abs yb1.b.abs)).1⟩ : BInt)⟩ : BRat))))))))))))))))))))

def rnum_vc (u0 : BRat) (K : BRat → Prop) : Prop :=
  (u0.a.abs.length ≤ 140737488355328 →
    (u0.b.abs.length ≤ 140737488355328 →
    (K u0)))

def gi64_vc (u0 : BInt) (K : (Int × BInt) → Prop) : Prop :=
  (u0.abs.length ≤ 140737488355328 →
    (((decide ((u0.abs.length : Int) > 0)) = true →
      ((0 ≤ (0 : Int) ∧ (0 : Int) < (u0.abs.length : Int)) ∧
      (∀ q50, u0.abs[(0 : Int).toNat]? = some q50 →
      (((decide ((u0.abs.length : Int) > 1)) = true →
        ((0 ≤ (1 : Int) ∧ (1 : Int) < (u0.abs.length : Int)) ∧
        (∀ q94, u0.abs[(1 : Int).toNat]? = some q94 →
        ((u0.neg = true →
          (K (w64 (0 - (w64 (bOr .u64 (wu64 q50) (bShl .u64 (wu64 q94) 32)))), u0))) ∧
        (u0.neg = false →
          (K (w64 (bOr .u64 (wu64 q50) (bShl .u64 (wu64 q94) 32)), u0))))))) ∧
      ((decide ((u0.abs.length : Int) > 1)) = false →
        ((u0.neg = true →
          (K (w64 (0 - (w64 (wu64 q50))), u0))) ∧
        (u0.neg = false →
          (K (w64 (wu64 q50), u0))))))))) ∧
    ((decide ((u0.abs.length : Int) > 0)) = false →
      (((decide ((u0.abs.length : Int) > 1)) = true →
        ((0 ≤ (1 : Int) ∧ (1 : Int) < (u0.abs.length : Int)) ∧
        (∀ q226, u0.abs[(1 : Int).toNat]? = some q226 →
        ((u0.neg = true →
          (K (w64 (0 - (w64 (bOr .u64 0 (bShl .u64 (wu64 q226) 32)))), u0))) ∧
        (u0.neg = false →
          (K (w64 (bOr .u64 0 (bShl .u64 (wu64 q226) 32)), u0))))))) ∧
      ((decide ((u0.abs.length : Int) > 1)) = false →
        ((u0.neg = true →
          (K (0, u0))) ∧
        (u0.neg = false →
          (K (0, u0)))))))))

def gi64A_vc (u0 : BRat) (K : (Int × BRat) → Prop) : Prop :=
  (u0.a.abs.length ≤ 140737488355328 →
    (u0.b.abs.length ≤ 140737488355328 →
    (((decide ((u0.a.abs.length : Int) > 0)) = true →
      ((0 ≤ (0 : Int) ∧ (0 : Int) < (u0.a.abs.length : Int)) ∧
      (∀ q54, u0.a.abs[(0 : Int).toNat]? = some q54 →
      (((decide ((u0.a.abs.length : Int) > 1)) = true →
        ((0 ≤ (1 : Int) ∧ (1 : Int) < (u0.a.abs.length : Int)) ∧
        (∀ q98, u0.a.abs[(1 : Int).toNat]? = some q98 →
        ((u0.a.neg = true →
          (K (w64 (0 - (w64 (bOr .u64 (wu64 q54) (bShl .u64 (wu64 q98) 32)))), u0))) ∧
        (u0.a.neg = false →
          (K (w64 (bOr .u64 (wu64 q54) (bShl .u64 (wu64 q98) 32)), u0))))))) ∧
      ((decide ((u0.a.abs.length : Int) > 1)) = false →
        ((u0.a.neg = true →
          (K (w64 (0 - (w64 (wu64 q54))), u0))) ∧
        (u0.a.neg = false →
          (K (w64 (wu64 q54), u0))))))))) ∧
    ((decide ((u0.a.abs.length : Int) > 0)) = false →
      (((decide ((u0.a.abs.length : Int) > 1)) = true →
        ((0 ≤ (1 : Int) ∧ (1 : Int) < (u0.a.abs.length : Int)) ∧
        (∀ q230, u0.a.abs[(1 : Int).toNat]? = some q230 →
        ((u0.a.neg = true →
          (K (w64 (0 - (w64 (bOr .u64 0 (bShl .u64 (wu64 q230) 32)))), u0))) ∧
        (u0.a.neg = false →
          (K (w64 (bOr .u64 0 (bShl .u64 (wu64 q230) 32)), u0))))))) ∧
      ((decide ((u0.a.abs.length : Int) > 1)) = false →
        ((u0.a.neg = true →
          (K (0, u0))) ∧
        (u0.a.neg = false →
          (K (0, u0))))))))))

/-! Pure proofs: no program in sight. -/
/-! ### Products and sums of whole numbers; a ratio in lowest terms -/
theorem give_bz (z : BInt) (n : Bool) (v : Int) (h : n = decide (v < 0) ∨ v = 0) : ggive z n (ws v.natAbs) = bz v := by
  unfold ggive bz
  by_cases hv : v = 0
  · subst hv
    have e : ws (0 : Int).natAbs = [] := ws_zero
    rw [e]
    simp
  · have e : decide (((ws v.natAbs).length : Int) > 0) = true := by
      rw [decide_eq_true_eq]
      have : ¬ (ws v.natAbs).length = 0 := fun hc => by rw [ws_len0] at hc; omega
      omega
    rw [e, Bool.and_true]
    rcases h with h | h
    · rw [h]
    · exact absurd h hv
theorem mul_core {x y : BInt} (hx : bk x) (hy : bk y) (z : BInt) : ggive z (x.neg != y.neg) (gmulS x.abs y.abs) = bz (iv x * iv y) := by
  obtain ⟨_, x1, _, x2⟩ := bk_abs hx
  obtain ⟨_, y1, _, y2⟩ := bk_abs hy
  unfold gmulS
  rw [x1, y1, x2, y2, ← Int.natAbs_mul]
  generalize iv x = X
  generalize iv y = Y
  refine give_bz z _ _ ?_
  rcases Int.lt_trichotomy X 0 with h1 | h1 | h1
  · rcases Int.lt_trichotomy Y 0 with h2 | h2 | h2
    · have := Int.mul_pos_of_neg_of_neg h1 h2
      left
      rw [decide_eq_true h1, decide_eq_true h2, decide_eq_false (by omega)]
      rfl
    · right
      rw [h2, Int.mul_zero]
    · have := Int.mul_neg_of_neg_of_pos h1 h2
      left
      rw [decide_eq_true h1, decide_eq_false (by omega), decide_eq_true this]
      rfl
  · right
    rw [h1, Int.zero_mul]
  · rcases Int.lt_trichotomy Y 0 with h2 | h2 | h2
    · have := Int.mul_neg_of_pos_of_neg h1 h2
      left
      rw [decide_eq_false (by omega), decide_eq_true h2, decide_eq_true this]
      rfl
    · right
      rw [h2, Int.mul_zero]
    · have := Int.mul_pos h1 h2
      left
      rw [decide_eq_false (by omega), decide_eq_false (by omega), decide_eq_false (by omega)]
      rfl
theorem bk_len {x : BInt} (hx : bk x) : wok x.abs ∧ x.abs.length ≤ 2 := by
  obtain ⟨x0, _, x2, _⟩ := bk_abs hx
  exact ⟨can_wok x0, can_two x0 x2⟩
theorem sum_core {x y : BInt} (hx : bk x) (hy : bk y) (z : BInt) : ggive z (gsumS x.neg x.abs y.neg y.abs).1 (gsumS x.neg x.abs y.neg y.abs).2 = bz (iv x + iv y) := by
  obtain ⟨_, x1, _, x2⟩ := bk_abs hx
  obtain ⟨_, y1, _, y2⟩ := bk_abs hy
  unfold gsumS
  rw [x1, y1, x2, y2]
  generalize iv x = X
  generalize iv y = Y
  split
  · rename_i h
    have h : (X < 0 ↔ Y < 0) := by
      have h := congrArg (· = true) h
      simpa using h
    have e : X.natAbs + Y.natAbs = (X + Y).natAbs := by omega
    dsimp only
    rw [e]
    refine give_bz z _ _ ?_
    by_cases h0 : X + Y = 0
    · exact .inr h0
    · left
      exact decide_eq_decide.2 (by omega)
  · rename_i h
    have h : ¬ (X < 0 ↔ Y < 0) := fun hc => h (decide_eq_decide.2 hc)
    split
    · have e : X.natAbs - Y.natAbs = (X + Y).natAbs := by omega
      dsimp only
      rw [e]
      refine give_bz z _ _ ?_
      by_cases h0 : X + Y = 0
      · exact .inr h0
      · left
        exact decide_eq_decide.2 (by omega)
    · have e : Y.natAbs - X.natAbs = (X + Y).natAbs := by omega
      dsimp only
      rw [e]
      refine give_bz z _ _ ?_
      by_cases h0 : X + Y = 0
      · exact .inr h0
      · left
        exact decide_eq_decide.2 (by omega)
def gmulABS (z : BInt) (x y : BRat) : BInt × BRat × BRat := (bz (iv x.a * iv y.b), x, y)
theorem gmulAB_ok (z : BInt) (x y : BRat) (h : bk x.a ∧ bk y.b) : gmulAB_vc z x y (fun r => r = gmulABS z x y) := by
  intro _ _ _ _ _
  obtain ⟨a1, a2⟩ := bk_len h.1
  obtain ⟨b1, b2⟩ := bk_len h.2
  refine ⟨⟨a1, b1, by omega, by omega⟩, ?_⟩
  unfold gmulABS
  rw [mul_core h.1 h.2]
def gmulBBS (z : BInt) (x y : BRat) : BInt × BRat × BRat := (bz (iv x.b * iv y.b), x, y)
theorem gmulBB_ok (z : BInt) (x y : BRat) (h : bk x.b ∧ bk y.b) : gmulBB_vc z x y (fun r => r = gmulBBS z x y) := by
  intro _ _ _ _ _
  obtain ⟨a1, a2⟩ := bk_len h.1
  obtain ⟨b1, b2⟩ := bk_len h.2
  refine ⟨⟨a1, b1, by omega, by omega⟩, ?_⟩
  unfold gmulBBS
  rw [mul_core h.1 h.2]
def gaddIS (z x y : BInt) : BInt × BInt × BInt := (bz (iv x + iv y), x, y)
theorem gaddI_ok (z x y : BInt) (h : bk x ∧ bk y) : gaddI_vc z x y (fun r => r = gaddIS z x y) := by
  intro _ _ _
  obtain ⟨a0, _, a2, _⟩ := bk_abs h.1
  obtain ⟨b0, _, b2, _⟩ := bk_abs h.2
  refine ⟨⟨a0, b0, a2, b2⟩, ?_⟩
  unfold gaddIS
  rw [sum_core h.1 h.2]
def rnumS (r : BRat) : BRat := r
theorem rnum_ok (r : BRat) : rnum_vc r (fun x => x = rnumS r) := fun _ _ => rfl
/-- A whole number that fits 63 bits. -/
def bs (x : BInt) : Prop := x = bz (iv x) ∧ (iv x).natAbs < 9223372036854775808
def gi64S (x : BInt) : Int × BInt := (iv x, x)
def gi64AS (x : BRat) : Int × BRat := (iv x.a, x)
theorem word2 (n m : Nat) (hn : n < 4294967296) (hm : m < 4294967296) : bOr .u64 (n : Int) (bShl .u64 (m : Int) 32) = ((n + 4294967296 * m : Nat) : Int) := by
  have e1 : bShl .u64 (m : Int) 32 = ((m * 2 ^ 32 : Nat) : Int) := shlu m 32 (by omega) (by omega)
  rw [e1, bor64 n _ (by omega) (by omega), or_add (r := 32) hn rfl]
  congr 1
  omega
theorem i64_core (neg : Bool) (l : List Int) (n : Nat) (hl : l = ws n) (hn : n < 9223372036854775808) {A : Int → Prop} (hA : A (if neg = true then -(n : Int) else (n : Int))) :
    ((((decide ((l.length : Int) > 0)) = true →
      ((0 ≤ (0 : Int) ∧ (0 : Int) < (l.length : Int)) ∧
      (∀ q50, l[(0 : Int).toNat]? = some q50 →
      (((decide ((l.length : Int) > 1)) = true →
        ((0 ≤ (1 : Int) ∧ (1 : Int) < (l.length : Int)) ∧
        (∀ q95, l[(1 : Int).toNat]? = some q95 →
        ((neg = true →
          (A (w64 (0 - (w64 (bOr .u64 (wu64 q50) (bShl .u64 (wu64 q95) 32))))))) ∧
        (neg = false →
          (A (w64 (bOr .u64 (wu64 q50) (bShl .u64 (wu64 q95) 32))))))))) ∧
      ((decide ((l.length : Int) > 1)) = false →
        ((neg = true →
          (A (w64 (0 - (w64 (wu64 q50)))))) ∧
        (neg = false →
          (A (w64 (wu64 q50)))))))))) ∧
    ((decide ((l.length : Int) > 0)) = false →
      (((decide ((l.length : Int) > 1)) = true →
        ((0 ≤ (1 : Int) ∧ (1 : Int) < (l.length : Int)) ∧
        (∀ q227, l[(1 : Int).toNat]? = some q227 →
        ((neg = true →
          (A (w64 (0 - (w64 (bOr .u64 0 (bShl .u64 (wu64 q227) 32))))))) ∧
        (neg = false →
          (A (w64 (bOr .u64 0 (bShl .u64 (wu64 q227) 32))))))))) ∧
      ((decide ((l.length : Int) > 1)) = false →
        ((neg = true →
          (A (0))) ∧
        (neg = false →
          (A (0))))))))) := by
  by_cases h0 : n = 0
  · subst h0
    rw [ws_zero] at hl
    subst hl
    refine ⟨fun h => (by cases h), fun _ => ⟨fun h => (by cases h), fun _ => ⟨fun h => ?_, fun h => ?_⟩⟩⟩
    · rw [h] at hA
      exact hA
    · rw [h] at hA
      exact hA
  · rw [ws_pos h0] at hl
    by_cases h1 : n / 4294967296 = 0
    · rw [h1, ws_zero] at hl
      subst hl
      refine ⟨fun _ => ⟨by (simp <;> omega), fun q hq => ⟨fun h => absurd h (by simp), fun _ => ?_⟩⟩, fun h => absurd h (by simp)⟩
      cases hq
      have e : n % 4294967296 = n := by omega
      rw [e, wu64_eq (n : Int) (by omega), w64_eq (n : Int) (by omega), w64_eq (0 - (n : Int)) (by omega)]
      refine ⟨fun h => ?_, fun h => ?_⟩
      · rw [h, if_pos rfl] at hA
        rw [Int.zero_sub]
        exact hA
      · rw [h] at hA
        exact hA
    · have h2 : n / 4294967296 / 4294967296 = 0 := by omega
      rw [ws_pos h1, h2, ws_zero] at hl
      subst hl
      refine ⟨fun _ => ⟨by (simp <;> omega), fun q hq => ⟨fun _ => ⟨by (simp <;> omega), fun p hp => ?_⟩, fun h => absurd h (by simp)⟩⟩, fun h => absurd h (by simp <;> omega)⟩
      cases hq
      cases hp
      have e : n % 4294967296 + 4294967296 * (n / 4294967296 % 4294967296) = n := by omega
      rw [wu64_eq _ (by omega), wu64_eq _ (by omega), word2 _ _ (Nat.mod_lt _ (by decide)) (Nat.mod_lt _ (by decide)), e, w64_eq (n : Int) (by omega), w64_eq (0 - (n : Int)) (by omega)]
      refine ⟨fun h => ?_, fun h => ?_⟩
      · rw [h, if_pos rfl] at hA
        rw [Int.zero_sub]
        exact hA
      · rw [h] at hA
        exact hA
theorem bs_bk {x : BInt} (h : bs x) : bk x := ⟨h.1, Nat.lt_trans h.2 (by decide)⟩
theorem gi64_ok (x : BInt) (h : bs x) : gi64_vc x (fun r => r = gi64S x) := by
  intro _
  obtain ⟨a0, a1, _, _⟩ := bk_abs (bs_bk h)
  have h2 := h.2
  rw [← a1] at h2
  exact i64_core x.neg x.abs (wv x.abs) a0 h2 (A := fun v => (v, x) = gi64S x) rfl
theorem gi64A_ok (x : BRat) (h : bs x.a) : gi64A_vc x (fun r => r = gi64AS x) := by
  intro _ _
  obtain ⟨a0, a1, _, _⟩ := bk_abs (bs_bk h)
  have h2 := h.2
  rw [← a1] at h2
  exact i64_core x.a.neg x.a.abs (wv x.a.abs) a0 h2 (A := fun v => (v, x) = gi64AS x) rfl
/-- Lowest terms of a/b, b above 0; of b not 0. -/
def nrm0 (a b : Int) : BRat := ⟨bz (a.tdiv (Int.gcd a b)), bz (b.tdiv (Int.gcd a b))⟩
def nrm (a b : Int) : BRat := if b < 0 then nrm0 (-a) (-b) else nrm0 a b
theorem tdiv_abs_sign {a : Int} {g : Nat} (hg : (g : Int) ∣ a) (h0 : g ≠ 0) : (a.tdiv g).natAbs = a.natAbs / g ∧ (a.tdiv g < 0 ↔ a < 0) := by
  obtain ⟨c, rfl⟩ := hg
  have hgp : 0 < (g : Int) := by omega
  rw [Int.mul_tdiv_cancel_left _ (by omega), Int.natAbs_mul, Int.natAbs_natCast, Nat.mul_div_cancel_left _ (by omega)]
  refine ⟨rfl, fun h => Int.mul_neg_of_pos_of_neg hgp h, fun h => ?_⟩
  rcases Int.lt_or_le c 0 with hc | hc
  · exact hc
  · have := Int.mul_nonneg (Int.le_of_lt hgp) hc
    omega
theorem norm_rest (r : BRat) (ha : bk r.a) (hb : bk r.b) (h0 : 0 < iv r.b) {A : BRat → Prop} (hA : A (nrm0 (iv r.a) (iv r.b))) :
    (((((r.a.abs.length : Int) == 0) = true →
        ((0 ≤ (1 : Int) ∧ (1 : Int) ≤ 18446744073709551615) ∧
        ((gwordsS 1).length ≤ 140737488355328 →
        (∀ r994, (ggiveB r false (gwordsS 1)) = r994 →
        (r994.a.abs.length ≤ 140737488355328 →
        (r994.b.abs.length ≤ 140737488355328 →
        (A r994))))))) ∧
      (((r.a.abs.length : Int) == 0) = false →
        ((((r.b.abs.length : Int) == 1) = true →
          ((0 ≤ (0 : Int) ∧ (0 : Int) < (r.b.abs.length : Int)) ∧
          (∀ q1056, r.b.abs[(0 : Int).toNat]? = some q1056 →
          (((q1056 == 1) = true →
            (A r)) ∧
          ((q1056 == 1) = false →
            ((r.a.abs = ws (wv r.a.abs) ∧ r.b.abs = ws (wv r.b.abs) ∧ wv r.a.abs < 18446744073709551616 ∧ wv r.b.abs < 18446744073709551616) ∧
            (((((gcomS r.a.abs r.b.abs).length : Int) == 1) = true →
              ((0 ≤ (0 : Int) ∧ (0 : Int) < ((gcomS r.a.abs r.b.abs).length : Int)) ∧
              (∀ q1137, (gcomS r.a.abs r.b.abs)[(0 : Int).toNat]? = some q1137 →
              (((q1137 == 1) = true →
                (A r)) ∧
              ((q1137 == 1) = false →
                ((r.a.abs = ws (wv r.a.abs) ∧ (gcomS r.a.abs r.b.abs) = ws (wv (gcomS r.a.abs r.b.abs)) ∧ wv r.a.abs < 18446744073709551616 ∧ wv (gcomS r.a.abs r.b.abs) < 18446744073709551616 ∧ 0 < wv (gcomS r.a.abs r.b.abs)) ∧
                ((gdivS r.a.abs (gcomS r.a.abs r.b.abs)).1.length ≤ 140737488355328 →
                ((gdivS r.a.abs (gcomS r.a.abs r.b.abs)).2.length ≤ 140737488355328 →
                ((r.b.abs = ws (wv r.b.abs) ∧ (gcomS r.a.abs r.b.abs) = ws (wv (gcomS r.a.abs r.b.abs)) ∧ wv r.b.abs < 18446744073709551616 ∧ wv (gcomS r.a.abs r.b.abs) < 18446744073709551616 ∧ 0 < wv (gcomS r.a.abs r.b.abs)) ∧
                ((gdivS r.b.abs (gcomS r.a.abs r.b.abs)).1.length ≤ 140737488355328 →
                ((gdivS r.b.abs (gcomS r.a.abs r.b.abs)).2.length ≤ 140737488355328 →
                (A (⟨(⟨r.a.neg, (gdivS r.a.abs (gcomS r.a.abs r.b.abs)).1⟩ : BInt), (⟨r.b.neg, (gdivS r.b.abs (gcomS r.a.abs r.b.abs)).1⟩ : BInt)⟩ : BRat))))))))))))) ∧
            ((((gcomS r.a.abs r.b.abs).length : Int) == 1) = false →
              ((r.a.abs = ws (wv r.a.abs) ∧ (gcomS r.a.abs r.b.abs) = ws (wv (gcomS r.a.abs r.b.abs)) ∧ wv r.a.abs < 18446744073709551616 ∧ wv (gcomS r.a.abs r.b.abs) < 18446744073709551616 ∧ 0 < wv (gcomS r.a.abs r.b.abs)) ∧
              ((gdivS r.a.abs (gcomS r.a.abs r.b.abs)).1.length ≤ 140737488355328 →
              ((gdivS r.a.abs (gcomS r.a.abs r.b.abs)).2.length ≤ 140737488355328 →
              ((r.b.abs = ws (wv r.b.abs) ∧ (gcomS r.a.abs r.b.abs) = ws (wv (gcomS r.a.abs r.b.abs)) ∧ wv r.b.abs < 18446744073709551616 ∧ wv (gcomS r.a.abs r.b.abs) < 18446744073709551616 ∧ 0 < wv (gcomS r.a.abs r.b.abs)) ∧
              ((gdivS r.b.abs (gcomS r.a.abs r.b.abs)).1.length ≤ 140737488355328 →
              ((gdivS r.b.abs (gcomS r.a.abs r.b.abs)).2.length ≤ 140737488355328 →
              (A (⟨(⟨r.a.neg, (gdivS r.a.abs (gcomS r.a.abs r.b.abs)).1⟩ : BInt), (⟨r.b.neg, (gdivS r.b.abs (gcomS r.a.abs r.b.abs)).1⟩ : BInt)⟩ : BRat)))))))))))))))) ∧
        (((r.b.abs.length : Int) == 1) = false →
          ((r.a.abs = ws (wv r.a.abs) ∧ r.b.abs = ws (wv r.b.abs) ∧ wv r.a.abs < 18446744073709551616 ∧ wv r.b.abs < 18446744073709551616) ∧
          (((((gcomS r.a.abs r.b.abs).length : Int) == 1) = true →
            ((0 ≤ (0 : Int) ∧ (0 : Int) < ((gcomS r.a.abs r.b.abs).length : Int)) ∧
            (∀ q1479, (gcomS r.a.abs r.b.abs)[(0 : Int).toNat]? = some q1479 →
            (((q1479 == 1) = true →
              (A r)) ∧
            ((q1479 == 1) = false →
              ((r.a.abs = ws (wv r.a.abs) ∧ (gcomS r.a.abs r.b.abs) = ws (wv (gcomS r.a.abs r.b.abs)) ∧ wv r.a.abs < 18446744073709551616 ∧ wv (gcomS r.a.abs r.b.abs) < 18446744073709551616 ∧ 0 < wv (gcomS r.a.abs r.b.abs)) ∧
              ((gdivS r.a.abs (gcomS r.a.abs r.b.abs)).1.length ≤ 140737488355328 →
              ((gdivS r.a.abs (gcomS r.a.abs r.b.abs)).2.length ≤ 140737488355328 →
              ((r.b.abs = ws (wv r.b.abs) ∧ (gcomS r.a.abs r.b.abs) = ws (wv (gcomS r.a.abs r.b.abs)) ∧ wv r.b.abs < 18446744073709551616 ∧ wv (gcomS r.a.abs r.b.abs) < 18446744073709551616 ∧ 0 < wv (gcomS r.a.abs r.b.abs)) ∧
              ((gdivS r.b.abs (gcomS r.a.abs r.b.abs)).1.length ≤ 140737488355328 →
              ((gdivS r.b.abs (gcomS r.a.abs r.b.abs)).2.length ≤ 140737488355328 →
              (A (⟨(⟨r.a.neg, (gdivS r.a.abs (gcomS r.a.abs r.b.abs)).1⟩ : BInt), (⟨r.b.neg, (gdivS r.b.abs (gcomS r.a.abs r.b.abs)).1⟩ : BInt)⟩ : BRat))))))))))))) ∧
          ((((gcomS r.a.abs r.b.abs).length : Int) == 1) = false →
            ((r.a.abs = ws (wv r.a.abs) ∧ (gcomS r.a.abs r.b.abs) = ws (wv (gcomS r.a.abs r.b.abs)) ∧ wv r.a.abs < 18446744073709551616 ∧ wv (gcomS r.a.abs r.b.abs) < 18446744073709551616 ∧ 0 < wv (gcomS r.a.abs r.b.abs)) ∧
            ((gdivS r.a.abs (gcomS r.a.abs r.b.abs)).1.length ≤ 140737488355328 →
            ((gdivS r.a.abs (gcomS r.a.abs r.b.abs)).2.length ≤ 140737488355328 →
            ((r.b.abs = ws (wv r.b.abs) ∧ (gcomS r.a.abs r.b.abs) = ws (wv (gcomS r.a.abs r.b.abs)) ∧ wv r.b.abs < 18446744073709551616 ∧ wv (gcomS r.a.abs r.b.abs) < 18446744073709551616 ∧ 0 < wv (gcomS r.a.abs r.b.abs)) ∧
            ((gdivS r.b.abs (gcomS r.a.abs r.b.abs)).1.length ≤ 140737488355328 →
            ((gdivS r.b.abs (gcomS r.a.abs r.b.abs)).2.length ≤ 140737488355328 →
            (A (⟨(⟨r.a.neg, (gdivS r.a.abs (gcomS r.a.abs r.b.abs)).1⟩ : BInt), (⟨r.b.neg, (gdivS r.b.abs (gcomS r.a.abs r.b.abs)).1⟩ : BInt)⟩ : BRat)))))))))))))))) := by
  obtain ⟨a0, a1, a2, a3⟩ := bk_abs ha
  obtain ⟨b0, b1, b2, b3⟩ := bk_abs hb
  have hbn : r.b.neg = false := by rw [b3]; exact decide_eq_false (by omega)
  have hg0 : Nat.gcd (wv r.a.abs) (wv r.b.abs) ≠ 0 := by
    have : 0 < Nat.gcd (wv r.a.abs) (wv r.b.abs) := Nat.gcd_pos_of_pos_right _ (by omega)
    omega
  have hG : Int.gcd (iv r.a) (iv r.b) = Nat.gcd (wv r.a.abs) (wv r.b.abs) := by rw [a1, b1]; rfl
  have hone : (gwordsS 1) = [1] := by decide +kernel
  -- what comes of the division
  have hdiv : (⟨(⟨r.a.neg, (gdivS r.a.abs (gcomS r.a.abs r.b.abs)).1⟩ : BInt), (⟨r.b.neg, (gdivS r.b.abs (gcomS r.a.abs r.b.abs)).1⟩ : BInt)⟩ : BRat) = nrm0 (iv r.a) (iv r.b) := by
    unfold nrm0 gdivS gcomS
    rw [hG]
    dsimp only
    rw [wv_ws]
    obtain ⟨p1, p2⟩ := tdiv_abs_sign (a := iv r.a) (g := Nat.gcd (wv r.a.abs) (wv r.b.abs)) (by rw [← hG]; exact Int.gcd_dvd_left ..) hg0
    obtain ⟨q1, q2⟩ := tdiv_abs_sign (a := iv r.b) (g := Nat.gcd (wv r.a.abs) (wv r.b.abs)) (by rw [← hG]; exact Int.gcd_dvd_right ..) hg0
    unfold bz
    rw [p1, q1, ← a1, ← b1, a3, b3]
    congr 2
    · exact decide_eq_decide.2 p2.symm
    · exact decide_eq_decide.2 q2.symm
  have hsame : Nat.gcd (wv r.a.abs) (wv r.b.abs) = 1 → r = nrm0 (iv r.a) (iv r.b) := by
    intro h
    unfold nrm0
    rw [hG, h]
    show r = ⟨bz ((iv r.a).tdiv 1), bz ((iv r.b).tdiv 1)⟩
    rw [Int.tdiv_one, Int.tdiv_one, ← ha.1, ← hb.1]
  have hcom : gcomS r.a.abs r.b.abs = ws (wv (gcomS r.a.abs r.b.abs)) := by unfold gcomS; rw [wv_ws]
  have hcv : wv (gcomS r.a.abs r.b.abs) = Nat.gcd (wv r.a.abs) (wv r.b.abs) := by unfold gcomS; rw [wv_ws]
  have hcl : wv (gcomS r.a.abs r.b.abs) < 18446744073709551616 := by
    have := Nat.gcd_le_right (wv r.a.abs) (show 0 < wv r.b.abs by omega)
    omega
  have hlen : ∀ q, ((gcomS r.a.abs r.b.abs).length : Int) = 1 → (gcomS r.a.abs r.b.abs)[(0 : Int).toNat]? = some q → q = 1 → Nat.gcd (wv r.a.abs) (wv r.b.abs) = 1 := by
    intro q h1 h2 h3
    subst h3
    rw [← hcv]
    generalize gcomS r.a.abs r.b.abs = l at *
    match l, h1, h2 with
    | [x], _, h2 =>
      cases h2
      rfl
    | [], h1, _ => simp at h1
    | _ :: _ :: _, h1, _ => simp at h1; omega
  have hpre : (r.a.abs = ws (wv r.a.abs) ∧ r.b.abs = ws (wv r.b.abs) ∧ wv r.a.abs < 18446744073709551616 ∧ wv r.b.abs < 18446744073709551616) := ⟨a0, b0, a2, b2⟩
  have hpa : (r.a.abs = ws (wv r.a.abs) ∧ (gcomS r.a.abs r.b.abs) = ws (wv (gcomS r.a.abs r.b.abs)) ∧ wv r.a.abs < 18446744073709551616 ∧ wv (gcomS r.a.abs r.b.abs) < 18446744073709551616 ∧ 0 < wv (gcomS r.a.abs r.b.abs)) := ⟨a0, hcom, a2, hcl, by omega⟩
  have hpb : (r.b.abs = ws (wv r.b.abs) ∧ (gcomS r.a.abs r.b.abs) = ws (wv (gcomS r.a.abs r.b.abs)) ∧ wv r.b.abs < 18446744073709551616 ∧ wv (gcomS r.a.abs r.b.abs) < 18446744073709551616 ∧ 0 < wv (gcomS r.a.abs r.b.abs)) := ⟨b0, hcom, b2, hcl, by omega⟩
  have hlen1 : ∀ l : List Int, ((l.length : Int) == 1) = true → (0 : Int) ≤ 0 ∧ (0 : Int) < (l.length : Int) := by
    intro l h
    have h : (l.length : Int) = 1 := by simpa using h
    omega
  have hlast : ((gdivS r.a.abs (gcomS r.a.abs r.b.abs)).1.length ≤ 140737488355328 → (gdivS r.a.abs (gcomS r.a.abs r.b.abs)).2.length ≤ 140737488355328 → True) := fun _ _ => trivial
  refine ⟨fun h1 => ⟨by omega, fun _ x hx _ _ => ?_⟩, fun h1 => ⟨fun h2 => ⟨hlen1 _ h2, fun q hq => ⟨fun h3 => ?_, fun h3 => ⟨hpre, fun h4 => ⟨hlen1 _ h4, fun p hp => ⟨fun h5 => ?_, fun h5 => ⟨hpa, fun _ _ => ⟨hpb, fun _ _ => ?_⟩⟩⟩⟩, fun h4 => ⟨hpa, fun _ _ => ⟨hpb, fun _ _ => ?_⟩⟩⟩⟩⟩, fun h2 => ⟨hpre, fun h4 => ⟨hlen1 _ h4, fun p hp => ⟨fun h5 => ?_, fun h5 => ⟨hpa, fun _ _ => ⟨hpb, fun _ _ => ?_⟩⟩⟩⟩, fun h4 => ⟨hpa, fun _ _ => ⟨hpb, fun _ _ => ?_⟩⟩⟩⟩⟩
  · subst hx
    have hz : r.a.abs.length = 0 := by have : (r.a.abs.length : Int) = 0 := by simpa using h1
                                       omega
    have hz0 : wv r.a.abs = 0 := by
      rw [List.length_eq_zero_iff] at hz
      rw [hz]
      rfl
    have hiv : iv r.a = 0 := by omega
    have e : ggiveB r false (gwordsS 1) = nrm0 (iv r.a) (iv r.b) := by
      unfold nrm0 ggiveB
      rw [hG, hz0, Nat.gcd_zero_left, hiv, Int.zero_tdiv, hone, b1]
      have e1 : ((iv r.b).natAbs : Int) = iv r.b := by omega
      rw [e1, Int.tdiv_self (by omega), ← hiv, ← ha.1]
      have e3 : bz 1 = ⟨false, [1]⟩ := by decide +kernel
      rw [e3]
      rfl
    rw [e]
    exact hA
  · have h3 : q = 1 := by simpa using h3
    subst h3
    have hb1 : wv r.b.abs = 1 := by
      have h2 : (r.b.abs.length : Int) = 1 := by simpa using h2
      generalize r.b.abs = l at h2 hq
      match l, h2, hq with
      | [x], _, hq =>
        cases hq
        rfl
      | [], h2, _ => simp at h2
      | _ :: _ :: _, h2, _ => simp at h2; omega
    rw [hsame (by rw [hb1, Nat.gcd_one_right])]
    have e := hsame (by rw [hb1, Nat.gcd_one_right])
    rw [← e]
    rw [← e] at hA
    exact hA
  · have e := hsame (hlen p (by simpa using h4) hp (by simpa using h5))
    rw [← e] at hA
    exact hA
  · rw [hdiv]
    exact hA
  · rw [hdiv]
    exact hA
  · have e := hsame (hlen p (by simpa using h4) hp (by simpa using h5))
    rw [← e] at hA
    exact hA
  · rw [hdiv]
    exact hA
  · rw [hdiv]
    exact hA
theorem neg_give {x : BInt} (h : bk x) : (⟨(!x.neg) && decide ((x.abs.length : Int) > 0), x.abs⟩ : BInt) = bz (-(iv x)) := by
  obtain ⟨x0, x1, _, x3⟩ := bk_abs h
  have := give_bz ⟨false, []⟩ (!x.neg) (-(iv x)) (by
    rw [x3]
    by_cases h0 : iv x = 0
    · right
      omega
    · left
      by_cases h1 : iv x < 0
      · rw [decide_eq_true h1, decide_eq_false (by omega)]
        rfl
      · rw [decide_eq_false h1, decide_eq_true (by omega)]
        rfl)
  rw [Int.natAbs_neg, ← x1, ← x0] at this
  exact this
def rnormS (r : BRat) : BRat := nrm (iv r.a) (iv r.b)
theorem rnorm_ok (r : BRat) (h : bk r.a ∧ bk r.b ∧ iv r.b ≠ 0) : rnorm_vc r (fun x => x = rnormS r) := by
  obtain ⟨ha, hb, h0⟩ := h
  obtain ⟨a0, a1, a2, a3⟩ := bk_abs ha
  obtain ⟨b0, b1, b2, b3⟩ := bk_abs hb
  obtain ⟨_, la⟩ := bk_len ha
  obtain ⟨_, lb⟩ := bk_len hb
  intro _ _
  unfold rnormS nrm
  refine ⟨?_, fun y => bk y.a ∧ bk y.b ∧ 0 < iv y.b ∧ nrm0 (iv y.a) (iv y.b) = (if iv r.b < 0 then nrm0 (-(iv r.a)) (-(iv r.b)) else nrm0 (iv r.a) (iv r.b)), ⟨fun h1 => ⟨by omega, by show r.b.abs.length ≤ 1000000; omega, ?_⟩, fun h1 => ?_⟩, fun y hy => norm_rest y hy.1 hy.2.1 hy.2.2.1 (A := fun x => x = if iv r.b < 0 then nrm0 (-(iv r.a)) (-(iv r.b)) else nrm0 (iv r.a) (iv r.b)) hy.2.2.2⟩
  · rw [beq_eq_false_iff_ne]
    intro hc
    have hc : r.b.abs.length = 0 := by omega
    rw [List.length_eq_zero_iff] at hc
    rw [hc] at b1
    have : (0 : Nat) = (iv r.b).natAbs := b1
    omega
  · have hneg : iv r.b < 0 := by rw [b3] at h1; exact of_decide_eq_true h1
    have e : gnegBS (gnegAS r) = ⟨bz (-(iv r.a)), bz (-(iv r.b))⟩ := by
      unfold gnegBS gnegAS
      dsimp only
      rw [neg_give ha, neg_give hb]
    rw [if_pos hneg, e]
    refine ⟨bk_bz (by have := ha.2; omega), bk_bz (by have := hb.2; omega), by show 0 < iv (bz _); rw [iv_bz]; omega, ?_⟩
    show nrm0 (iv (bz _)) (iv (bz _)) = _
    rw [iv_bz, iv_bz]
  · have hneg : ¬ iv r.b < 0 := by rw [b3] at h1; exact of_decide_eq_false h1
    rw [if_neg hneg]
    exact ⟨ha, hb, by omega, rfl⟩

end Go.Proofs.YtdndfbamhnchfaaGreatDoor
set_option linter.unusedVariables false
set_option linter.unusedSimpArgs false
namespace Go.Proofs.YtdndfbamhnchfaaGreatDoor
open Go.Sy Go.RowKit
def rsf_vc (u0 : BRat) (u1 : BInt) (u2 : BInt) (K : (BRat × BInt × BInt) → Prop) : Prop :=
  (u0.a.abs.length ≤ 140737488355328 →
    (u0.b.abs.length ≤ 140737488355328 →
    (u1.abs.length ≤ 140737488355328 →
    (u2.abs.length ≤ 140737488355328 →
    ((((u2.abs.length : Int) == 0) = false) ∧
    ((u1.abs.length ≤ 1000000) ∧
    ((u2.abs.length ≤ 1000000) ∧
    ((bk (⟨(ggive (⟨false, []⟩ : BInt) u1.neg (gtwinS u1.abs)), (ggive (⟨false, []⟩ : BInt) u2.neg (gtwinS u2.abs))⟩ : BRat).a ∧ bk (⟨(ggive (⟨false, []⟩ : BInt) u1.neg (gtwinS u1.abs)), (ggive (⟨false, []⟩ : BInt) u2.neg (gtwinS u2.abs))⟩ : BRat).b ∧ iv (⟨(ggive (⟨false, []⟩ : BInt) u1.neg (gtwinS u1.abs)), (ggive (⟨false, []⟩ : BInt) u2.neg (gtwinS u2.abs))⟩ : BRat).b ≠ 0) ∧
    (∀ r223, (rnormS (⟨(ggive (⟨false, []⟩ : BInt) u1.neg (gtwinS u1.abs)), (ggive (⟨false, []⟩ : BInt) u2.neg (gtwinS u2.abs))⟩ : BRat)) = r223 →
    (r223.a.abs.length ≤ 140737488355328 →
    (r223.b.abs.length ≤ 140737488355328 →
    (K (r223, u1, u2)))))))))))))

/-! Pure proofs: no program in sight. -/
theorem set_core {x : BInt} (hx : bk x) (z : BInt) : ggive z x.neg (gtwinS x.abs) = x := by
  obtain ⟨x0, x1, _, x3⟩ := bk_abs hx
  have := give_bz z x.neg (iv x) (.inl x3)
  rw [← x1, ← x0, ← hx.1] at this
  exact this
def rsfS (z : BRat) (a b : BInt) : BRat × BInt × BInt := (nrm (iv a) (iv b), a, b)
theorem iv_ne {x : BInt} (hx : bk x) (h : iv x ≠ 0) : x.abs ≠ [] := by
  obtain ⟨_, x1, _, _⟩ := bk_abs hx
  intro hc
  rw [hc] at x1
  have : (0 : Nat) = (iv x).natAbs := x1
  omega
theorem rsf_ok (z : BRat) (a b : BInt) (h : bk a ∧ bk b ∧ iv b ≠ 0) : rsf_vc z a b (fun r => r = rsfS z a b) := by
  obtain ⟨ha, hb, h0⟩ := h
  obtain ⟨_, la⟩ := bk_len ha
  obtain ⟨_, lb⟩ := bk_len hb
  have hne := iv_ne hb h0
  intro _ _ _ _
  rw [set_core ha, set_core hb]
  refine ⟨?_, by omega, by omega, ⟨ha, hb, h0⟩, ?_⟩
  · rw [beq_eq_false_iff_ne]
    intro hc
    exact hne (List.length_eq_zero_iff.1 (by omega))
  · rintro r rfl _ _
    rfl

end Go.Proofs.YtdndfbamhnchfaaGreatDoor
set_option linter.unusedVariables false
set_option linter.unusedSimpArgs false
namespace Go.Proofs.YtdndfbamhnchfaaGreatDoor
open Go.Sy Go.RowKit
def rsf64_vc (u0 : BRat) (u1 : Int) (u2 : Int) (K : BRat → Prop) : Prop :=
  (u0.a.abs.length ≤ 140737488355328 →
    (u0.b.abs.length ≤ 140737488355328 →
    ((-9223372036854775808 ≤ u1 ∧ u1 ≤ 9223372036854775807) ∧
    ((-9223372036854775808 ≤ u2 ∧ u2 ≤ 9223372036854775807) ∧
    ((bk (bz u1) ∧ bk (bz u2) ∧ iv (bz u2) ≠ 0) ∧
    (∀ r52, (rsfS u0 (bz u1) (bz u2)) = r52 →
    (r52.1.a.abs.length ≤ 140737488355328 →
    (r52.1.b.abs.length ≤ 140737488355328 →
    (r52.2.1.abs.length ≤ 140737488355328 →
    (r52.2.2.abs.length ≤ 140737488355328 →
    (K r52.1)))))))))))

def rsi_vc (u0 : BRat) (u1 : Int) (K : BRat → Prop) : Prop :=
  (u0.a.abs.length ≤ 140737488355328 →
    (u0.b.abs.length ≤ 140737488355328 →
    ((-9223372036854775808 ≤ u1 ∧ u1 ≤ 9223372036854775807) ∧
    ((-9223372036854775808 ≤ (1 : Int) ∧ (1 : Int) ≤ 9223372036854775807) ∧
    ((bk (bz u1) ∧ bk (bz 1) ∧ iv (bz 1) ≠ 0) ∧
    (∀ r50, (rsfS u0 (bz u1) (bz 1)) = r50 →
    (r50.1.a.abs.length ≤ 140737488355328 →
    (r50.1.b.abs.length ≤ 140737488355328 →
    (r50.2.1.abs.length ≤ 140737488355328 →
    (r50.2.2.abs.length ≤ 140737488355328 →
    (K r50.1)))))))))))

def radd_vc (u0 : BRat) (u2 : BRat) (K : (BRat × BRat) → Prop) : Prop :=
  (u0.a.abs.length ≤ 140737488355328 →
    (u0.b.abs.length ≤ 140737488355328 →
    (u2.a.abs.length ≤ 140737488355328 →
    (u2.b.abs.length ≤ 140737488355328 →
    ((u2.b.abs ≠ []) ∧
    ((bk u0.a ∧ bk (rdenS u2).b) ∧
    (((gmulABS (⟨false, []⟩ : BInt) u0 (rdenS u2)).2.1.b.abs ≠ []) ∧
    ((bk (gmulABS (⟨false, []⟩ : BInt) u0 (rdenS u2)).2.2.a ∧ bk (rdenS (gmulABS (⟨false, []⟩ : BInt) u0 (rdenS u2)).2.1).b) ∧
    ((bk (gmulABS (⟨false, []⟩ : BInt) u0 (rdenS u2)).1 ∧ bk (gmulABS (⟨false, []⟩ : BInt) (gmulABS (⟨false, []⟩ : BInt) u0 (rdenS u2)).2.2 (rdenS (gmulABS (⟨false, []⟩ : BInt) u0 (rdenS u2)).2.1)).1) ∧
    (((gmulABS (⟨false, []⟩ : BInt) (gmulABS (⟨false, []⟩ : BInt) u0 (rdenS u2)).2.2 (rdenS (gmulABS (⟨false, []⟩ : BInt) u0 (rdenS u2)).2.1)).2.2.b.abs ≠ []) ∧
    (∀ r468, (rdenS (gmulABS (⟨false, []⟩ : BInt) (gmulABS (⟨false, []⟩ : BInt) u0 (rdenS u2)).2.2 (rdenS (gmulABS (⟨false, []⟩ : BInt) u0 (rdenS u2)).2.1)).2.2) = r468 →
    (r468.a.abs.length ≤ 140737488355328 →
    (r468.b.abs.length ≤ 140737488355328 →
    (((gmulABS (⟨false, []⟩ : BInt) (gmulABS (⟨false, []⟩ : BInt) u0 (rdenS u2)).2.2 (rdenS (gmulABS (⟨false, []⟩ : BInt) u0 (rdenS u2)).2.1)).2.1.b.abs ≠ []) ∧
    (∀ r491, (rdenS (gmulABS (⟨false, []⟩ : BInt) (gmulABS (⟨false, []⟩ : BInt) u0 (rdenS u2)).2.2 (rdenS (gmulABS (⟨false, []⟩ : BInt) u0 (rdenS u2)).2.1)).2.1) = r491 →
    (r491.a.abs.length ≤ 140737488355328 →
    (r491.b.abs.length ≤ 140737488355328 →
    ((bk r468.b ∧ bk r491.b) ∧
    (∀ r512, (gmulBBS (⟨false, []⟩ : BInt) r468 r491) = r512 →
    (r512.1.abs.length ≤ 140737488355328 →
    (r512.2.1.a.abs.length ≤ 140737488355328 →
    (r512.2.1.b.abs.length ≤ 140737488355328 →
    (r512.2.2.a.abs.length ≤ 140737488355328 →
    (r512.2.2.b.abs.length ≤ 140737488355328 →
    ((bk (gaddIS (⟨false, []⟩ : BInt) (gmulABS (⟨false, []⟩ : BInt) u0 (rdenS u2)).1 (gmulABS (⟨false, []⟩ : BInt) (gmulABS (⟨false, []⟩ : BInt) u0 (rdenS u2)).2.2 (rdenS (gmulABS (⟨false, []⟩ : BInt) u0 (rdenS u2)).2.1)).1).1 ∧ bk r512.1 ∧ iv r512.1 ≠ 0) ∧
    (∀ r545, (rsfS r512.2.1 (gaddIS (⟨false, []⟩ : BInt) (gmulABS (⟨false, []⟩ : BInt) u0 (rdenS u2)).1 (gmulABS (⟨false, []⟩ : BInt) (gmulABS (⟨false, []⟩ : BInt) u0 (rdenS u2)).2.2 (rdenS (gmulABS (⟨false, []⟩ : BInt) u0 (rdenS u2)).2.1)).1).1 r512.1) = r545 →
    (r545.1.a.abs.length ≤ 140737488355328 →
    (r545.1.b.abs.length ≤ 140737488355328 →
    (r545.2.1.abs.length ≤ 140737488355328 →
    (r545.2.2.abs.length ≤ 140737488355328 →
    (K (r545.1, r512.2.2))))))))))))))))))))))))))))))))

def rdenom_vc (u0 : BRat) (K : (BRat × BInt) → Prop) : Prop :=
  (u0.a.abs.length ≤ 140737488355328 →
    (u0.b.abs.length ≤ 140737488355328 →
    ((u0.b.abs ≠ []) ∧
    (∀ r27, (rdenS u0) = r27 →
    (r27.a.abs.length ≤ 140737488355328 →
    (r27.b.abs.length ≤ 140737488355328 →
    ((r27.b.abs.length ≤ 1000000) ∧
    (K (r27, (ggive (⟨false, []⟩ : BInt) r27.b.neg (gtwinS r27.b.abs)))))))))))

/-! Pure proofs: no program in sight. -/
def rsf64S (z : BRat) (a b : Int) : BRat := nrm a b
theorem rsf64_ok (z : BRat) (a b : Int) (h : b ≠ 0 ∧ (-9223372036854775808 ≤ a ∧ a ≤ 9223372036854775807) ∧ -9223372036854775808 ≤ b ∧ b ≤ 9223372036854775807) : rsf64_vc z a b (fun r => r = rsf64S z a b) := by
  intro _ _
  refine ⟨h.2.1, h.2.2, ⟨bk_bz (by omega), bk_bz (by omega), by rw [iv_bz]; exact h.1⟩, ?_⟩
  rintro r rfl _ _ _ _
  unfold rsfS rsf64S
  dsimp only
  rw [iv_bz, iv_bz]
def rsiS (z : BRat) (a : Int) : BRat := nrm a 1
theorem rsi_ok (z : BRat) (a : Int) (h : -9223372036854775808 ≤ a ∧ a ≤ 9223372036854775807) : rsi_vc z a (fun r => r = rsiS z a) := by
  intro _ _
  refine ⟨h, by omega, ⟨bk_bz (by omega), bk_bz (by decide), by rw [iv_bz]; decide⟩, ?_⟩
  rintro r rfl _ _ _ _
  unfold rsfS rsiS
  dsimp only
  rw [iv_bz, iv_bz]
/-- A ratio as it should lie. -/
def rk (r : BRat) : Prop := bk r.a ∧ bk r.b ∧ 0 < iv r.b
def rlow (x y : BRat) : Prop := (iv x.a * iv y.b).natAbs < 18446744073709551616 ∧ (iv y.a * iv x.b).natAbs < 18446744073709551616 ∧ (iv x.a * iv y.b + iv y.a * iv x.b).natAbs < 18446744073709551616 ∧ (iv x.b * iv y.b).natAbs < 18446744073709551616
theorem rk_ne {r : BRat} (h : rk r) : r.b.abs ≠ [] := iv_ne h.2.1 (by have := h.2.2; omega)
def raddS (x y : BRat) : BRat × BRat := (nrm (iv x.a * iv y.b + iv y.a * iv x.b) (iv x.b * iv y.b), y)
theorem radd_ok (x y : BRat) (h : rk x ∧ rk y ∧ rlow x y) : radd_vc x y (fun r => r = raddS x y) := by
  obtain ⟨hx, hy, h1, h2, h3, h4⟩ := h
  have hb0 := Int.mul_pos hx.2.2 hy.2.2
  intro _ _ _ _
  refine ⟨rk_ne hy, ⟨hx.1, hy.2.1⟩, rk_ne hx, ⟨hy.1, hx.2.1⟩, ⟨bk_bz h1, bk_bz h2⟩, rk_ne hx, ?_⟩
  rintro r rfl _ _
  refine ⟨rk_ne hy, ?_⟩
  rintro r rfl _ _
  refine ⟨⟨hx.2.1, hy.2.1⟩, ?_⟩
  rintro r rfl _ _ _ _ _
  have e : (gaddIS (⟨false, []⟩ : BInt) (gmulABS (⟨false, []⟩ : BInt) x (rdenS y)).1 (gmulABS (⟨false, []⟩ : BInt) (gmulABS (⟨false, []⟩ : BInt) x (rdenS y)).2.2 (rdenS (gmulABS (⟨false, []⟩ : BInt) x (rdenS y)).2.1)).1).1 = bz (iv x.a * iv y.b + iv y.a * iv x.b) := by
    unfold gaddIS gmulABS rdenS
    dsimp only
    rw [iv_bz, iv_bz]
  rw [e]
  refine ⟨⟨bk_bz h3, bk_bz h4, by show iv (bz _) ≠ 0; rw [iv_bz]; show iv x.b * iv y.b ≠ 0; omega⟩, ?_⟩
  rintro r rfl _ _ _ _
  show (nrm (iv (bz _)) (iv (bz _)), y) = _
  rw [iv_bz, iv_bz]
  rfl
def rdenomS (r : BRat) : BRat × BInt := (r, r.b)
theorem rdenom_ok (r : BRat) (h : bk r.b ∧ r.b.abs ≠ []) : rdenom_vc r (fun x => x = rdenomS r) := by
  obtain ⟨hb, hne⟩ := h
  obtain ⟨_, lb⟩ := bk_len hb
  intro _ _
  refine ⟨hne, ?_⟩
  rintro x rfl _ _
  refine ⟨by show r.b.abs.length ≤ 1000000; omega, ?_⟩
  show (r, ggive _ r.b.neg (gtwinS r.b.abs)) = _
  rw [set_core hb]
  rfl

end Go.Proofs.YtdndfbamhnchfaaGreatDoor
set_option linter.unusedVariables false
set_option linter.unusedSimpArgs false
namespace Go.Proofs.YtdndfbamhnchfaaGreatDoor
open Go.Sy Go.RowKit

/-! Pure proofs: no program in sight. -/

end Go.Proofs.YtdndfbamhnchfaaGreatDoor
set_option linter.unusedVariables false
set_option linter.unusedSimpArgs false
namespace Go.Proofs.YtdndfbamhnchfaaGreatDoor
open Go.Sy Go.RowKit
def rmean_vc (u0 : Signal) (u1 : Int) (K : Reading → Prop) : Prop :=
  ((u0.Div ≠ 0 ∧ (-9223372036854775808 ≤ (w64 (u1 * u0.Mul)) ∧ (w64 (u1 * u0.Mul)) ≤ 9223372036854775807) ∧ -9223372036854775808 ≤ u0.Div ∧ u0.Div ≤ 9223372036854775807) ∧
    (∀ r36, (rsf64S (⟨(⟨false, []⟩ : BInt), (⟨false, []⟩ : BInt)⟩ : BRat) (w64 (u1 * u0.Mul)) u0.Div) = r36 →
    (r36.a.abs.length ≤ 140737488355328 →
    (r36.b.abs.length ≤ 140737488355328 →
    ((-9223372036854775808 ≤ u0.Add ∧ u0.Add ≤ 9223372036854775807) ∧
    (∀ r73, (rsiS (⟨(⟨false, []⟩ : BInt), (⟨false, []⟩ : BInt)⟩ : BRat) u0.Add) = r73 →
    (r73.a.abs.length ≤ 140737488355328 →
    (r73.b.abs.length ≤ 140737488355328 →
    ((rk r36 ∧ rk r73 ∧ rlow r36 r73) ∧
    (∀ r94, (raddS r36 r73) = r94 →
    (r94.1.a.abs.length ≤ 140737488355328 →
    (r94.1.b.abs.length ≤ 140737488355328 →
    (r94.2.a.abs.length ≤ 140737488355328 →
    (r94.2.b.abs.length ≤ 140737488355328 →
    ((bs (rnumS r94.1).a) ∧
    ((bk (gi64AS (rnumS r94.1)).2.b ∧ (gi64AS (rnumS r94.1)).2.b.abs ≠ []) ∧
    ((bs (rdenomS (gi64AS (rnumS r94.1)).2).2) ∧
    (K (⟨u0.Name, (gi64AS (rnumS r94.1)).1, (gi64S (rdenomS (gi64AS (rnumS r94.1)).2).2).1⟩ : Reading)))))))))))))))))))

/-! Pure proofs: no program in sight. -/
/-- Lowest terms: what they are, and how great. -/
theorem nrm0_is {a b : Int} (hb : 0 < b) : ∃ g x y : Int, 0 < g ∧ 0 < y ∧ a = g * x ∧ b = g * y ∧ nrm0 a b = ⟨bz x, bz y⟩ ∧ Int.gcd x y = 1 := by
  have hg : 0 < Int.gcd a b := Int.gcd_pos_of_ne_zero_right _ (by omega)
  obtain ⟨x, hx⟩ : ((Int.gcd a b : Nat) : Int) ∣ a := Int.gcd_dvd_left ..
  obtain ⟨y, hy⟩ : ((Int.gcd a b : Nat) : Int) ∣ b := Int.gcd_dvd_right ..
  have hgi : (0 : Int) < (Int.gcd a b : Nat) := by omega
  have hy0 : 0 < y := by
    rcases Int.lt_or_le 0 y with h | h
    · exact h
    · have := Int.mul_nonpos_of_nonneg_of_nonpos (Int.le_of_lt hgi) h
      omega
  have h1 : Int.gcd a b = Int.gcd a b * Int.gcd x y := by
    have := Int.gcd_mul_left ((Int.gcd a b : Nat) : Int) x y
    rw [← hx, ← hy, Int.natAbs_natCast] at this
    exact this
  refine ⟨(Int.gcd a b : Nat), x, y, hgi, hy0, hx, hy, ?_, ?_⟩
  · unfold nrm0
    generalize Int.gcd a b = g at *
    rw [hx, hy, Int.mul_tdiv_cancel_left _ (by omega), Int.mul_tdiv_cancel_left _ (by omega)]
  · have h2 : Int.gcd a b * 1 = Int.gcd a b * Int.gcd x y := by rw [Nat.mul_one]; exact h1
    exact (Nat.eq_of_mul_eq_mul_left hg h2).symm
theorem abs_part {g x a : Int} (hg : 0 < g) (h : a = g * x) : x.natAbs ≤ a.natAbs := by
  rw [h, Int.natAbs_mul]
  have : 1 * x.natAbs ≤ g.natAbs * x.natAbs := Nat.mul_le_mul_right _ (by omega)
  omega
theorem nrm_one (a : Int) : nrm a 1 = ⟨bz a, bz 1⟩ := by
  unfold nrm nrm0
  rw [if_neg (by omega)]
  have : Int.gcd a 1 = 1 := by simp
  rw [this]
  show (⟨bz (a.tdiv 1), bz ((1 : Int).tdiv 1)⟩ : BRat) = _
  rw [Int.tdiv_one, Int.tdiv_one]
theorem nrm_pos {a b : Int} (h : 0 < b) : nrm a b = nrm0 a b := by unfold nrm; rw [if_neg (by omega)]
theorem nrm0_scale {g x y : Int} (hg : 0 < g) : nrm0 (g * x) (g * y) = nrm0 x y := by
  unfold nrm0
  rw [Int.gcd_mul_left]
  have e : ((g.natAbs * Int.gcd x y : Nat) : Int) = g * ((Int.gcd x y : Nat) : Int) := by
    rw [Int.natCast_mul]
    congr 1
    omega
  rw [e, Int.mul_tdiv_mul_of_pos _ _ hg, Int.mul_tdiv_mul_of_pos _ _ hg]
theorem rmean_ok (s : Signal) (n : Int) (h : factS s ∧ -1099511627776 ≤ n ∧ n ≤ 1099511627776) : rmean_vc s n (fun r => r = meanS s n) := by
  obtain ⟨⟨m0, m1, m2, d1, d2, a1, a2⟩, n1, n2⟩ := h
  have hN := mul_abs (a := n) (b := s.Mul) (A := 1099511627776) (B := 1000000) ⟨n1, n2⟩ ⟨m1, m2⟩
  unfold rmean_vc
  rw [w64_eq (n * s.Mul) (by omega)]
  refine ⟨⟨by omega, by omega, by omega⟩, ?_⟩
  rintro _ rfl _ _
  refine ⟨by omega, ?_⟩
  rintro _ rfl _ _
  have hA := mul_abs (a := s.Add) (b := s.Div) (A := 1000000) (B := 1000000) ⟨a1, a2⟩ ⟨by omega, d2⟩
  have hmean : meanS s n = ⟨s.Name, iv (nrm0 (n * s.Mul + s.Add * s.Div) s.Div).a, iv (nrm0 (n * s.Mul + s.Add * s.Div) s.Div).b⟩ := by
    unfold nrm0 meanS ngcd
    dsimp only
    rw [iv_bz, iv_bz]
  rw [hmean]
  generalize n * s.Mul = N at *
  obtain ⟨g, x, y, hg, hy, hx1, hy1, hq, _⟩ := nrm0_is (a := N) (b := s.Div) (by omega)
  have e36 : rsf64S (⟨(⟨false, []⟩ : BInt), (⟨false, []⟩ : BInt)⟩ : BRat) N s.Div = ⟨bz x, bz y⟩ := by
    unfold rsf64S
    rw [nrm_pos (by omega), hq]
  have e73 : rsiS (⟨(⟨false, []⟩ : BInt), (⟨false, []⟩ : BInt)⟩ : BRat) s.Add = ⟨bz s.Add, bz 1⟩ := nrm_one _
  rw [e36, e73]
  have bx := abs_part hg hx1
  have by' := abs_part hg hy1
  have hAy := mul_abs (a := s.Add) (b := y) (A := 1000000) (B := 1000000) ⟨a1, a2⟩ (by omega)
  refine ⟨⟨⟨bk_bz (by omega), bk_bz (by omega), ?_⟩, ⟨bk_bz (by omega), bk_bz (by decide), ?_⟩, ?_⟩, ?_⟩
  · show 0 < iv (bz y)
    rw [iv_bz]
    exact hy
  · show 0 < iv (bz 1)
    rw [iv_bz]
    decide
  · unfold rlow
    dsimp only
    rw [iv_bz, iv_bz, iv_bz, iv_bz, Int.mul_one, Int.mul_one]
    omega
  have e94 : raddS (⟨bz x, bz y⟩ : BRat) ⟨bz s.Add, bz 1⟩ = (nrm0 (N + s.Add * s.Div) s.Div, ⟨bz s.Add, bz 1⟩) := by
    unfold raddS
    dsimp only
    rw [iv_bz, iv_bz, iv_bz, iv_bz, Int.mul_one, Int.mul_one, nrm_pos hy]
    have e1 : N + s.Add * s.Div = g * (x + s.Add * y) := by
      rw [Int.mul_add, ← hx1, hy1]
      congr 1
      rw [← Int.mul_assoc, ← Int.mul_assoc, Int.mul_comm s.Add g]
    rw [e1, hy1, nrm0_scale hg]
  rw [e94]
  obtain ⟨g2, x2, y2, hg2, hy2, hx3, hy3, hq2, _⟩ := nrm0_is (a := N + s.Add * s.Div) (b := s.Div) (by omega)
  have bx2 := abs_part hg2 hx3
  have by2 := abs_part hg2 hy3
  rw [hq2]
  rintro _ rfl _ _ _ _
  have k1 : bs (bz x2) := by unfold bs; rw [iv_bz]; exact ⟨rfl, by omega⟩
  have k2 : bs (bz y2) := by unfold bs; rw [iv_bz]; exact ⟨rfl, by omega⟩
  exact ⟨k1, ⟨bs_bk k2, iv_ne (bs_bk k2) (by show iv (bz y2) ≠ 0; rw [iv_bz]; omega)⟩, k2, rfl⟩

end Go.Proofs.YtdndfbamhnchfaaGreatDoor
set_option linter.unusedVariables false
set_option linter.unusedSimpArgs false
namespace Go.Proofs.YtdndfbamhnchfaaGreatDoor
open Go.Sy Go.RowKit
def rreads_vc (u0 : Message) (u1 : Frame) (K : ((List Reading) × Int) → Prop) : Prop :=
  (u0.Signals.length ≤ 140737488355328 →
    (u1.Data.length ≤ 140737488355328 →
    (((((u1.ID != u0.ID) || (u1.Long != u0.Long)) || u1.Remote) = true →
      (K (([] : List Reading), 8))) ∧
    ((((u1.ID != u0.ID) || (u1.Long != u0.Long)) || u1.Remote) = false →
      (((decide ((u1.Data.length : Int) < u0.Size)) = true →
        (K (([] : List Reading), 7))) ∧
      ((decide ((u1.Data.length : Int) < u0.Size)) = false →
        (∃ inv103 : (List Reading) → Int → Prop, ∃ mu103 : (List Reading) → Int → Nat, inv103 ([] : List Reading) 0 ∧
        (∀ (x6 : List Reading) (x34 : Int), inv103 x6 x34 →
        (((decide (x34 < (u0.Signals.length : Int))) = true →
          ((0 ≤ x34 ∧ x34 < (u0.Signals.length : Int)) ∧
          (∀ q128, u0.Signals[x34.toNat]? = some q128 →
          ((-1 ≤ q128.Key ∧ therepre u0 q128 u1.Data) ∧
          (((mthereS u0 q128 u1.Data) = true →
            ((inD q128 u1.Data) ∧
            ((factS q128 ∧ -1099511627776 ≤ (getS q128 u1.Data) ∧ (getS q128 u1.Data) ≤ 1099511627776) ∧
            (((x6.length + 1) * 32 ≤ 140737488355328) ∧
            (inv103 (x6 ++ [(meanS q128 (getS q128 u1.Data))]) (w64 (x34 + 1)) ∧ mu103 (x6 ++ [(meanS q128 (getS q128 u1.Data))]) (w64 (x34 + 1)) < mu103 x6 x34))))) ∧
          ((mthereS u0 q128 u1.Data) = false →
            (inv103 x6 (w64 (x34 + 1)) ∧ mu103 x6 (w64 (x34 + 1)) < mu103 x6 x34))))))) ∧
        ((decide (x34 < (u0.Signals.length : Int))) = false →
          (K (x6, 0))))))))))))

/-! Pure proofs: no program in sight. -/
def rreadsS (m : Message) (f : Frame) : List Reading × Int :=
  if f.ID ≠ m.ID ∨ f.Long ≠ m.Long ∨ f.Remote = true then ([], 8) else
  if (f.Data.length : Int) < m.Size then ([], 7) else (readL m f.Data m.Signals, 0)
theorem rreads_ok (m : Message) (f : Frame) (h : mcheckS m = 0 ∧ isBytes f.Data) : rreads_vc m f (fun r => r = rreadsS m f) := by
  obtain ⟨hm, hd⟩ := h
  intro _ _
  refine ⟨fun h3 => ?_, fun h3 => ⟨fun h4 => ?_, fun h4 => ?_⟩⟩
  · have h3 : f.ID ≠ m.ID ∨ f.Long ≠ m.Long ∨ f.Remote = true := by
      simp only [Bool.or_eq_true, bne_iff_ne] at h3
      rcases h3 with (h3 | h3) | h3
      · exact .inl h3
      · exact .inr (.inl h3)
      · exact .inr (.inr h3)
    unfold rreadsS
    rw [if_pos h3]
  all_goals have h3 : ¬ (f.ID ≠ m.ID ∨ f.Long ≠ m.Long ∨ f.Remote = true) := by
              simp only [Bool.or_eq_false_iff, bne_eq_false_iff_eq] at h3
              intro hc
              rcases hc with hc | hc | hc
              · exact hc h3.1.1
              · exact hc h3.1.2
              · rw [h3.2] at hc; cases hc
  · have h4 := of_decide_eq_true h4
    unfold rreadsS
    rw [if_neg h3, if_pos h4]
  have h4 := of_decide_eq_false h4
  have hS : rreadsS m f = (readL m f.Data m.Signals, 0) := by
    unfold rreadsS
    rw [if_neg h3, if_neg h4]
  rw [hS]
  have H := mcheck_zero hm
  have hfew := H.few
  refine ⟨fun l i => ∃ k : Nat, i = k ∧ k ≤ m.Signals.length ∧ l = readL m f.Data (m.Signals.take k), fun _ i => m.Signals.length - i.toNat, ⟨0, rfl, by omega, rfl⟩, ?_⟩
  rintro _ _ ⟨k, rfl, hk, rfl⟩
  refine ⟨fun h5 => ?_, fun h5 => ?_⟩
  · have hkl : k < m.Signals.length := by have := of_decide_eq_true h5; omega
    refine ⟨by omega, fun s hs => ?_⟩
    rw [Int.toNat_natCast] at hs
    have hmem := List.mem_of_getElem? hs
    have hck := H.sigs s hmem
    have hrl : ∀ l, readL m f.Data (m.Signals.take k ++ l) = readL m f.Data (m.Signals.take k) ++ readL m f.Data l := fun l => by unfold readL; rw [List.filter_append, List.map_append]
    have hnext : ∀ l, l = readL m f.Data (m.Signals.take (k + 1)) → (∃ j : Nat, w64 ((k : Int) + 1) = j ∧ j ≤ m.Signals.length ∧ l = readL m f.Data (m.Signals.take j)) ∧ m.Signals.length - (w64 ((k : Int) + 1)).toNat < m.Signals.length - k := fun l hl => by
      rw [w64_succ k (by omega)]
      exact ⟨⟨k + 1, rfl, by omega, hl⟩, by rw [Int.toNat_natCast]; omega⟩
    refine ⟨⟨(check_key hck).1, there_pre H hmem hd (by omega)⟩, fun h6 => ⟨inD_le hck hd (by omega), fact_of hck _, ?_, hnext _ ?_⟩, fun h6 => hnext _ ?_⟩
    · have : (readL m f.Data (m.Signals.take k)).length ≤ k := by
        unfold readL
        rw [List.length_map]
        refine Nat.le_trans (List.length_filter_le _ _) ?_
        rw [List.length_take]
        omega
      omega
    · rw [take_next _ _ _ hs, hrl]
      congr 1
      simp [readL, h6]
    · rw [take_next _ _ _ hs, hrl]
      simp [readL, h6]
  · have hkl : k = m.Signals.length := by have := of_decide_eq_false h5; omega
    subst hkl
    rw [List.take_length]

end Go.Proofs.YtdndfbamhnchfaaGreatDoor
set_option linter.unusedVariables false
set_option linter.unusedSimpArgs false
namespace Go.Proofs.YtdndfbamhnchfaaGreatDoor
open Go.Sy Go.RowKit
def LMRead_vc (u0 : Message) (u1 : Frame) (K : Bool → Prop) : Prop :=
  (u0.Signals.length ≤ 140737488355328 →
    (u1.Data.length ≤ 140737488355328 →
    ((isBytes u1.Data) ∧
    ((readS u0 u1).1.length ≤ 140737488355328 →
    ((((mcheckS u0) == 0) = true →
      ((((fcheckfr u1) != 0) = true →
        (K (((readS u0 u1).2 == (fcheckfr u1)) && (((readS u0 u1).1.length : Int) == 0)))) ∧
      (((fcheckfr u1) != 0) = false →
        ((mcheckS u0 = 0 ∧ isBytes u1.Data) ∧
        ((rreadsS u0 u1).1.length ≤ 140737488355328 →
        (K (((readS u0 u1).2 == (rreadsS u0 u1).2) && (reqS (readS u0 u1).1 (rreadsS u0 u1).1)))))))) ∧
    (((mcheckS u0) == 0) = false →
      ((((mcheckS u0) != 0) = true →
        (K (((readS u0 u1).2 == (mcheckS u0)) && (((readS u0 u1).1.length : Int) == 0)))) ∧
      (((mcheckS u0) != 0) = false →
        ((mcheckS u0 = 0 ∧ isBytes u1.Data) ∧
        ((rreadsS u0 u1).1.length ≤ 140737488355328 →
        (K (((readS u0 u1).2 == (rreadsS u0 u1).2) && (reqS (readS u0 u1).1 (rreadsS u0 u1).1)))))))))))))

/-! Pure proofs: no program in sight. -/
theorem LMRead_ok (m : Message) (f : Frame) (k0 : okMessage m) (k1 : okFrame f) : LMRead_vc m f (fun r => r = true) := by
  have hd : isBytes f.Data := fun x hx => k1.2.2.2.2.2.1 x hx
  intro _ _
  refine ⟨hd, fun _ => ⟨fun h1 => ⟨fun h2 => ?_, fun h2 => ?_⟩, fun h1 => ⟨fun h2 => ?_, fun h2 => ?_⟩⟩⟩
  · have h1 : mcheckS m = 0 := by simpa using h1
    have h2 : fcheckfr f ≠ 0 := by simpa using h2
    unfold readS
    rw [if_neg (by rw [h1]; simp), if_pos h2]
    simp
  · have h1 : mcheckS m = 0 := by simpa using h1
    have h2 : ¬ fcheckfr f ≠ 0 := by simpa using h2
    refine ⟨⟨h1, hd⟩, fun _ => ?_⟩
    have e : readS m f = rreadsS m f := by
      unfold readS rreadsS
      rw [if_neg (by rw [h1]; simp), if_neg h2]
    rw [e]
    simp [reqS]
  · have h1 : mcheckS m ≠ 0 := by simpa using h1
    unfold readS
    rw [if_pos h1]
    simp
  · have h1 : mcheckS m ≠ 0 := by simpa using h1
    exact absurd (by simpa using h2) h1

end Go.Proofs.YtdndfbamhnchfaaGreatDoor
