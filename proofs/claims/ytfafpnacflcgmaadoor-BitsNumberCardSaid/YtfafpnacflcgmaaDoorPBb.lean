/- What must hold so that each function ends well: pure predicates, made by program. -/
import Derived.Test.YtfafpnacflcgmaaDoorPBa
set_option linter.unusedVariables false
set_option linter.unusedSimpArgs false
namespace Go.Proofs.YtfafpnacflcgmaaDoor
open Go.Sy Go.RowKit
def gwords_vc (u0 : Int) (K : (List Int) → Prop) : Prop :=
  ((gtrimS ([wu32 u0, wu32 (bShr .u64 u0 32)] : List Int)).length ≤ 140737488355328 →
    (K (gtrimS ([wu32 u0, wu32 (bShr .u64 u0 32)] : List Int))))

def gadd_vc (u0 : List Int) (u1 : List Int) (K : (List Int) → Prop) : Prop :=
  (u0.length ≤ 140737488355328 →
    (u1.length ≤ 140737488355328 →
    (((decide ((u0.length : Int) < (u1.length : Int))) = true →
      ((0 ≤ (w64 ((u1.length : Int) + 1)) ∧ (w64 ((u1.length : Int) + 1)) ≤ (w64 ((u1.length : Int) + 1)) ∧ (w64 ((u1.length : Int) + 1)) * 4 ≤ 140737488355328) ∧
      (∃ inv59 : Int → Int → (List Int) → Prop, ∃ mu59 : Int → Int → (List Int) → Nat, inv59 0 0 (List.replicate (w64 ((u1.length : Int) + 1)).toNat (0 : Int)) ∧
      (∀ (x6 : Int) (x7 : Int) (zg430 : List Int), inv59 x6 x7 zg430 →
      (((decide (x7 < (u1.length : Int))) = true →
        ((0 ≤ x7 ∧ x7 < (u1.length : Int)) ∧
        (∀ q95, u1[x7.toNat]? = some q95 →
        (((decide (x7 < (u0.length : Int))) = true →
          ((0 ≤ x7 ∧ x7 < (u0.length : Int)) ∧
          (∀ q134, u0[x7.toNat]? = some q134 →
          ((0 ≤ x7 ∧ x7 < (zg430.length : Int)) ∧
          (inv59 (bShr .u64 (wu64 ((wu64 (x6 + (wu64 q95))) + (wu64 q134))) 32) (w64 (x7 + 1)) (zg430.set x7.toNat (wu32 (wu64 ((wu64 (x6 + (wu64 q95))) + (wu64 q134))))) ∧ mu59 (bShr .u64 (wu64 ((wu64 (x6 + (wu64 q95))) + (wu64 q134))) 32) (w64 (x7 + 1)) (zg430.set x7.toNat (wu32 (wu64 ((wu64 (x6 + (wu64 q95))) + (wu64 q134))))) < mu59 x6 x7 zg430))))) ∧
        ((decide (x7 < (u0.length : Int))) = false →
          ((0 ≤ x7 ∧ x7 < (zg430.length : Int)) ∧
          (inv59 (bShr .u64 (wu64 (x6 + (wu64 q95))) 32) (w64 (x7 + 1)) (zg430.set x7.toNat (wu32 (wu64 (x6 + (wu64 q95))))) ∧ mu59 (bShr .u64 (wu64 (x6 + (wu64 q95))) 32) (w64 (x7 + 1)) (zg430.set x7.toNat (wu32 (wu64 (x6 + (wu64 q95))))) < mu59 x6 x7 zg430))))))) ∧
      ((decide (x7 < (u1.length : Int))) = false →
        ((0 ≤ (u1.length : Int) ∧ (u1.length : Int) < (zg430.length : Int)) ∧
        ((gtrimS (zg430.set (u1.length : Int).toNat (wu32 x6))).length ≤ 140737488355328 →
        (K (gtrimS (zg430.set (u1.length : Int).toNat (wu32 x6)))))))))))) ∧
    ((decide ((u0.length : Int) < (u1.length : Int))) = false →
      ((0 ≤ (w64 ((u0.length : Int) + 1)) ∧ (w64 ((u0.length : Int) + 1)) ≤ (w64 ((u0.length : Int) + 1)) ∧ (w64 ((u0.length : Int) + 1)) * 4 ≤ 140737488355328) ∧
      (∃ inv292 : Int → Int → (List Int) → Prop, ∃ mu292 : Int → Int → (List Int) → Nat, inv292 0 0 (List.replicate (w64 ((u0.length : Int) + 1)).toNat (0 : Int)) ∧
      (∀ (x6 : Int) (x7 : Int) (zg2770 : List Int), inv292 x6 x7 zg2770 →
      (((decide (x7 < (u0.length : Int))) = true →
        ((0 ≤ x7 ∧ x7 < (u0.length : Int)) ∧
        (∀ q328, u0[x7.toNat]? = some q328 →
        (((decide (x7 < (u1.length : Int))) = true →
          ((0 ≤ x7 ∧ x7 < (u1.length : Int)) ∧
          (∀ q367, u1[x7.toNat]? = some q367 →
          ((0 ≤ x7 ∧ x7 < (zg2770.length : Int)) ∧
          (inv292 (bShr .u64 (wu64 ((wu64 (x6 + (wu64 q328))) + (wu64 q367))) 32) (w64 (x7 + 1)) (zg2770.set x7.toNat (wu32 (wu64 ((wu64 (x6 + (wu64 q328))) + (wu64 q367))))) ∧ mu292 (bShr .u64 (wu64 ((wu64 (x6 + (wu64 q328))) + (wu64 q367))) 32) (w64 (x7 + 1)) (zg2770.set x7.toNat (wu32 (wu64 ((wu64 (x6 + (wu64 q328))) + (wu64 q367))))) < mu292 x6 x7 zg2770))))) ∧
        ((decide (x7 < (u1.length : Int))) = false →
          ((0 ≤ x7 ∧ x7 < (zg2770.length : Int)) ∧
          (inv292 (bShr .u64 (wu64 (x6 + (wu64 q328))) 32) (w64 (x7 + 1)) (zg2770.set x7.toNat (wu32 (wu64 (x6 + (wu64 q328))))) ∧ mu292 (bShr .u64 (wu64 (x6 + (wu64 q328))) 32) (w64 (x7 + 1)) (zg2770.set x7.toNat (wu32 (wu64 (x6 + (wu64 q328))))) < mu292 x6 x7 zg2770))))))) ∧
      ((decide (x7 < (u0.length : Int))) = false →
        ((0 ≤ (u0.length : Int) ∧ (u0.length : Int) < (zg2770.length : Int)) ∧
        ((gtrimS (zg2770.set (u0.length : Int).toNat (wu32 x6))).length ≤ 140737488355328 →
        (K (gtrimS (zg2770.set (u0.length : Int).toNat (wu32 x6)))))))))))))))

def gmul_vc (u0 : List Int) (u1 : List Int) (K : (List Int) → Prop) : Prop :=
  (u0.length ≤ 140737488355328 →
    (u1.length ≤ 140737488355328 →
    (((((u0.length : Int) == 0) || ((u1.length : Int) == 0)) = true →
      (K [])) ∧
    ((((u0.length : Int) == 0) || ((u1.length : Int) == 0)) = false →
      ((0 ≤ (w64 ((u0.length : Int) + (u1.length : Int))) ∧ (w64 ((u0.length : Int) + (u1.length : Int))) ≤ (w64 ((u0.length : Int) + (u1.length : Int))) ∧ (w64 ((u0.length : Int) + (u1.length : Int))) * 4 ≤ 140737488355328) ∧
      (∃ inv63 : Int → (List Int) → Prop, ∃ mu63 : Int → (List Int) → Nat, inv63 0 (List.replicate (w64 ((u0.length : Int) + (u1.length : Int))).toNat (0 : Int)) ∧
      (∀ (x6 : Int) (zg510 : List Int), inv63 x6 zg510 →
      (((decide (x6 < (u0.length : Int))) = true →
        (∃ inv94 : Int → Int → (List Int) → Prop, ∃ mu94 : Int → Int → (List Int) → Nat, inv94 0 0 zg510 ∧
        (∀ (x7 : Int) (x8 : Int) (zg510v : List Int), inv94 x7 x8 zg510v →
        (((decide (x8 < (u1.length : Int))) = true →
          ((0 ≤ x6 ∧ x6 < (u0.length : Int)) ∧
          (∀ qd3_1, u0[x6.toNat]? = some qd3_1 →
          ((0 ≤ x8 ∧ x8 < (u1.length : Int)) ∧
          (∀ qd8_1, u1[x8.toNat]? = some qd8_1 →
          ((0 ≤ w64 (x6 + x8) ∧ w64 (x6 + x8) < (zg510v.length : Int)) ∧
          (∀ qd17_0, zg510v[(w64 (x6 + x8)).toNat]? = some qd17_0 →
          ((0 ≤ w64 (x6 + x8) ∧ w64 (x6 + x8) < (zg510v.length : Int)) ∧
          (inv94 (bShr .u64 (wu64 (x7 + (wu64 ((wu64 ((wu64 qd3_1) * (wu64 qd8_1))) + (wu64 qd17_0))))) 32) (w64 (x8 + 1)) (zg510v.set (w64 (x6 + x8)).toNat (wu32 (wu64 (x7 + (wu64 ((wu64 ((wu64 qd3_1) * (wu64 qd8_1))) + (wu64 qd17_0))))))) ∧ mu94 (bShr .u64 (wu64 (x7 + (wu64 ((wu64 ((wu64 qd3_1) * (wu64 qd8_1))) + (wu64 qd17_0))))) 32) (w64 (x8 + 1)) (zg510v.set (w64 (x6 + x8)).toNat (wu32 (wu64 (x7 + (wu64 ((wu64 ((wu64 qd3_1) * (wu64 qd8_1))) + (wu64 qd17_0))))))) < mu94 x7 x8 zg510v))))))))) ∧
        ((decide (x8 < (u1.length : Int))) = false →
          ((0 ≤ w64 (x6 + (u1.length : Int)) ∧ w64 (x6 + (u1.length : Int)) < (zg510v.length : Int)) ∧
          (inv63 (w64 (x6 + 1)) (zg510v.set (w64 (x6 + (u1.length : Int))).toNat (wu32 x7)) ∧ mu63 (w64 (x6 + 1)) (zg510v.set (w64 (x6 + (u1.length : Int))).toNat (wu32 x7)) < mu63 x6 zg510))))))) ∧
      ((decide (x6 < (u0.length : Int))) = false →
        ((gtrimS zg510).length ≤ 140737488355328 →
        (K (gtrimS zg510))))))))))))

def ggive_vc (u0 : BInt) (u1 : Bool) (u2 : List Int) (K : BInt → Prop) : Prop :=
  (u0.abs.length ≤ 140737488355328 →
    (u2.length ≤ 140737488355328 →
    (K (⟨u1 && (decide ((u2.length : Int) > 0)), u2⟩ : BInt))))
def ggive (u0 : BInt) (u1 : Bool) (u2 : List Int) : BInt :=
  (⟨u1 && (decide ((u2.length : Int) > 0)), u2⟩ : BInt)
theorem ggive_ok (u0 : BInt) (u1 : Bool) (u2 : List Int) : ggive_vc u0 u1 u2 (fun r => r = ggive u0 u1 u2) := (fun _ => (fun _ => (by rfl)))

def guint64_vc (u0 : BInt) (K : (Int × BInt) → Prop) : Prop :=
  (u0.abs.length ≤ 140737488355328 →
    (((decide ((u0.abs.length : Int) > 0)) = true →
      ((0 ≤ (0 : Int) ∧ (0 : Int) < (u0.abs.length : Int)) ∧
      (∀ q41, u0.abs[(0 : Int).toNat]? = some q41 →
      (((decide ((u0.abs.length : Int) > 1)) = true →
        ((0 ≤ (1 : Int) ∧ (1 : Int) < (u0.abs.length : Int)) ∧
        (∀ q86, u0.abs[(1 : Int).toNat]? = some q86 →
        (K (bOr .u64 (wu64 q41) (bShl .u64 (wu64 q86) 32), u0))))) ∧
      ((decide ((u0.abs.length : Int) > 1)) = false →
        (K (wu64 q41, u0))))))) ∧
    ((decide ((u0.abs.length : Int) > 0)) = false →
      (((decide ((u0.abs.length : Int) > 1)) = true →
        ((0 ≤ (1 : Int) ∧ (1 : Int) < (u0.abs.length : Int)) ∧
        (∀ q148, u0.abs[(1 : Int).toNat]? = some q148 →
        (K (bOr .u64 0 (bShl .u64 (wu64 q148) 32), u0))))) ∧
      ((decide ((u0.abs.length : Int) > 1)) = false →
        (K (0, u0)))))))

/-! Pure proofs: no program in sight. -/
theorem shr32 (n : Nat) : bShr .u64 (n : Int) 32 = ((n / 2 ^ 32 : Nat) : Int) := shru n 32 (by omega) .u64 (by decide)
theorem take_set_self {α : Type} (l : List α) (k : Nat) (x : α) : (l.set k x).take k = l.take k := by
  apply List.ext_getElem?
  intro j
  rw [List.getElem?_take, List.getElem?_take]
  split
  · rw [List.getElem?_set_ne (by omega)]
  · rfl
theorem wv_take_set {l : List Int} {k d : Nat} (h : k < l.length) : wv ((l.set k (d : Int)).take (k + 1)) = wv (l.take k) + 4294967296 ^ k * d := by
  have h1 : (l.set k (d : Int))[k]? = some (d : Int) := by rw [List.getElem?_set_self (by omega)]
  rw [wv_next h1, take_set_self]
theorem bor64 (x y : Nat) (hx : x < 18446744073709551616) (hy : y < 18446744073709551616) : bOr .u64 (x : Int) (y : Int) = ((x ||| y : Nat) : Int) := by
  have e : (BitVec.ofInt IntKind.u64.bits (x : Int) ||| BitVec.ofInt IntKind.u64.bits (y : Int)).toNat = x ||| y := by
    rw [BitVec.toNat_or]
    show (BitVec.ofInt 64 (x : Int)).toNat ||| (BitVec.ofInt 64 (y : Int)).toNat = _
    rw [ofInt_toNat x hx, ofInt_toNat y hy]
  unfold bOr
  rw [e]
  have := Nat.or_lt_two_pow (x := x) (y := y) (n := 64) hx hy
  exact wu64_eq _ (by omega)
theorem wu32_eq (n : Nat) (h : n < 4294967296) : wu32 (n : Int) = (n : Int) := by rw [wu32_nat, Nat.mod_eq_of_lt h]
theorem shlu (n s : Nat) (hs : s ≤ 64) (h : n * 2 ^ s < 18446744073709551616) : bShl .u64 (n : Int) (s : Int) = ((n * 2 ^ s : Nat) : Int) := by
  unfold bShl
  have e : min (s : Int).toNat IntKind.u64.bits = s := by rw [Int.toNat_natCast]; exact Nat.min_eq_left hs
  rw [e]
  have e2 : (n : Int) * 2 ^ s = ((n * 2 ^ s : Nat) : Int) := by norm_cast
  rw [e2]
  exact wu64_eq _ (by omega)
def gwordsS (x : Int) : List Int := ws x.toNat
theorem gwords_ok (x : Int) (h : 0 ≤ x ∧ x ≤ 18446744073709551615) : gwords_vc x (fun r => r = gwordsS x) := by
  intro _
  obtain ⟨n, rfl⟩ : ∃ n : Nat, x = n := ⟨x.toNat, by omega⟩
  have e : bShr .u64 (n : Int) 32 = ((n / 2 ^ 32 : Nat) : Int) := shru n 32 (by omega) .u64 (by decide)
  rw [e, wu32_nat, wu32_nat]
  have hw : wok [((n % 4294967296 : Nat) : Int), ((n / 2 ^ 32 % 4294967296 : Nat) : Int)] := by
    intro y hy
    rcases List.mem_cons.1 hy with rfl | hy
    · omega
    · rw [List.mem_singleton.1 hy]; omega
  rw [gtrim_ws hw]
  unfold gwordsS
  congr 1
  simp only [wv, Int.toNat_natCast]
  omega
def gaddS (a b : List Int) : List Int := ws (wv a + wv b)
theorem gadd_loop (a b : List Int) (hab : b.length ≤ a.length) (ha : wok a) (hb : wok b) (hl : a.length ≤ 1000000) {Q : List Int → Prop} (hQ : ∀ l, l = ws (wv a + wv b) → Q l) :
      ((0 ≤ (w64 ((a.length : Int) + 1)) ∧ (w64 ((a.length : Int) + 1)) ≤ (w64 ((a.length : Int) + 1)) ∧ (w64 ((a.length : Int) + 1)) * 4 ≤ 140737488355328) ∧
      (∃ inv59 : Int → Int → (List Int) → Prop, ∃ mu59 : Int → Int → (List Int) → Nat, inv59 0 0 (List.replicate (w64 ((a.length : Int) + 1)).toNat (0 : Int)) ∧
      (∀ (x6 : Int) (x7 : Int) (zg430 : List Int), inv59 x6 x7 zg430 →
      (((decide (x7 < (a.length : Int))) = true →
        ((0 ≤ x7 ∧ x7 < (a.length : Int)) ∧
        (∀ q95, a[x7.toNat]? = some q95 →
        (((decide (x7 < (b.length : Int))) = true →
          ((0 ≤ x7 ∧ x7 < (b.length : Int)) ∧
          (∀ q134, b[x7.toNat]? = some q134 →
          ((0 ≤ x7 ∧ x7 < (zg430.length : Int)) ∧
          (inv59 (bShr .u64 (wu64 ((wu64 (x6 + (wu64 q95))) + (wu64 q134))) 32) (w64 (x7 + 1)) (zg430.set x7.toNat (wu32 (wu64 ((wu64 (x6 + (wu64 q95))) + (wu64 q134))))) ∧ mu59 (bShr .u64 (wu64 ((wu64 (x6 + (wu64 q95))) + (wu64 q134))) 32) (w64 (x7 + 1)) (zg430.set x7.toNat (wu32 (wu64 ((wu64 (x6 + (wu64 q95))) + (wu64 q134))))) < mu59 x6 x7 zg430))))) ∧
        ((decide (x7 < (b.length : Int))) = false →
          ((0 ≤ x7 ∧ x7 < (zg430.length : Int)) ∧
          (inv59 (bShr .u64 (wu64 (x6 + (wu64 q95))) 32) (w64 (x7 + 1)) (zg430.set x7.toNat (wu32 (wu64 (x6 + (wu64 q95))))) ∧ mu59 (bShr .u64 (wu64 (x6 + (wu64 q95))) 32) (w64 (x7 + 1)) (zg430.set x7.toNat (wu32 (wu64 (x6 + (wu64 q95))))) < mu59 x6 x7 zg430))))))) ∧
      ((decide (x7 < (a.length : Int))) = false →
        ((0 ≤ (a.length : Int) ∧ (a.length : Int) < (zg430.length : Int)) ∧
        ((gtrimS (zg430.set (a.length : Int).toNat (wu32 x6))).length ≤ 140737488355328 →
        (Q (gtrimS (zg430.set (a.length : Int).toNat (wu32 x6))))))))))) := by
  have e0 : w64 ((a.length : Int) + 1) = ((a.length + 1 : Nat) : Int) := w64_succ _ (by omega)
  rw [e0]
  refine ⟨by omega, fun c i z => ∃ (cn k : Nat), c = cn ∧ i = k ∧ k ≤ a.length ∧ cn ≤ 1 ∧ z.length = a.length + 1 ∧ wok z ∧ wv (z.take k) + 4294967296 ^ k * cn = wv (a.take k) + wv (b.take k), fun _ i _ => a.length - i.toNat, ⟨0, 0, rfl, rfl, by omega, by omega, by simp, wok_rep _, by simp [wv]⟩, ?_⟩
  rintro _ _ z ⟨c, k, rfl, rfl, hk, hc, hz, hw, hv⟩
  have hmax : k < a.length → ∀ s : Nat, s ≤ 8589934591 → ∀ p n : Nat, s = c + n + p → a[k]? = some (n : Int) → wv (b.take (k + 1)) = wv (b.take k) + 4294967296 ^ k * p →
      (∃ (cn j : Nat), bShr .u64 (s : Int) 32 = cn ∧ w64 ((k : Int) + 1) = j ∧ j ≤ a.length ∧ cn ≤ 1 ∧ (z.set k (wu32 (s : Int))).length = a.length + 1 ∧ wok (z.set k (wu32 (s : Int))) ∧ wv ((z.set k (wu32 (s : Int))).take j) + 4294967296 ^ j * cn = wv (a.take j) + wv (b.take j)) ∧ a.length - (w64 ((k : Int) + 1)).toNat < a.length - k := by
    intro hka s hs p n hsum hn hp
    rw [w64_succ k (by omega), wu32_nat, shr32 s]
    refine ⟨⟨s / 2 ^ 32, k + 1, rfl, rfl, by omega, by omega, by rw [List.length_set]; exact hz, wok_set hw _ _ (Nat.mod_lt _ (by decide)), ?_⟩, by rw [Int.toNat_natCast]; omega⟩
    rw [wv_take_set (by omega), wv_next hn, hp, Nat.pow_succ]
    have h1 : 4294967296 ^ k * s = 4294967296 ^ k * (s % 4294967296) + 4294967296 ^ k * 4294967296 * (s / 2 ^ 32) := by
      rw [Nat.mul_assoc, ← Nat.mul_add]
      congr 1
      omega
    have h2 : 4294967296 ^ k * s = 4294967296 ^ k * c + 4294967296 ^ k * n + 4294967296 ^ k * p := by rw [hsum, Nat.mul_add, Nat.mul_add]
    generalize 4294967296 ^ k * s = A1 at *
    omega
  refine ⟨fun h1 => ?_, fun h1 => ?_⟩
  · have hka : k < a.length := by have := of_decide_eq_true h1; omega
    refine ⟨by omega, fun q hq => ?_⟩
    rw [Int.toNat_natCast] at hq
    obtain ⟨n, rfl, hn⟩ := wok_at ha hq
    rw [wu64_eq (n : Int) (by omega), wu64_eq ((c : Int) + n) (by omega)]
    refine ⟨fun h2 => ⟨by have := of_decide_eq_true h2; omega, fun p hp => ⟨by omega, ?_⟩⟩, fun h2 => ⟨by omega, ?_⟩⟩
    · rw [Int.toNat_natCast] at hp ⊢
      obtain ⟨m, rfl, hm⟩ := wok_at hb hp
      rw [wu64_eq (m : Int) (by omega), wu64_eq ((c : Int) + n + m) (by omega)]
      exact hmax hka (c + n + m) (by omega) m n rfl hq (wv_next hp)
    · rw [Int.toNat_natCast]
      have hkb : b.length ≤ k := by have := of_decide_eq_false h2; omega
      refine hmax hka (c + n) (by omega) 0 n rfl hq ?_
      have t1 : b.take (k + 1) = b := List.take_of_length_le (by omega)
      have t2 : b.take k = b := List.take_of_length_le hkb
      rw [t1, t2]
      rfl
  · have hka : k = a.length := by have := of_decide_eq_false h1; omega
    subst hka
    refine ⟨by omega, fun _ => hQ _ ?_⟩
    rw [Int.toNat_natCast, wu32_nat, gtrim_ws (wok_set hw _ _ (Nat.mod_lt _ (by decide)))]
    congr 1
    have h2 := wv_take_set (l := z) (k := a.length) (d := c % 4294967296) (by omega)
    have t1 : (z.set a.length ((c % 4294967296 : Nat) : Int)).take (a.length + 1) = z.set a.length ((c % 4294967296 : Nat) : Int) := List.take_of_length_le (by rw [List.length_set]; omega)
    have t2 : b.take a.length = b := List.take_of_length_le hab
    rw [t1] at h2
    rw [List.take_length, t2] at hv
    rw [h2, Nat.mod_eq_of_lt (by omega)]
    exact hv
theorem gadd_ok (a b : List Int) (h : wok a ∧ wok b ∧ a.length ≤ 1000000 ∧ b.length ≤ 1000000) : gadd_vc a b (fun r => r = gaddS a b) := by
  obtain ⟨ha, hb, la, lb⟩ := h
  intro _ _
  refine ⟨fun h1 => ?_, fun h1 => ?_⟩
  · exact gadd_loop (Q := fun r => r = gaddS a b) b a (by have := of_decide_eq_true h1; omega) hb ha lb fun l h => by
      show l = ws (wv a + wv b)
      rw [h, Nat.add_comm]
  · exact gadd_loop (Q := fun r => r = gaddS a b) a b (by have := of_decide_eq_false h1; omega) ha hb la fun l h => h
def gmulS (a b : List Int) : List Int := ws (wv a * wv b)
theorem mul_lt32 {n p : Nat} (hn : n < 4294967296) (hp : p < 4294967296) : n * p ≤ 18446744065119617025 :=
  Nat.mul_le_mul (Nat.le_of_lt_succ hn) (Nat.le_of_lt_succ hp)
theorem gmul_ok (a b : List Int) (h : wok a ∧ wok b ∧ a.length ≤ 1000 ∧ b.length ≤ 1000) : gmul_vc a b (fun r => r = gmulS a b) := by
  obtain ⟨ha, hb, la, lb⟩ := h
  intro _ _
  refine ⟨fun h1 => ?_, fun h1 => ?_⟩
  · have : a = [] ∨ b = [] := by
      rcases (show ((a.length : Int) == 0) = true ∨ ((b.length : Int) == 0) = true by simpa only [Bool.or_eq_true] using h1) with h1 | h1
      · have h2 : (a.length : Int) = 0 := by simpa only [beq_iff_eq] using h1
        exact .inl (List.eq_nil_of_length_eq_zero (by omega))
      · have h2 : (b.length : Int) = 0 := by simpa only [beq_iff_eq] using h1
        exact .inr (List.eq_nil_of_length_eq_zero (by omega))
    unfold gmulS
    rcases this with rfl | rfl
    · rw [wv, Nat.zero_mul, ws_zero]
    · rw [wv, Nat.mul_zero, ws_zero]
  · have e0 : w64 ((a.length : Int) + (b.length : Int)) = ((a.length + b.length : Nat) : Int) := by rw [w64_eq _ (by omega)]; rfl
    rw [e0]
    refine ⟨by omega, fun i z => ∃ k : Nat, i = k ∧ k ≤ a.length ∧ z.length = a.length + b.length ∧ wok z ∧ wv z = wv (a.take k) * wv b ∧ ∀ j, k + b.length ≤ j → j < a.length + b.length → z[j]? = some 0, fun i _ => a.length - i.toNat, ⟨0, rfl, by omega, by rw [List.length_replicate, Int.toNat_natCast], wok_rep _, by rw [wv_rep]; simp [wv], fun j _ hj => by rw [Int.toNat_natCast, List.getElem?_replicate, if_pos hj]⟩, ?_⟩
    rintro _ z ⟨k, rfl, hk, hz, hw, hv, h0⟩
    refine ⟨fun h2 => ?_, fun h2 => ?_⟩
    · have hka : k < a.length := by have := of_decide_eq_true h2; omega
      obtain ⟨x, hx⟩ : ∃ x, a[k]? = some x := ⟨_, List.getElem?_eq_getElem hka⟩
      obtain ⟨n, rfl, hn⟩ := wok_at ha hx
      refine ⟨fun c j y => ∃ (cn m : Nat), c = cn ∧ j = m ∧ m ≤ b.length ∧ cn < 4294967296 ∧ y.length = a.length + b.length ∧ wok y ∧ wv y + 4294967296 ^ (k + m) * cn = wv z + 4294967296 ^ k * (n * wv (b.take m)) ∧ ∀ i, k + b.length ≤ i → i < a.length + b.length → y[i]? = some 0, fun _ j _ => b.length - j.toNat, ⟨0, 0, rfl, rfl, by omega, by omega, hz, hw, by simp [wv], h0⟩, ?_⟩
      rintro _ _ y ⟨c, m, rfl, rfl, hm, hc, hy, hwy, hvy, h0y⟩
      refine ⟨fun h3 => ?_, fun h3 => ?_⟩
      · have hmb : m < b.length := by have := of_decide_eq_true h3; omega
        have e1 : w64 ((k : Int) + (m : Int)) = ((k + m : Nat) : Int) := by rw [w64_eq _ (by omega)]; rfl
        rw [e1]
        refine ⟨by omega, fun q hq => ⟨by omega, fun p hp => ⟨by omega, fun t ht => ⟨by omega, ?_⟩⟩⟩⟩
        rw [Int.toNat_natCast] at hq hp ht ⊢
        rw [hx] at hq
        cases hq
        obtain ⟨p, rfl, hpp⟩ := wok_at hb hp
        obtain ⟨t, rfl, htt⟩ := wok_at hwy ht
        have hnp := mul_lt32 hn hpp
        have e2 : (n : Int) * (p : Int) = ((n * p : Nat) : Int) := by norm_cast
        rw [wu64_eq (n : Int) (by omega), wu64_eq (p : Int) (by omega), wu64_eq (t : Int) (by omega), e2]
        have hvb := wv_next hp
        generalize hs : n * p = np at *
        rw [wu64_eq (np : Int) (by omega), wu64_eq ((np : Int) + t) (by omega), wu64_eq ((c : Int) + ((np : Int) + t)) (by omega)]
        have e3 : ((c : Int) + ((np : Int) + t)) = ((c + (np + t) : Nat) : Int) := by norm_cast
        rw [e3, w64_succ m (by omega), wu32_nat, shr32]
        have hset := wv_set y (k + m) t ((c + (np + t)) % 4294967296) ht
        refine ⟨⟨(c + (np + t)) / 2 ^ 32, m + 1, rfl, rfl, by omega, by omega, by rw [List.length_set]; exact hy, wok_set hwy _ _ (Nat.mod_lt _ (by decide)), ?_, fun i hi1 hi2 => ?_⟩, by (try dsimp only); omega⟩
        · rw [hvb, Nat.mul_add, Nat.mul_add, ← Nat.add_assoc k m 1, Nat.pow_succ]
          have h4 : 4294967296 ^ k * (n * (4294967296 ^ m * p)) = 4294967296 ^ (k + m) * np := by
            rw [Nat.pow_add, Nat.mul_left_comm n, hs, Nat.mul_assoc]
          rw [h4]
          have h5 : 4294967296 ^ (k + m) * (c + (np + t)) = 4294967296 ^ (k + m) * ((c + (np + t)) % 4294967296) + 4294967296 ^ (k + m) * 4294967296 * ((c + (np + t)) / 2 ^ 32) := by
            rw [Nat.mul_assoc, ← Nat.mul_add]
            congr 1
            omega
          rw [Nat.mul_add, Nat.mul_add] at h5
          generalize 4294967296 ^ (k + m) * np = A1 at *
          generalize 4294967296 ^ (k + m) * t = A2 at *
          generalize 4294967296 ^ (k + m) * c = A3 at *
          generalize 4294967296 ^ (k + m) * ((c + (np + t)) % 4294967296) = A4 at *
          generalize 4294967296 ^ (k + m) * 4294967296 * ((c + (np + t)) / 2 ^ 32) = A5 at *
          generalize 4294967296 ^ k * (n * wv (b.take m)) = A6 at *
          omega
        · rw [List.getElem?_set_ne (by omega)]
          exact h0y i hi1 hi2
      · have hmb : m = b.length := by have := of_decide_eq_false h3; omega
        subst hmb
        have e1 : w64 ((k : Int) + (b.length : Int)) = ((k + b.length : Nat) : Int) := by rw [w64_eq _ (by omega)]; rfl
        have hz0 : y[k + b.length]? = some ((0 : Nat) : Int) := h0y (k + b.length) (by omega) (by omega)
        rw [e1]
        refine ⟨by omega, ?_⟩
        rw [Int.toNat_natCast, w64_succ k (by omega), wu32_eq c hc]
        have hset := wv_set y (k + b.length) 0 c hz0
        rw [Nat.mul_zero, Nat.add_zero] at hset
        refine ⟨⟨k + 1, rfl, by omega, by rw [List.length_set]; exact hy, wok_set hwy _ _ hc, ?_, fun j hj1 hj2 => ?_⟩, by (try dsimp only); omega⟩
        · rw [hset, hvy, List.take_length, wv_next hx, hv, Nat.add_mul, Nat.mul_assoc]
        · rw [List.getElem?_set_ne (by omega)]
          exact h0y j (by omega) hj2
    · have hka : k = a.length := by have := of_decide_eq_false h2; omega
      subst hka
      intro _
      rw [gtrim_ws hw, hv, List.take_length]
      rfl
theorem or_add {t lo r m : Nat} (ht : t < 2 ^ r) (hlo : lo = m * 2 ^ r) : t ||| lo = t + lo := by
  have := Nat.shiftLeft_add_eq_or_of_lt (i := r) (b := t) ht m
  rw [Nat.shiftLeft_eq, ← hlo] at this
  rw [Nat.or_comm, ← this, Nat.add_comm]
def guint64S (x : BInt) : Int × BInt := (((wv x.abs % 18446744073709551616 : Nat) : Int), x)
theorem guint64_ok (x : BInt) (h : wok x.abs) : guint64_vc x (fun r => r = guint64S x) := by
  intro _
  unfold guint64S
  have key : ∀ n m : Nat, n < 4294967296 → m < 4294967296 → bOr .u64 (n : Int) (bShl .u64 (m : Int) 32) = ((n + 4294967296 * m : Nat) : Int) := by
    intro n m hn hm
    have e1 : bShl .u64 (m : Int) 32 = ((m * 2 ^ 32 : Nat) : Int) := shlu m 32 (by omega) (by omega)
    rw [e1, bor64 n _ (by omega) (by omega), or_add (r := 32) hn rfl]
    congr 1
    omega
  obtain ⟨neg, l⟩ := x
  cases l with
  | nil => exact ⟨fun h1 => (by cases h1), fun _ => ⟨fun h1 => (by cases h1), fun _ => rfl⟩⟩
  | cons a l =>
    obtain ⟨h1, h2⟩ := wok_cons h
    obtain ⟨a, rfl⟩ : ∃ n : Nat, a = n := ⟨a.toNat, by omega⟩
    refine ⟨fun _ => ⟨by (simp <;> omega), fun q hq => ?_⟩, fun h3 => ?_⟩
    · cases hq
      rw [wu64_eq (a : Int) (by omega)]
      cases l with
      | nil => exact ⟨fun h3 => absurd h3 (by simp), fun _ => by simp only [wv, Int.toNat_natCast, Nat.mul_zero, Nat.add_zero]; rw [Nat.mod_eq_of_lt (by omega)]⟩
      | cons b l =>
        obtain ⟨h3, h4⟩ := wok_cons h2
        obtain ⟨b, rfl⟩ : ∃ n : Nat, b = n := ⟨b.toNat, by omega⟩
        refine ⟨fun _ => ⟨by (simp <;> omega), fun p hp => ?_⟩, fun h5 => absurd (of_decide_eq_false h5) (by simp <;> omega)⟩
        cases hp
        rw [wu64_eq (b : Int) (by omega), key a b (by omega) (by omega)]
        simp only [wv, Int.toNat_natCast]
        congr 2
        omega
    · exact absurd (of_decide_eq_false h3) (by simp <;> omega)

end Go.Proofs.YtfafpnacflcgmaaDoor
