/- What must hold so that each function ends well: pure predicates, made by program. -/
import Derived.Test.YtinegicenfndkaaDoorPBc
set_option linter.unusedVariables false
set_option linter.unusedSimpArgs false
namespace Go.Proofs.YtinegicenfndkaaDoor
open Go.Sy Go.RowKit
def gxor_vc (u0 : BInt) (u2 : BInt) (K : (BInt × BInt) → Prop) : Prop :=
  (u0.abs.length ≤ 140737488355328 →
    (u2.abs.length ≤ 140737488355328 →
    ((u0.neg = false ∧ (u0.abs.length : Int) ≤ (w64 ((max (u0.abs.length : Int) (u2.abs.length : Int)) + 1)) ∧ (w64 ((max (u0.abs.length : Int) (u2.abs.length : Int)) + 1)) ≤ 1000000) ∧
    (∀ r68, (glowS u0 (w64 ((max (u0.abs.length : Int) (u2.abs.length : Int)) + 1))) = r68 →
    (r68.1.length ≤ 140737488355328 →
    (r68.2.abs.length ≤ 140737488355328 →
    ((u2.neg = false ∧ (u2.abs.length : Int) ≤ (w64 ((max (u0.abs.length : Int) (u2.abs.length : Int)) + 1)) ∧ (w64 ((max (u0.abs.length : Int) (u2.abs.length : Int)) + 1)) ≤ 1000000) ∧
    (∀ r92, (glowS u2 (w64 ((max (u0.abs.length : Int) (u2.abs.length : Int)) + 1))) = r92 →
    (r92.1.length ≤ 140737488355328 →
    (r92.2.abs.length ≤ 140737488355328 →
    (∃ inv115 : Int → (List Int) → Prop, ∃ mu115 : Int → (List Int) → Nat, inv115 0 r68.1 ∧
    (∀ (x10 : Int) (zao72 : List Int), inv115 x10 zao72 →
    (((decide (x10 < (w64 ((max (u0.abs.length : Int) (u2.abs.length : Int)) + 1)))) = true →
      ((0 ≤ x10 ∧ x10 < (zao72.length : Int)) ∧
      (∀ qd3_0, zao72[x10.toNat]? = some qd3_0 →
      ((0 ≤ x10 ∧ x10 < (r92.1.length : Int)) ∧
      (∀ qd6_1, r92.1[x10.toNat]? = some qd6_1 →
      ((0 ≤ x10 ∧ x10 < (zao72.length : Int)) ∧
      (inv115 (w64 (x10 + 1)) (zao72.set x10.toNat (bXor .u32 qd3_0 qd6_1)) ∧ mu115 (w64 (x10 + 1)) (zao72.set x10.toNat (bXor .u32 qd3_0 qd6_1)) < mu115 x10 zao72))))))) ∧
    ((decide (x10 < (w64 ((max (u0.abs.length : Int) (u2.abs.length : Int)) + 1)))) = false →
      ((wok zao72 ∧ zao72.length ≤ 1000000 ∧ ∀ q, zao72[zao72.length - 1]? = some q → q < 2147483648) ∧
      (∀ r339, (gofS r68.2 zao72) = r339 →
      (r339.abs.length ≤ 140737488355328 →
      (K (r339, r92.2)))))))))))))))))))

def gsetbit_vc (u0 : BInt) (u2 : Int) (u3 : Int) (K : BInt → Prop) : Prop :=
  (u0.abs.length ≤ 140737488355328 →
    (((decide (u2 < 0)) = true →
      ((u0.neg = false ∧ u0.abs.length ≤ 1000000) ∧
      (∀ r27, (gsetS u0) = r27 →
      (r27.abs.length ≤ 140737488355328 →
      (K r27))))) ∧
    ((decide (u2 < 0)) = false →
      ((u0.neg = false ∧ (u0.abs.length : Int) ≤ (w64 ((max (u0.abs.length : Int) (w64 ((w64 (u2.tdiv 32)) + 1))) + 1)) ∧ (w64 ((max (u0.abs.length : Int) (w64 ((w64 (u2.tdiv 32)) + 1))) + 1)) ≤ 1000000) ∧
      (∀ r76, (glowS u0 (w64 ((max (u0.abs.length : Int) (w64 ((w64 (u2.tdiv 32)) + 1))) + 1))) = r76 →
      (r76.1.length ≤ 140737488355328 →
      (r76.2.abs.length ≤ 140737488355328 →
      ((0 ≤ w64 (u2.tdiv 32) ∧ w64 (u2.tdiv 32) < (r76.1.length : Int)) ∧
      (∀ q107, r76.1[(w64 (u2.tdiv 32)).toNat]? = some q107 →
      ((0 ≤ (wu64 u2).tmod 32) ∧
      ((0 ≤ w64 (u2.tdiv 32) ∧ w64 (u2.tdiv 32) < (r76.1.length : Int)) ∧
      ((0 ≤ w64 (u2.tdiv 32) ∧ w64 (u2.tdiv 32) < ((r76.1.set (w64 (u2.tdiv 32)).toNat (bAndNot .u32 q107 (bShl .u32 1 ((wu64 u2).tmod 32)))).length : Int)) ∧
      (∀ q155, (r76.1.set (w64 (u2.tdiv 32)).toNat (bAndNot .u32 q107 (bShl .u32 1 ((wu64 u2).tmod 32))))[(w64 (u2.tdiv 32)).toNat]? = some q155 →
      ((0 ≤ (wu64 u2).tmod 32) ∧
      ((0 ≤ w64 (u2.tdiv 32) ∧ w64 (u2.tdiv 32) < ((r76.1.set (w64 (u2.tdiv 32)).toNat (bAndNot .u32 q107 (bShl .u32 1 ((wu64 u2).tmod 32)))).length : Int)) ∧
      ((wok ((r76.1.set (w64 (u2.tdiv 32)).toNat (bAndNot .u32 q107 (bShl .u32 1 ((wu64 u2).tmod 32)))).set (w64 (u2.tdiv 32)).toNat (bOr .u32 q155 (bShl .u32 (wu32 (bAnd .u64 u3 1)) ((wu64 u2).tmod 32)))) ∧ ((r76.1.set (w64 (u2.tdiv 32)).toNat (bAndNot .u32 q107 (bShl .u32 1 ((wu64 u2).tmod 32)))).set (w64 (u2.tdiv 32)).toNat (bOr .u32 q155 (bShl .u32 (wu32 (bAnd .u64 u3 1)) ((wu64 u2).tmod 32)))).length ≤ 1000000 ∧ ∀ q, ((r76.1.set (w64 (u2.tdiv 32)).toNat (bAndNot .u32 q107 (bShl .u32 1 ((wu64 u2).tmod 32)))).set (w64 (u2.tdiv 32)).toNat (bOr .u32 q155 (bShl .u32 (wu32 (bAnd .u64 u3 1)) ((wu64 u2).tmod 32))))[((r76.1.set (w64 (u2.tdiv 32)).toNat (bAndNot .u32 q107 (bShl .u32 1 ((wu64 u2).tmod 32)))).set (w64 (u2.tdiv 32)).toNat (bOr .u32 q155 (bShl .u32 (wu32 (bAnd .u64 u3 1)) ((wu64 u2).tmod 32)))).length - 1]? = some q → q < 2147483648) ∧
      (∀ r205, (gofS r76.2 ((r76.1.set (w64 (u2.tdiv 32)).toNat (bAndNot .u32 q107 (bShl .u32 1 ((wu64 u2).tmod 32)))).set (w64 (u2.tdiv 32)).toNat (bOr .u32 q155 (bShl .u32 (wu32 (bAnd .u64 u3 1)) ((wu64 u2).tmod 32))))) = r205 →
      (r205.abs.length ≤ 140737488355328 →
      (K r205)))))))))))))))))))

def gnew_vc (u0 : Int) (K : BInt → Prop) : Prop :=
  ((0 ≤ u0 ∧ u0 ≤ 9223372036854775807) ∧
    (∀ r18, (gsetiS (⟨false, []⟩ : BInt) u0) = r18 →
    (r18.abs.length ≤ 140737488355328 →
    (K r18))))

def rvalue_vc (u0 : List UInt8) (K : BInt → Prop) : Prop :=
  (((u0 != ([] : List UInt8)) = true →
      ((isRow u0 = true ∧ u0 ≠ [] ∧ u0.length ≤ 1000) ∧
      (∀ r30, (gsetstrS (⟨false, []⟩ : BInt) u0) = r30 →
      (r30.2.2.abs.length ≤ 140737488355328 →
      (K r30.2.2))))) ∧
    ((u0 != ([] : List UInt8)) = false →
      (K (⟨false, []⟩ : BInt))))

/-! Pure proofs: no program in sight. -/
def xr (x y : Int) : Int := ((x.toNat ^^^ y.toNat : Nat) : Int)
theorem tb_words {x p : Nat} (hx : x < 4294967296) (i : Nat) : (x + 4294967296 * p).testBit i = if i < 32 then x.testBit i else p.testBit (i - 32) := by
  rw [Nat.add_comm]
  exact Nat.testBit_two_pow_mul_add p (i := 32) hx i
theorem xor_words {x y p q : Nat} (hx : x < 4294967296) (hy : y < 4294967296) : (x + 4294967296 * p) ^^^ (y + 4294967296 * q) = (x ^^^ y) + 4294967296 * (p ^^^ q) := by
  apply Nat.eq_of_testBit_eq
  intro i
  rw [Nat.testBit_xor, tb_words hx, tb_words hy, tb_words (Nat.xor_lt_two_pow (n := 32) hx hy)]
  split
  · rw [Nat.testBit_xor]
  · rw [Nat.testBit_xor]
theorem xr_zip : ∀ (a b : List Int), wok a → wok b → a.length = b.length → wv (List.zipWith xr a b) = wv a ^^^ wv b ∧ wok (List.zipWith xr a b) := by
  intro a
  induction a with
  | nil => intro b _ _ h; cases b with
    | nil => exact ⟨rfl, wok_nil⟩
    | cons y b => simp at h
  | cons x a ih =>
    intro b ha hb h
    cases b with
    | nil => simp at h
    | cons y b =>
      obtain ⟨h1, h2⟩ := wok_cons ha
      obtain ⟨h3, h4⟩ := wok_cons hb
      obtain ⟨i1, i2⟩ := ih b h2 h4 (by simpa using h)
      have hlt := Nat.xor_lt_two_pow (x := x.toNat) (y := y.toNat) (n := 32) (show _ < 4294967296 by omega) (show _ < 4294967296 by omega)
      have hlt : x.toNat ^^^ y.toNat < 4294967296 := hlt
      rw [List.zipWith_cons_cons, wv, i1, wv, wv, xor_words (by omega) (by omega)]
      refine ⟨?_, fun z hz => ?_⟩
      · unfold xr
        rw [Int.toNat_natCast]
      · rcases List.mem_cons.1 hz with rfl | hz
        · unfold xr
          omega
        · exact i2 z hz
theorem pad_wv (l : List Int) (n : Nat) : wv (l ++ List.replicate n 0) = wv l := by rw [wv_append, wv_rep, Nat.mul_zero, Nat.add_zero]
theorem pad_wok {l : List Int} (h : wok l) (n : Nat) : wok (l ++ List.replicate n 0) := wok_app h (wok_rep n)
def gxorS (z y : BInt) : BInt × BInt := (bigN (wv z.abs ^^^ wv y.abs), y)
theorem gxor_ok (z y : BInt) (h : (z.neg = false ∧ wok z.abs ∧ z.abs.length ≤ 1000) ∧ y.neg = false ∧ wok y.abs ∧ y.abs.length ≤ 1000) : gxor_vc z y (fun r => r = gxorS z y) := by
  obtain ⟨⟨z1, z2, z3⟩, y1, y2, y3⟩ := h
  intro _ _
  have em : (max (z.abs.length : Int) (y.abs.length : Int)) = ((max z.abs.length y.abs.length : Nat) : Int) := by omega
  rw [em, w64_succ _ (by omega)]
  generalize hn : max z.abs.length y.abs.length + 1 = n at *
  refine ⟨⟨z1, by omega, by omega⟩, ?_⟩
  rintro _ rfl _ _
  refine ⟨⟨y1, by omega, by omega⟩, ?_⟩
  rintro _ rfl _ _
  unfold glowS
  dsimp only
  rw [Int.toNat_natCast]
  have la : (z.abs ++ List.replicate (n - z.abs.length) 0).length = n := by simp; omega
  have lb : (y.abs ++ List.replicate (n - y.abs.length) 0).length = n := by simp; omega
  have wa := pad_wok z2 (n - z.abs.length)
  have wb := pad_wok y2 (n - y.abs.length)
  have va := pad_wv z.abs (n - z.abs.length)
  have vb := pad_wv y.abs (n - y.abs.length)
  have ta : (z.abs ++ List.replicate (n - z.abs.length) 0)[n - 1]? = some 0 := by rw [List.getElem?_append_right (by omega), List.getElem?_replicate, if_pos (by omega)]
  have tb : (y.abs ++ List.replicate (n - y.abs.length) 0)[n - 1]? = some 0 := by rw [List.getElem?_append_right (by omega), List.getElem?_replicate, if_pos (by omega)]
  have hgx : gxorS z y = (bigN (wv (z.abs ++ List.replicate (n - z.abs.length) 0) ^^^ wv (y.abs ++ List.replicate (n - y.abs.length) 0)), y) := by rw [va, vb]; rfl
  rw [hgx]
  generalize z.abs ++ List.replicate (n - z.abs.length) 0 = a at *
  generalize y.abs ++ List.replicate (n - y.abs.length) 0 = b at *
  refine ⟨fun i x => ∃ k : Nat, i = k ∧ k ≤ n ∧ x.length = n ∧ (∀ j, k ≤ j → x[j]? = a[j]?) ∧ ∀ j, j < k → x[j]? = (List.zipWith xr a b)[j]?, fun i _ => n - i.toNat, ⟨0, rfl, by omega, la, fun _ _ => rfl, fun j hj => absurd hj (Nat.not_lt_zero _)⟩, ?_⟩
  rintro _ x ⟨k, rfl, hk, hx, h1, h2⟩
  refine ⟨fun h3 => ?_, fun h3 => ?_⟩
  · have hkn : k < n := by have := of_decide_eq_true h3; omega
    refine ⟨by omega, fun q hq => ⟨by omega, fun p hp => ⟨by omega, ?_⟩⟩⟩
    rw [Int.toNat_natCast] at hq hp ⊢
    rw [h1 k (Nat.le_refl _)] at hq
    obtain ⟨u, rfl, hu⟩ := wok_at wa hq
    obtain ⟨v, rfl, hv⟩ := wok_at wb hp
    rw [bxor32 u v hu hv, w64_succ k (by omega)]
    refine ⟨⟨k + 1, rfl, by omega, by rw [List.length_set]; exact hx, fun j hj => ?_, fun j hj => ?_⟩, by (try dsimp only); omega⟩
    · rw [List.getElem?_set_ne (by omega)]
      exact h1 j (by omega)
    · rcases Nat.lt_or_ge j k with hc | hc
      · rw [List.getElem?_set_ne (by omega)]
        exact h2 j hc
      · have : j = k := by omega
        subst this
        rw [List.getElem?_set_self (by omega), List.getElem?_zipWith, hq, hp]
        rfl
  · have hkn : k = n := by have := of_decide_eq_false h3; omega
    subst hkn
    obtain ⟨g1, g2⟩ := xr_zip a b wa wb (by omega)
    have hxe : x = List.zipWith xr a b := by
      apply List.ext_getElem?
      intro j
      rcases Nat.lt_or_ge j k with hc | hc
      · exact h2 j hc
      · rw [List.getElem?_eq_none (by omega), List.getElem?_eq_none (by rw [List.length_zipWith]; omega)]
    subst hxe
    refine ⟨⟨g2, by omega, fun q hq => ?_⟩, fun r hr _ => ?_⟩
    · rw [hx, List.getElem?_zipWith, ta, tb] at hq
      cases hq
      decide
    · unfold gofS at hr
      rw [g1] at hr
      rw [hr]
theorem gxor_lens {a b k : Nat} (ha : a < 2 ^ k) (hb : b < 2 ^ k) : a ^^^ b < 2 ^ k := Nat.xor_lt_two_pow ha hb
def gsetbitS (z : BInt) (i b : Int) : BInt := bigN (wv z.abs + 2 ^ i.toNat)
theorem but_small {v i : Nat} (h : v < 2 ^ i) : but v (2 ^ i) = v := by
  apply Nat.eq_of_testBit_eq
  intro j
  rw [testBit_but, Nat.testBit_two_pow]
  by_cases e : i = j
  · subst e
    rw [Nat.testBit_lt_two_pow h]
    rfl
  · simp [e]
theorem bandnot32 (a b : Nat) (ha : a < 4294967296) (hb : b < 4294967296) : bAndNot .u32 (a : Int) (b : Int) = ((but a b : Nat) : Int) := by
  have h := but_le a b
  unfold bAndNot
  have e : (BitVec.ofInt IntKind.u32.bits (a : Int) &&& ~~~BitVec.ofInt IntKind.u32.bits (b : Int)).toNat = but a b := by
    show (BitVec.ofInt 32 (a : Int) &&& ~~~BitVec.ofInt 32 (b : Int)).toNat = _
    apply Nat.eq_of_testBit_eq
    intro i
    rw [testBit_but, BitVec.toNat_and, Nat.testBit_and, ofInt32_toNat a (by omega)]
    have hn : (~~~BitVec.ofInt 32 (b : Int)).toNat.testBit i = (decide (i < 32) && !b.testBit i) := by
      have h1 := BitVec.testBit_toNat (~~~BitVec.ofInt 32 (b : Int)) (i := i)
      rw [h1, BitVec.getLsbD_not]
      have h2 := BitVec.testBit_toNat (BitVec.ofInt 32 (b : Int)) (i := i)
      rw [← h2, ofInt32_toNat b (by omega)]
    rw [hn]
    by_cases hi : i < 32
    · simp [hi]
    · have h63 : 2 ^ 32 ≤ 2 ^ i := Nat.pow_le_pow_right (by omega) (by omega)
      have p32 : (2 : Nat) ^ 32 = 4294967296 := rfl
      have : a.testBit i = false := Nat.testBit_lt_two_pow (by omega)
      simp [this]
  rw [e]
  exact wu32_eq _ (by omega)
theorem shl32 (n s : Nat) (hs : s ≤ 32) (h : n * 2 ^ s < 4294967296) : bShl .u32 (n : Int) (s : Int) = ((n * 2 ^ s : Nat) : Int) := by
  unfold bShl
  have e : min (s : Int).toNat IntKind.u32.bits = s := by rw [Int.toNat_natCast]; exact Nat.min_eq_left hs
  rw [e]
  have e2 : (n : Int) * 2 ^ s = ((n * 2 ^ s : Nat) : Int) := by norm_cast
  rw [e2]
  exact wu32_eq _ h
theorem gsetbit_ok (z : BInt) (i b : Int) (h : z.neg = false ∧ z.abs = ws (wv z.abs) ∧ wv z.abs < 2 ^ i.toNat ∧ 0 ≤ i ∧ i ≤ 30 ∧ b = 1) : gsetbit_vc z i b (fun r => r = gsetbitS z i b) := by
  obtain ⟨h1, h2, h3, h4, h5, rfl⟩ := h
  obtain ⟨i, rfl⟩ : ∃ n : Nat, i = n := ⟨i.toNat, by omega⟩
  rw [Int.toNat_natCast] at h3
  intro _
  refine ⟨fun h6 => absurd (of_decide_eq_true h6) (by omega), fun _ => ?_⟩
  have p30 : 2 ^ i ≤ 1073741824 := (show 2 ^ i ≤ 2 ^ 30 from Nat.pow_le_pow_right (by omega) (by omega))
  have hw : wok z.abs := by rw [h2]; exact ws_wok _
  have hlen : z.abs.length ≤ 1 := by
    rw [h2]
    exact ws_len 1 _ (by omega)
  have e1 : ((i : Int).tdiv 32) = 0 := by rw [Int.tdiv_eq_ediv_of_nonneg (by omega)]; omega
  have e2 : wu64 (i : Int) = (i : Int) := wu64_eq _ (by omega)
  have e3 : (i : Int).tmod 32 = (i : Int) := by rw [Int.tmod_eq_emod_of_nonneg (by omega)]; omega
  have e4 : w64 (0 : Int) = 0 := rfl
  have e5 : w64 ((0 : Int) + 1) = 1 := rfl
  have e6 : w64 (max (z.abs.length : Int) 1 + 1) = 2 := by
    have : max (z.abs.length : Int) 1 = 1 := by omega
    rw [this]
    rfl
  rw [e1, e2, e3, e4, e5, e6]
  refine ⟨⟨h1, by omega, by omega⟩, ?_⟩
  rintro _ rfl _ _
  have hlow : (glowS z 2).1 = [((wv z.abs : Nat) : Int), 0] := by
    unfold glowS
    dsimp only
    by_cases h0 : wv z.abs = 0
    · rw [h0, ws_zero] at h2
      rw [h2]
      rfl
    · have hz : ws (wv z.abs) = [((wv z.abs : Nat) : Int)] := by
        rw [ws_pos h0, Nat.mod_eq_of_lt (by omega), Nat.div_eq_of_lt (by omega), ws_zero]
      rw [h2, wv_ws, hz]
      rfl
  rw [hlow]
  have s1 : bShl .u32 1 (i : Int) = ((2 ^ i : Nat) : Int) := by
    have := shl32 1 i (by omega) (by omega)
    rw [Nat.one_mul] at this
    exact this
  have s2 : wu32 (bAnd .u64 1 1) = 1 := rfl
  have l2 : ∀ u v : Int, (0 ≤ (0 : Int) ∧ (0 : Int) < ((([u, v] : List Int).length : Nat) : Int)) := fun u v => ⟨by omega, by simp⟩
  refine ⟨l2 _ _, fun q hq => ?_⟩
  cases hq
  rw [s1, bandnot32 _ _ (by omega) (by omega), but_small h3]
  refine ⟨by omega, l2 _ _, l2 _ _, fun q hq => ?_⟩
  cases hq
  have s3 : bOr .u32 ((wv z.abs : Nat) : Int) ((2 ^ i : Nat) : Int) = ((wv z.abs + 2 ^ i : Nat) : Int) := by
    rw [bor32 _ _ (by omega) (by omega), or_add (r := i) (m := 1) h3 (by rw [Nat.one_mul])]
  rw [s2, s1, s3]
  have hfin : ((([((wv z.abs : Nat) : Int), 0] : List Int).set (0 : Int).toNat ((wv z.abs : Nat) : Int)).set (0 : Int).toNat ((wv z.abs + 2 ^ i : Nat) : Int)) = [((wv z.abs + 2 ^ i : Nat) : Int), 0] := rfl
  rw [hfin]
  refine ⟨by omega, l2 _ _, ⟨?_, by simp, fun q hq => ?_⟩, fun r hr _ => ?_⟩
  · intro y hy
    rcases List.mem_cons.1 hy with rfl | hy
    · omega
    · rw [List.mem_singleton.1 hy]; decide
  · cases hq
    decide
  · rw [← hr]
    unfold gofS gsetbitS
    rw [Int.toNat_natCast]
    simp only [wv, Int.toNat_natCast]
    rfl
def gnewS (x : Int) : BInt := bigN x.toNat
theorem gnew_ok (x : Int) (h : 0 ≤ x ∧ x ≤ 9223372036854775807) : gnew_vc x (fun r => r = gnewS x) := by
  refine ⟨h, ?_⟩
  rintro _ rfl _
  rfl
def rvalueS (s : List UInt8) : BInt := bigN (val s)
theorem rvalue_ok (s : List UInt8) (h : isRow s = true ∧ s.length ≤ 1000) : rvalue_vc s (fun r => r = rvalueS s) := by
  refine ⟨fun h1 => ?_, fun h1 => ?_⟩
  · refine ⟨⟨h.1, by simpa using h1, h.2⟩, ?_⟩
    rintro _ rfl _
    rfl
  · have h1 : s = [] := by simpa using h1
    subst h1
    unfold rvalueS bigN
    rw [val, ws_zero]

end Go.Proofs.YtinegicenfndkaaDoor
