/- What must hold so that each function ends well: pure predicates, made by program. -/
import Derived.Test.YtfafpnacflcgmaaDoorPBf
set_option linter.unusedVariables false
set_option linter.unusedSimpArgs false
namespace Go.Proofs.YtfafpnacflcgmaaDoor
open Go.Sy Go.RowKit
def tz_vc (u0 : Int) (K : Int → Prop) : Prop :=
  ((u0 = 2) ∧
    (K (tz64S u0)))

def fbits_vc (u1 : Int) (u3 : Bool) (K : ((List Int) × (List UInt8)) → Prop) : Prop :=
  ((u3 = true →
      (((isp2 2) = true →
        (tz_vc 2 fun r64 =>
        (∃ inv92 : Int → Int → (List Int) → Prop, ∃ mu92 : Int → Int → (List Int) → Nat, inv92 (wu64 (0 - u1)) 65 (List.replicate 65 (0 : Int)) ∧
        (∀ (x1 : Int) (x13 : Int) (zb280 : List Int), inv92 x1 x13 zb280 →
        (((decide (x1 ≥ 2)) = true →
          ((0 ≤ bAnd .u64 x1 (wu64 (2 - 1)) ∧ bAnd .u64 x1 (wu64 (2 - 1)) < (([48, 49, 50, 51, 52, 53, 54, 55, 56, 57, 97, 98, 99, 100, 101, 102, 103, 104, 105, 106, 107, 108, 109, 110, 111, 112, 113, 114, 115, 116, 117, 118, 119, 120, 121, 122] : List UInt8).length : Int)) ∧
          (∀ c132, ([48, 49, 50, 51, 52, 53, 54, 55, 56, 57, 97, 98, 99, 100, 101, 102, 103, 104, 105, 106, 107, 108, 109, 110, 111, 112, 113, 114, 115, 116, 117, 118, 119, 120, 121, 122] : List UInt8)[(bAnd .u64 x1 (wu64 (2 - 1))).toNat]? = some c132 →
          (((0 ≤ w64 (x13 - 1) ∧ w64 (x13 - 1) < 65) ∧ zb280.length = 65) ∧
          ((0 ≤ wu64 r64) ∧
          (inv92 (bShr .u64 x1 (wu64 r64)) (w64 (x13 - 1)) (zb280.set (w64 (x13 - 1)).toNat (c132.toNat : Int)) ∧ mu92 (bShr .u64 x1 (wu64 r64)) (w64 (x13 - 1)) (zb280.set (w64 (x13 - 1)).toNat (c132.toNat : Int)) < mu92 x1 x13 zb280)))))) ∧
        ((decide (x1 ≥ 2)) = false →
          ((0 ≤ x1 ∧ x1 < (([48, 49, 50, 51, 52, 53, 54, 55, 56, 57, 97, 98, 99, 100, 101, 102, 103, 104, 105, 106, 107, 108, 109, 110, 111, 112, 113, 114, 115, 116, 117, 118, 119, 120, 121, 122] : List UInt8).length : Int)) ∧
          (∀ c171, ([48, 49, 50, 51, 52, 53, 54, 55, 56, 57, 97, 98, 99, 100, 101, 102, 103, 104, 105, 106, 107, 108, 109, 110, 111, 112, 113, 114, 115, 116, 117, 118, 119, 120, 121, 122] : List UInt8)[x1.toNat]? = some c171 →
          (((0 ≤ w64 (x13 - 1) ∧ w64 (x13 - 1) < 65) ∧ zb280.length = 65) ∧
          (((0 ≤ w64 ((w64 (x13 - 1)) - 1) ∧ w64 ((w64 (x13 - 1)) - 1) < 65) ∧ (zb280.set (w64 (x13 - 1)).toNat (c171.toNat : Int)).length = 65) ∧
          (((0 ≤ w64 ((w64 (x13 - 1)) - 1) ∧ w64 ((w64 (x13 - 1)) - 1) ≤ 65) ∧ ((zb280.set (w64 (x13 - 1)).toNat (c171.toNat : Int)).set (w64 ((w64 (x13 - 1)) - 1)).toNat 45).length = 65) ∧
          (K (([] : List Int), bstr (((zb280.set (w64 (x13 - 1)).toNat (c171.toNat : Int)).set (w64 ((w64 (x13 - 1)) - 1)).toNat 45).drop (w64 ((w64 (x13 - 1)) - 1)).toNat)))))))))))))) ∧
      ((isp2 2) = false →
        (∃ inv240 : Int → Int → (List Int) → Prop, ∃ mu240 : Int → Int → (List Int) → Nat, inv240 (wu64 (0 - u1)) 65 (List.replicate 65 (0 : Int)) ∧
        (∀ (x1 : Int) (x13 : Int) (zb280 : List Int), inv240 x1 x13 zb280 →
        (((decide (x1 ≥ 2)) = true →
          ((0 ≤ wu64 (x1 - (wu64 ((wu64 (x1.tdiv 2)) * 2))) ∧ wu64 (x1 - (wu64 ((wu64 (x1.tdiv 2)) * 2))) < (([48, 49, 50, 51, 52, 53, 54, 55, 56, 57, 97, 98, 99, 100, 101, 102, 103, 104, 105, 106, 107, 108, 109, 110, 111, 112, 113, 114, 115, 116, 117, 118, 119, 120, 121, 122] : List UInt8).length : Int)) ∧
          (∀ c293, ([48, 49, 50, 51, 52, 53, 54, 55, 56, 57, 97, 98, 99, 100, 101, 102, 103, 104, 105, 106, 107, 108, 109, 110, 111, 112, 113, 114, 115, 116, 117, 118, 119, 120, 121, 122] : List UInt8)[(wu64 (x1 - (wu64 ((wu64 (x1.tdiv 2)) * 2)))).toNat]? = some c293 →
          (((0 ≤ w64 (x13 - 1) ∧ w64 (x13 - 1) < 65) ∧ zb280.length = 65) ∧
          (inv240 (wu64 (x1.tdiv 2)) (w64 (x13 - 1)) (zb280.set (w64 (x13 - 1)).toNat (c293.toNat : Int)) ∧ mu240 (wu64 (x1.tdiv 2)) (w64 (x13 - 1)) (zb280.set (w64 (x13 - 1)).toNat (c293.toNat : Int)) < mu240 x1 x13 zb280))))) ∧
        ((decide (x1 ≥ 2)) = false →
          ((0 ≤ x1 ∧ x1 < (([48, 49, 50, 51, 52, 53, 54, 55, 56, 57, 97, 98, 99, 100, 101, 102, 103, 104, 105, 106, 107, 108, 109, 110, 111, 112, 113, 114, 115, 116, 117, 118, 119, 120, 121, 122] : List UInt8).length : Int)) ∧
          (∀ c327, ([48, 49, 50, 51, 52, 53, 54, 55, 56, 57, 97, 98, 99, 100, 101, 102, 103, 104, 105, 106, 107, 108, 109, 110, 111, 112, 113, 114, 115, 116, 117, 118, 119, 120, 121, 122] : List UInt8)[x1.toNat]? = some c327 →
          (((0 ≤ w64 (x13 - 1) ∧ w64 (x13 - 1) < 65) ∧ zb280.length = 65) ∧
          (((0 ≤ w64 ((w64 (x13 - 1)) - 1) ∧ w64 ((w64 (x13 - 1)) - 1) < 65) ∧ (zb280.set (w64 (x13 - 1)).toNat (c327.toNat : Int)).length = 65) ∧
          (((0 ≤ w64 ((w64 (x13 - 1)) - 1) ∧ w64 ((w64 (x13 - 1)) - 1) ≤ 65) ∧ ((zb280.set (w64 (x13 - 1)).toNat (c327.toNat : Int)).set (w64 ((w64 (x13 - 1)) - 1)).toNat 45).length = 65) ∧
          (K (([] : List Int), bstr (((zb280.set (w64 (x13 - 1)).toNat (c327.toNat : Int)).set (w64 ((w64 (x13 - 1)) - 1)).toNat 45).drop (w64 ((w64 (x13 - 1)) - 1)).toNat))))))))))))))) ∧
    (u3 = false →
      (((isp2 2) = true →
        (tz_vc 2 fun r402 =>
        (∃ inv429 : Int → Int → (List Int) → Prop, ∃ mu429 : Int → Int → (List Int) → Nat, inv429 u1 65 (List.replicate 65 (0 : Int)) ∧
        (∀ (x1 : Int) (x13 : Int) (zb280 : List Int), inv429 x1 x13 zb280 →
        (((decide (x1 ≥ 2)) = true →
          ((0 ≤ bAnd .u64 x1 (wu64 (2 - 1)) ∧ bAnd .u64 x1 (wu64 (2 - 1)) < (([48, 49, 50, 51, 52, 53, 54, 55, 56, 57, 97, 98, 99, 100, 101, 102, 103, 104, 105, 106, 107, 108, 109, 110, 111, 112, 113, 114, 115, 116, 117, 118, 119, 120, 121, 122] : List UInt8).length : Int)) ∧
          (∀ c469, ([48, 49, 50, 51, 52, 53, 54, 55, 56, 57, 97, 98, 99, 100, 101, 102, 103, 104, 105, 106, 107, 108, 109, 110, 111, 112, 113, 114, 115, 116, 117, 118, 119, 120, 121, 122] : List UInt8)[(bAnd .u64 x1 (wu64 (2 - 1))).toNat]? = some c469 →
          (((0 ≤ w64 (x13 - 1) ∧ w64 (x13 - 1) < 65) ∧ zb280.length = 65) ∧
          ((0 ≤ wu64 r402) ∧
          (inv429 (bShr .u64 x1 (wu64 r402)) (w64 (x13 - 1)) (zb280.set (w64 (x13 - 1)).toNat (c469.toNat : Int)) ∧ mu429 (bShr .u64 x1 (wu64 r402)) (w64 (x13 - 1)) (zb280.set (w64 (x13 - 1)).toNat (c469.toNat : Int)) < mu429 x1 x13 zb280)))))) ∧
        ((decide (x1 ≥ 2)) = false →
          ((0 ≤ x1 ∧ x1 < (([48, 49, 50, 51, 52, 53, 54, 55, 56, 57, 97, 98, 99, 100, 101, 102, 103, 104, 105, 106, 107, 108, 109, 110, 111, 112, 113, 114, 115, 116, 117, 118, 119, 120, 121, 122] : List UInt8).length : Int)) ∧
          (∀ c508, ([48, 49, 50, 51, 52, 53, 54, 55, 56, 57, 97, 98, 99, 100, 101, 102, 103, 104, 105, 106, 107, 108, 109, 110, 111, 112, 113, 114, 115, 116, 117, 118, 119, 120, 121, 122] : List UInt8)[x1.toNat]? = some c508 →
          (((0 ≤ w64 (x13 - 1) ∧ w64 (x13 - 1) < 65) ∧ zb280.length = 65) ∧
          (((0 ≤ w64 (x13 - 1) ∧ w64 (x13 - 1) ≤ 65) ∧ (zb280.set (w64 (x13 - 1)).toNat (c508.toNat : Int)).length = 65) ∧
          (K (([] : List Int), bstr ((zb280.set (w64 (x13 - 1)).toNat (c508.toNat : Int)).drop (w64 (x13 - 1)).toNat))))))))))))) ∧
      ((isp2 2) = false →
        (∃ inv558 : Int → Int → (List Int) → Prop, ∃ mu558 : Int → Int → (List Int) → Nat, inv558 u1 65 (List.replicate 65 (0 : Int)) ∧
        (∀ (x1 : Int) (x13 : Int) (zb280 : List Int), inv558 x1 x13 zb280 →
        (((decide (x1 ≥ 2)) = true →
          ((0 ≤ wu64 (x1 - (wu64 ((wu64 (x1.tdiv 2)) * 2))) ∧ wu64 (x1 - (wu64 ((wu64 (x1.tdiv 2)) * 2))) < (([48, 49, 50, 51, 52, 53, 54, 55, 56, 57, 97, 98, 99, 100, 101, 102, 103, 104, 105, 106, 107, 108, 109, 110, 111, 112, 113, 114, 115, 116, 117, 118, 119, 120, 121, 122] : List UInt8).length : Int)) ∧
          (∀ c611, ([48, 49, 50, 51, 52, 53, 54, 55, 56, 57, 97, 98, 99, 100, 101, 102, 103, 104, 105, 106, 107, 108, 109, 110, 111, 112, 113, 114, 115, 116, 117, 118, 119, 120, 121, 122] : List UInt8)[(wu64 (x1 - (wu64 ((wu64 (x1.tdiv 2)) * 2)))).toNat]? = some c611 →
          (((0 ≤ w64 (x13 - 1) ∧ w64 (x13 - 1) < 65) ∧ zb280.length = 65) ∧
          (inv558 (wu64 (x1.tdiv 2)) (w64 (x13 - 1)) (zb280.set (w64 (x13 - 1)).toNat (c611.toNat : Int)) ∧ mu558 (wu64 (x1.tdiv 2)) (w64 (x13 - 1)) (zb280.set (w64 (x13 - 1)).toNat (c611.toNat : Int)) < mu558 x1 x13 zb280))))) ∧
        ((decide (x1 ≥ 2)) = false →
          ((0 ≤ x1 ∧ x1 < (([48, 49, 50, 51, 52, 53, 54, 55, 56, 57, 97, 98, 99, 100, 101, 102, 103, 104, 105, 106, 107, 108, 109, 110, 111, 112, 113, 114, 115, 116, 117, 118, 119, 120, 121, 122] : List UInt8).length : Int)) ∧
          (∀ c645, ([48, 49, 50, 51, 52, 53, 54, 55, 56, 57, 97, 98, 99, 100, 101, 102, 103, 104, 105, 106, 107, 108, 109, 110, 111, 112, 113, 114, 115, 116, 117, 118, 119, 120, 121, 122] : List UInt8)[x1.toNat]? = some c645 →
          (((0 ≤ w64 (x13 - 1) ∧ w64 (x13 - 1) < 65) ∧ zb280.length = 65) ∧
          (((0 ≤ w64 (x13 - 1) ∧ w64 (x13 - 1) ≤ 65) ∧ (zb280.set (w64 (x13 - 1)).toNat (c645.toNat : Int)).length = 65) ∧
          (K (([] : List Int), bstr ((zb280.set (w64 (x13 - 1)).toNat (c645.toNat : Int)).drop (w64 (x13 - 1)).toNat)))))))))))))))

/-! Pure proofs: no program in sight. -/
/-- A number in as few bits as it takes. -/
def binS (n : Nat) : List UInt8 := wr (Nat.log2 n + 1) n
def fbitsS (u1 : Int) (u3 : Bool) : List Int × List UInt8 := ([], binS u1.toNat)
theorem drop_set_at {α : Type} (l : List α) (p : Nat) (x : α) (h : p < l.length) : (l.set p x).drop p = x :: l.drop (p + 1) := by
  rw [List.drop_eq_getElem_cons (by rw [List.length_set]; exact h)]
  congr 1
  · simp
  · apply List.ext_getElem?
    intro j
    rw [List.getElem?_drop, List.getElem?_drop, List.getElem?_set, if_neg (by omega)]
theorem digit_at {d : Nat} (hd : d < 2) {c : UInt8} (h : ([48, 49, 50, 51, 52, 53, 54, 55, 56, 57, 97, 98, 99, 100, 101, 102, 103, 104, 105, 106, 107, 108, 109, 110, 111, 112, 113, 114, 115, 116, 117, 118, 119, 120, 121, 122] : List UInt8)[d]? = some c) : c = UInt8.ofNat (48 + d) := by
  have : d = 0 ∨ d = 1 := by omega
  rcases this with rfl | rfl
  · cases h; rfl
  · cases h; rfl
theorem log2_at {n k : Nat} (h1 : n / 2 ^ k < 2) (h2 : k = 0 ∨ 2 ≤ n / 2 ^ (k - 1)) : Nat.log2 n = k := by
  rcases h2 with rfl | h2
  · rw [Nat.pow_zero, Nat.div_one] at h1
    have : n = 0 ∨ n = 1 := by omega
    rcases this with rfl | rfl <;> decide
  · have hk : k ≠ 0 := by
      rintro rfl
      rw [Nat.zero_sub] at h2
      omega
    obtain ⟨j, rfl⟩ : ∃ j, k = j + 1 := ⟨k - 1, by omega⟩
    rw [Nat.add_sub_cancel] at h2
    have hp : 0 < 2 ^ j := Nat.two_pow_pos j
    have a1 : 2 * 2 ^ j ≤ n := (Nat.le_div_iff_mul_le hp).1 h2
    have a2 : n < 2 * 2 ^ (j + 1) := by rwa [Nat.div_lt_iff_lt_mul (Nat.two_pow_pos _)] at h1
    have hn : n ≠ 0 := by omega
    rw [Nat.log2_eq_iff hn, Nat.pow_succ, Nat.pow_succ, Nat.pow_succ]
    rw [Nat.pow_succ] at a2
    omega
theorem fbits_ok (u1 : Int) (u3 : Bool) (h : u3 = false ∧ 0 ≤ u1 ∧ u1 ≤ 9223372036854775807) : fbits_vc u1 u3 (fun r => r = fbitsS u1 u3) := by
  obtain ⟨rfl, h0, h1⟩ := h
  refine ⟨(fun h => by cases h), fun _ => ⟨fun _ => ?_, fun h => absurd h (by decide)⟩⟩
  refine ⟨rfl, ?_⟩
  obtain ⟨n, rfl⟩ : ∃ n : Nat, u1 = n := ⟨u1.toNat, by omega⟩
  have e1 : wu64 (2 - 1) = 1 := rfl
  have e2 : wu64 (tz64S 2) = 1 := rfl
  rw [e1, e2]
  refine ⟨fun x i z => ∃ k : Nat, x = ((n / 2 ^ k : Nat) : Int) ∧ i = ((65 - k : Nat) : Int) ∧ k ≤ 63 ∧ z.length = 65 ∧ bstr (z.drop (65 - k)) = wr k n ∧ (k = 0 ∨ 2 ≤ n / 2 ^ (k - 1)), fun x _ _ => x.toNat, ⟨0, by simp, rfl, by omega, by simp, rfl, .inl rfl⟩, ?_⟩
  rintro _ _ z ⟨k, rfl, rfl, hk, hz, hb, hge⟩
  have hp : 0 < 2 ^ k := Nat.two_pow_pos k
  have hle : n / 2 ^ k ≤ n := Nat.div_le_self _ _
  have ew : w64 (((65 - k : Nat) : Int) - 1) = ((64 - k : Nat) : Int) := by rw [w64_eq _ (by omega)]; omega
  rw [ew, Int.toNat_natCast]
  have key : ∀ c : UInt8, c = UInt8.ofNat (48 + n / 2 ^ k % 2) → bstr ((z.set (64 - k) (c.toNat : Int)).drop (64 - k)) = wr (k + 1) n := by
    rintro c rfl
    rw [drop_set_at _ _ _ (by omega)]
    have e9 : 64 - k + 1 = 65 - k := by omega
    rw [e9]
    show bstr ([((UInt8.ofNat (48 + n / 2 ^ k % 2)).toNat : Int)] ++ z.drop (65 - k)) = _
    rw [bstr_append, bstr_one, hb]
    rfl
  refine ⟨fun h2 => ?_, fun h2 => ?_⟩
  · have h2 : 2 ≤ n / 2 ^ k := by have := of_decide_eq_true h2; omega
    have hk62 : k ≤ 62 := by
      rcases Nat.lt_or_ge 62 k with hc | hc
      · have : k = 63 := by omega
        subst this
        have p63 : (2 : Nat) ^ 63 = 9223372036854775808 := rfl
        rw [p63] at h2
        omega
      · exact hc
    rw [and1 _ (by omega), shr1]
    refine ⟨⟨by omega, by simp; omega⟩, fun c hc => ⟨⟨by omega, hz⟩, by omega, ?_, ?_⟩⟩
    · rw [Int.toNat_natCast] at hc
      have hcc := digit_at (Nat.mod_lt _ (by omega)) hc
      refine ⟨k + 1, by rw [Nat.pow_succ, Nat.div_div_eq_div_mul], by omega, by omega, by rw [List.length_set]; exact hz, ?_, .inr (by rw [Nat.add_sub_cancel]; exact h2)⟩
      have e9 : 65 - (k + 1) = 64 - k := by omega
      rw [e9]
      exact key c hcc
    · dsimp only
      omega
  · have h2 : n / 2 ^ k < 2 := by have := of_decide_eq_false h2; omega
    refine ⟨⟨Int.natCast_nonneg _, Int.lt_trans (b := 2) (by exact_mod_cast h2) (by decide)⟩, fun c hc => ⟨⟨by omega, hz⟩, ⟨by omega, by rw [List.length_set]; exact hz⟩, ?_⟩⟩
    rw [Int.toNat_natCast] at hc
    have hcc := digit_at h2 hc
    show ([], bstr ((z.set (64 - k) (c.toNat : Int)).drop (64 - k))) = fbitsS (n : Int) false
    rw [key c (by rw [hcc, Nat.mod_eq_of_lt h2])]
    unfold fbitsS binS
    rw [Int.toNat_natCast, log2_at h2 hge]

end Go.Proofs.YtfafpnacflcgmaaDoor
