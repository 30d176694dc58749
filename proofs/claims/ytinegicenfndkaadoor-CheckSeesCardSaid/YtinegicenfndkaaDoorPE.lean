/- Pure proofs: no program in sight. -/
import Derived.Test.YtinegicenfndkaaDoorVE
set_option linter.unusedVariables false
set_option linter.unusedSimpArgs false
namespace Go.Proofs.YtinegicenfndkaaDoor
open Go.Sy Go.RowKit
theorem crcG_zero (S p : Nat) : crcG S p 0 false = 0 := by simp [crcG]
theorem top_eq {S r : Nat} (hS : 1 ≤ S) (hr : r < 2 ^ S) : r.testBit (S - 1) = decide (2 ^ (S - 1) ≤ r) := by
  have hp : 2 ^ S = 2 * 2 ^ (S - 1) := by rw [show S = (S - 1) + 1 by omega, Nat.pow_succ]; simp; omega
  rw [Nat.testBit_eq_decide_div_mod_eq]
  by_cases h : 2 ^ (S - 1) ≤ r
  · have : r / 2 ^ (S - 1) = 1 := by
      rw [Nat.div_eq_iff (Nat.two_pow_pos _)]
      omega
    simp [h, this]
  · have : r / 2 ^ (S - 1) = 0 := Nat.div_eq_of_lt (by omega)
    simp [h, this]
theorem dbl_mod {S r : Nat} (hS : 1 ≤ S) (hr : r < 2 ^ S) : 2 * r % 2 ^ S + (if 2 ^ (S - 1) ≤ r then 2 ^ S else 0) = 2 * r := by
  have hp : 2 ^ S = 2 * 2 ^ (S - 1) := by rw [show S = (S - 1) + 1 by omega, Nat.pow_succ]; simp; omega
  split
  · rename_i h
    rw [show 2 * r = (2 * r - 2 ^ S) + 2 ^ S by omega, Nat.add_mod_right, Nat.mod_eq_of_lt (by omega)]
  · rw [Nat.mod_eq_of_lt (by omega)]; rfl
theorem xor_odd {a p : Nat} (ha : a % 2 = 0) (hp : p % 2 = 1) : (a ^^^ p) % 2 = 1 := by
  have h : (a ^^^ p).testBit 0 = true := by
    rw [Nat.testBit_xor, Nat.testBit_zero, Nat.testBit_zero, ha, hp]
    rfl
  rw [Nat.testBit_zero] at h
  exact of_decide_eq_true h
/-- Which register comes to nothing by a row. -/
theorem crc_back {S p : Nat} (hS : 1 ≤ S) (hp : p < 2 ^ S) (hodd : p % 2 = 1) : ∀ (l : List UInt8) (r : Nat), isRow l = true → l.length ≤ S → r < 2 ^ S → crcF S p r l = 0 → r = val l * 2 ^ (S - l.length) := by
  intro l
  induction l with
  | nil => intro r _ _ _ h; rw [crcF] at h; rw [h, val]; simp
  | cons c l ih =>
    intro r hrow hlen hr h
    rw [isRow_cons, Bool.and_eq_true] at hrow
    rw [List.length_cons] at hlen
    rw [crcF] at h
    have h1 := ih _ hrow.2 (by omega) (crcG_lt hp) h
    obtain ⟨k, hk⟩ : ∃ k, S - l.length = k + 1 := ⟨S - l.length - 1, by omega⟩
    rw [hk, Nat.pow_succ] at h1
    have hpw : 2 ^ S = 2 ^ l.length * 2 ^ k * 2 := by rw [← Nat.pow_add, ← Nat.pow_succ]; congr 1; omega
    have hpS : 2 ^ (S - 1) = 2 ^ l.length * 2 ^ k := by rw [← Nat.pow_add]; congr 1; omega
    have hd := dbl_mod hS hr
    have hev : 2 * r % 2 ^ S % 2 = 0 := by
      rw [Nat.mod_mod_of_dvd _ (by rw [hpw]; exact Nat.dvd_mul_left _ _)]
      omega
    unfold crcG at h1
    rw [top_eq hS hr] at h1
    by_cases ht : (decide (2 ^ (S - 1) ≤ r) != isOne c) = true
    · exfalso
      rw [if_pos ht] at h1
      have h2 := xor_odd hev hodd
      rw [h1] at h2
      have : val l * (2 ^ k * 2) % 2 = 0 := by rw [← Nat.mul_assoc]; exact Nat.mul_mod_left _ _
      omega
    · rw [if_neg ht, Nat.xor_zero] at h1
      have ht : decide (2 ^ (S - 1) ≤ r) = isOne c := by simpa using ht
      rw [List.length_cons, show S - (l.length + 1) = k by omega, val]
      have e1 : val l * (2 ^ k * 2) = 2 * (val l * 2 ^ k) := by rw [← Nat.mul_assoc, Nat.mul_comm]
      rw [Nat.add_mul, Nat.mul_assoc, ← hpS]
      rcases isBit_or hrow.1 with rfl | rfl
      · have e2 : ¬ 2 ^ (S - 1) ≤ r := by
          have : isOne 48 = false := rfl
          rw [this] at ht
          exact of_decide_eq_false ht
        rw [if_neg e2] at hd
        have e3 : (48 : UInt8).toNat - 48 = 0 := rfl
        rw [e3]
        omega
      · have e2 : 2 ^ (S - 1) ≤ r := by
          have : isOne 49 = true := rfl
          rw [this] at ht
          exact of_decide_eq_true ht
        rw [if_pos e2] at hd
        have e3 : (49 : UInt8).toNat - 48 = 1 := rfl
        rw [e3]
        omega
/-- A register goes to nothing by its own row. -/
theorem crc_own {S p : Nat} (hS : 1 ≤ S) : ∀ (s n : Nat), s ≤ S → crcF S p (n % 2 ^ s * 2 ^ (S - s)) (wr s n) = 0 := by
  intro s
  induction s with
  | zero => intro n _; simp [wr, crcF, Nat.mod_one]
  | succ s ih =>
    intro n hs
    obtain ⟨k, hk⟩ : ∃ k, S - s = k + 1 := ⟨S - s - 1, by omega⟩
    have hk2 : S - (s + 1) = k := by omega
    have h0 := ih n (by omega)
    rw [hk, Nat.pow_succ] at h0
    rw [hk2, wr, crcF]
    have hpw : 2 ^ S = 2 ^ s * 2 ^ k * 2 := by rw [← Nat.pow_add, ← Nat.pow_succ]; congr 1; omega
    have hpS : 2 ^ (S - 1) = 2 ^ s * 2 ^ k := by rw [← Nat.pow_add]; congr 1; omega
    have hm : n % 2 ^ (s + 1) = n % 2 ^ s + 2 ^ s * (n / 2 ^ s % 2) := by rw [Nat.pow_succ, Nat.mod_mul]
    have hlt : n % 2 ^ s < 2 ^ s := Nat.mod_lt _ (Nat.two_pow_pos _)
    have hlt2 : n % 2 ^ s * 2 ^ k < 2 ^ s * 2 ^ k := Nat.mul_lt_mul_of_pos_right hlt (Nat.two_pow_pos _)
    have hb := Nat.mod_two_eq_zero_or_one (n / 2 ^ s)
    generalize hx : n % 2 ^ s * 2 ^ k = x at *
    have hr : n % 2 ^ (s + 1) * 2 ^ k = x + 2 ^ s * 2 ^ k * (n / 2 ^ s % 2) := by
      rw [hm, Nat.add_mul, hx]
      congr 1
      rw [Nat.mul_assoc, Nat.mul_assoc, Nat.mul_comm (2 ^ k)]
    have hone : isOne (UInt8.ofNat (48 + n / 2 ^ s % 2)) = decide (n / 2 ^ s % 2 = 1) := by rcases hb with h | h <;> rw [h] <;> rfl
    have hG : crcG S p (n % 2 ^ (s + 1) * 2 ^ k) (isOne (UInt8.ofNat (48 + n / 2 ^ s % 2))) = n % 2 ^ s * (2 ^ k * 2) := by
      have hrlt : n % 2 ^ (s + 1) * 2 ^ k < 2 ^ S := by rw [hr, hpw]; rcases hb with h | h <;> rw [h] <;> omega
      have hd := dbl_mod hS hrlt
      have ht : (n % 2 ^ (s + 1) * 2 ^ k).testBit (S - 1) = decide (n / 2 ^ s % 2 = 1) := by
        rw [top_eq hS hrlt, hr, hpS]
        rcases hb with h | h <;> rw [h]
        · have : ¬ 2 ^ s * 2 ^ k ≤ x + 2 ^ s * 2 ^ k * 0 := by omega
          simp [this]; omega
        · have : 2 ^ s * 2 ^ k ≤ x + 2 ^ s * 2 ^ k * 1 := by omega
          simp
      unfold crcG
      rw [ht, hone, if_neg (by simp), Nat.xor_zero]
      have e : n % 2 ^ s * (2 ^ k * 2) = 2 * x := by rw [← hx, ← Nat.mul_assoc, Nat.mul_comm]
      rw [e]
      rw [hr, hpS, hpw] at hd
      rcases hb with h | h
      · rw [h] at hd
        rw [if_neg (by omega)] at hd
        rw [hr, h, hpw]
        omega
      · rw [h] at hd
        rw [if_pos (by omega)] at hd
        rw [hr, h, hpw]
        omega
    rw [hG]
    exact h0
def zeros (n : Nat) : List UInt8 := List.replicate n 48
theorem zeros_row (n : Nat) : isRow (zeros n) = true := by
  unfold zeros isRow
  rw [List.all_replicate]
  cases n <;> simp [isBit]
theorem crc_zeros (S p n : Nat) : crcF S p 0 (zeros n) = 0 := by
  induction n with
  | zero => rfl
  | succ n ih =>
    rw [zeros, List.replicate_succ, crcF]
    have : isOne 48 = false := rfl
    rw [this, crcG_zero]
    exact ih
theorem crc_zeros_back {S p : Nat} (hS : 1 ≤ S) (hp : p < 2 ^ S) (hodd : p % 2 = 1) (n : Nat) : ∀ r, r < 2 ^ S → crcF S p r (zeros n) = 0 → r = 0 := by
  induction n with
  | zero => exact fun r _ h => h
  | succ n ih =>
    intro r hr h
    rw [zeros, List.replicate_succ, crcF] at h
    have h1 := ih _ (crcG_lt hp) h
    have h2 := crc_back hS hp hodd [48] r rfl (by simpa using hS) hr (by rw [crcF, crcF]; exact h1)
    rw [h2]
    simp [val]
theorem val_pos {l : List UInt8} (hr : isRow l = true) (h : (49 : UInt8) ∈ l) : 0 < val l := by
  induction l with
  | nil => cases h
  | cons c l ih =>
    rw [isRow_cons, Bool.and_eq_true] at hr
    rw [val]
    rcases List.mem_cons.1 h with rfl | h
    · have e3 : (49 : UInt8).toNat - 48 = 1 := rfl
      rw [e3]
      have := Nat.two_pow_pos l.length
      omega
    · have := ih hr.2 h
      omega
/-- Turned bits within as many as the register has leave something. -/
theorem burst {S p : Nat} (hS : 1 ≤ S) (hp : p < 2 ^ S) (hodd : p % 2 = 1) {l : List UInt8} (hr : isRow l = true) (h1 : (49 : UInt8) ∈ l) (hl : l.length ≤ S) (m k : Nat) : crcF S p 0 (zeros m ++ (l ++ zeros k)) ≠ 0 := by
  intro h
  rw [crcF_append, crc_zeros, crcF_append] at h
  have h2 := crc_zeros_back hS hp hodd k _ (crcF_lt hp l (Nat.two_pow_pos _)) h
  have h3 := crc_back hS hp hodd l 0 hr hl (Nat.two_pow_pos _) h2
  have h4 := val_pos hr h1
  have := Nat.mul_pos h4 (Nat.two_pow_pos (S - l.length))
  omega
theorem xorR_inj : ∀ {s x y : List UInt8}, isRow s = true → isRow x = true → isRow y = true → x.length = s.length → y.length = s.length → xorR s x = xorR s y → x = y := by
  intro s
  induction s with
  | nil => intro x y _ _ _ h1 h2 _; cases x <;> cases y <;> simp_all
  | cons a s ih =>
    intro x y hs hx hy h1 h2 h
    cases x with
    | nil => cases h1
    | cons b x =>
      cases y with
      | nil => cases h2
      | cons c y =>
        rw [isRow_cons, Bool.and_eq_true] at hs hx hy
        rw [xorR, xorR, List.cons.injEq] at h
        rw [ih hs.2 hx.2 hy.2 (by simpa using h1) (by simpa using h2) h.2]
        congr 1
        have e := congrArg isOne h.1
        rw [xor_one (isBit_or hs.1), xor_one (isBit_or hs.1)] at e
        rcases isBit_or hx.1 with rfl | rfl <;> rcases isBit_or hy.1 with rfl | rfl <;> first | rfl | (exfalso; revert e; cases isOne a <;> decide)
theorem xorR_split : ∀ {a b x y : List UInt8}, a.length = x.length → xorR (a ++ b) (x ++ y) = xorR a x ++ xorR b y := by
  intro a
  induction a with
  | nil => intro b x y h; cases x with
    | nil => cases b <;> rfl
    | cons c x => cases h
  | cons d a ih => intro b x y h; cases x with
    | nil => cases h
    | cons c x => rw [List.cons_append, List.cons_append, xorR, ih (by simpa using h), xorR]; rfl
theorem xorR_pad (a e : List UInt8) (k : Nat) : xorR a (e ++ zeros k) = xorR a e := by
  apply List.ext_getElem?
  intro i
  rw [xorR_get, xorR_get]
  congr 1
  funext x
  have : ((e ++ zeros k)[i]?.any isOne) = (e[i]?.any isOne) := by
    rcases Nat.lt_or_ge i e.length with h | h
    · rw [List.getElem?_append_left h]
    · rw [List.getElem?_append_right h, List.getElem?_eq_none h, zeros, List.getElem?_replicate]
      split <;> rfl
  rw [this]
theorem xorR_snoc {a e : List UInt8} {c : UInt8} (h : e.length < a.length) : ∃ x, a[e.length]? = some x ∧ (istr (xorR a e))[e.length]? = some (x.toNat : Int) ∧ istr (xorR a (e ++ [c])) = if isOne c = true then (istr (xorR a e)).set e.length (bXor .u8 (x.toNat : Int) 1) else istr (xorR a e) := by
  obtain ⟨x, hx⟩ : ∃ x, a[e.length]? = some x := ⟨_, List.getElem?_eq_getElem h⟩
  have hg : (xorR a e)[e.length]? = some x := by rw [xorR_get, hx, List.getElem?_eq_none (Nat.le_refl _)]; rfl
  refine ⟨x, hx, by unfold istr; rw [List.getElem?_map, hg]; rfl, ?_⟩
  have step : ∀ j, (xorR a (e ++ [c]))[j]? = if j = e.length ∧ isOne c = true then some (x ^^^ 1) else (xorR a e)[j]? := by
    intro j
    rw [xorR_get, xorR_get]
    by_cases hj : j = e.length
    · subst hj
      rw [hx, List.getElem?_append_right (Nat.le_refl _), List.getElem?_eq_none (Nat.le_refl _), Nat.sub_self]
      cases hc : isOne c <;> simp [hc]
    · rw [if_neg (by omega)]
      rcases Nat.lt_or_ge j e.length with h1 | h1
      · rw [List.getElem?_append_left h1]
      · rw [List.getElem?_eq_none (l := e ++ [c]) (by simp; omega), List.getElem?_eq_none (l := e) h1]
  unfold istr
  split
  · rename_i h2
    rw [u8_xor1]
    apply List.ext_getElem?
    intro j
    rw [List.getElem?_map, step, List.getElem?_set, List.getElem?_map]
    by_cases hj : j = e.length
    · subst hj
      have hlt : e.length < (List.map (fun b => (b.toNat : Int)) (xorR a e)).length := by simp [xorR_length]; omega
      rw [if_pos rfl, if_pos hlt, if_pos ⟨rfl, h2⟩]
      rfl
    · rw [if_neg (fun h9 => hj h9.1), if_neg (fun h9 => hj h9.symm)]
  · rename_i h2
    congr 1
    apply List.ext_getElem?
    intro j
    rw [step, if_neg (by rw [eq_false_of_ne_true h2]; simp)]
theorem csize_zero {i : Int} (h : isKind i = true) : csize i = ((sizeN i : Int), 0) := by
  rcases kind_cases (isKind_iff.1 h) with rfl | rfl | rfl | rfl | rfl <;> rfl
theorem choldsS_row {i : Int} {b t : List UInt8} (h1 : isKind i = true) (h2 : b.length + sizeN i ≤ 1000) (hb : isRow b = true) (ht : isRow t = true) (hl : t.length = sizeN i) : choldsS i (b ++ t) = (sumR i b == t, 0) := by
  unfold choldsS
  have e1 : bcheckS (b ++ t) = 0 := (bcheck_zero _).2 ⟨by simp; omega, by rw [isRow_append, hb, ht]; rfl⟩
  have e2 : (b ++ t).length - sizeN i = b.length := by simp; omega
  rw [if_neg (by rw [e1]; simp), if_pos h1, if_neg (by simp; omega), e2, List.take_left' rfl, List.drop_left' rfl]
/-- What is turned within as many bits as the sum has is seen. -/
theorem sees {i : Int} {b pat : List UInt8} {m k : Nat} (h1 : isKind i = true) (hb : isRow b = true) (hp : isRow pat = true) (h49 : (49 : UInt8) ∈ pat) (hpl : pat.length ≤ sizeN i) (hlen : m + (pat.length + k) = b.length + sizeN i) (x y : List UInt8) (hx : x.length = b.length) (hxy : x ++ y = zeros m ++ (pat ++ zeros k)) : ¬ sumR i (xorR b x) = xorR (sumR i b) y := by
  intro h
  have hk := isKind_iff.1 h1
  obtain ⟨c1, c2, c3, c4, c5, c6, c7, c8, c9⟩ := kind_ok hk
  have hS : 1 ≤ sizeN i := by unfold sizeN; omega
  have c : ∀ x : Int, 0 ≤ x → x < 2 ^ (kindS i).Size.toNat → x.toNat < 2 ^ sizeN i := fun x hx hl => by
    have : (x.toNat : Int) < ((2 ^ (kindS i).Size.toNat : Nat) : Int) := by push_cast; omega
    exact_mod_cast this
  have hp1 := c _ c3 c4
  have hodd : (kindS i).Poly.toNat % 2 = 1 := by omega
  have hrow : isRow (x ++ y) = true := by rw [hxy, isRow_append, isRow_append, zeros_row, zeros_row, hp]; rfl
  rw [isRow_append, Bool.and_eq_true] at hrow
  have hyl : y.length = sizeN i := by
    have := congrArg List.length hxy
    simp [zeros] at this
    omega
  have hz := burst hS hp1 hodd hp h49 hpl m k
  rw [← hxy, crcF_append] at hz
  have e1 : sumN i (xorR b x) = sumN i b ^^^ crcF (sizeN i) (kindS i).Poly.toNat 0 x := by
    have e := crcF_xor (kindS i).Size.toNat (kindS i).Poly.toNat b x (kindS i).From.toNat 0 hb hx.symm
    rw [Nat.xor_zero] at e
    unfold sumN
    rw [e]
    show _ = _ ^^^ crcF (kindS i).Size.toNat _ 0 x
    rw [Nat.xor_assoc, Nat.xor_assoc, Nat.xor_comm (crcF _ _ 0 x)]
  have hsl := crcF_lt (l := x) hp1 (Nat.two_pow_pos (sizeN i))
  generalize hn : crcF (sizeN i) (kindS i).Poly.toNat 0 x = n at *
  unfold sumR at h
  rw [e1, wr_xor] at h
  have h2 := xorR_inj (wr_row _ _) (wr_row _ _) hrow.2 (by rw [wr_length, wr_length]) (by rw [wr_length]; exact hyl) h
  have h3 := crc_own (p := (kindS i).Poly.toNat) hS (sizeN i) n (Nat.le_refl _)
  rw [Nat.mod_eq_of_lt hsl, Nat.sub_self, Nat.pow_zero, Nat.mul_one, h2] at h3
  exact hz h3
theorem LSees_ok (i : Int) (b : List UInt8) (m : Int) (pat : List UInt8) (hi : IntKind.i64.min ≤ i ∧ i ≤ IntKind.i64.max) (hb0 : b.length ≤ lim) (hm0 : IntKind.i64.min ≤ m ∧ m ≤ IntKind.i64.max) (hp0 : pat.length ≤ lim) : LSees_vc i b m pat (fun r => r = true) := by
  refine ⟨fun _ => rfl, fun h => ⟨by decide, fun _ => rfl, fun h1 => ?_⟩⟩
  have h : ((csumS i b).2 = 0 ∧ (csize i).2 = 0) ∧ bcheckS pat = 0 := by simpa using h
  obtain ⟨k1, l1, r1, e1⟩ := csumS_zero h.1.1
  obtain ⟨l2, r2⟩ := (bcheck_zero pat).1 h.2
  have hk := kind_size (isKind_iff.1 k1)
  have hsz : sizeN i ≤ 21 ∧ 8 ≤ sizeN i := by unfold sizeN; omega
  rw [csize_zero k1] at h1
  rw [e1]
  dsimp only at h1 ⊢
  rw [w64_eq ((b.length : Int) + (sizeN i : Int)) (by omega), w64_eq _ (by omega)] at h1
  have h1 : (((contS pat [49] = true ∧ pat.length ≤ sizeN i) ∧ (b.length : Int) + sizeN i ≤ 1000) ∧ 0 ≤ m) ∧ m ≤ (b.length : Int) + sizeN i - pat.length := by simpa using h1
  obtain ⟨⟨⟨⟨h2, h3⟩, h4⟩, h5⟩, h6⟩ := h1
  have h49 := (contS_iff pat).1 h2
  obtain ⟨n, rfl⟩ : ∃ n : Nat, m = n := ⟨m.toNat, by omega⟩
  have hsl := sumR_length i b
  have hsr : isRow (sumR i b) = true := wr_row _ _
  have hrow : isRow (b ++ sumR i b) = true := by rw [isRow_append, r1]; exact wr_row _ _
  have hL : (b ++ sumR i b).length = b.length + sizeN i := by rw [List.length_append, hsl]
  have zl : ∀ n, (zeros n).length = n := fun n => by simp [zeros]
  refine ⟨by omega, by omega, fun x z => ∃ k : Nat, x = k ∧ k ≤ pat.length ∧ z = istr (xorR (b ++ sumR i b) (zeros n ++ pat.take k)), fun x _ => pat.length - x.toNat, ⟨0, rfl, by omega, ?_⟩, ?_⟩
  · congr 1
    rw [List.take_zero, show zeros n ++ [] = [] ++ zeros n by simp, xorR_pad]
    cases b ++ sumR i b <;> rfl
  rintro _ _ ⟨k, rfl, hkp, rfl⟩
  have hzl : (istr (xorR (b ++ sumR i b) (zeros n ++ pat.take k))).length = b.length + sizeN i := by unfold istr; rw [List.length_map, xorR_length, hL]
  refine ⟨fun h7 => ?_, fun h7 => ?_⟩
  · have hkp : k < pat.length := by have := of_decide_eq_true h7; omega
    rw [w64_succ k (by omega), w64_eq ((n : Int) + (k : Int)) (by omega), hzl]
    refine ⟨by omega, fun c hc => ?_⟩
    rw [Int.toNat_natCast] at hc
    have e2 : ((c.toNat : Int) == 49) = isOne c := by
      unfold isOne
      by_cases hc : c = 49
      · subst hc; rfl
      · have h9 : ¬ c.toNat = 49 := fun h => hc (UInt8.toNat_inj.1 h)
        have h8 : ¬ (c.toNat : Int) = 49 := by omega
        rw [show ((c.toNat : Int) == 49) = false by simpa using h8, show (c == 49) = false by simpa using hc]
    rw [e2]
    have hel : (zeros n ++ pat.take k).length = n + k := by rw [List.length_append, zl, List.length_take]; omega
    obtain ⟨x, _, hx2, hx3⟩ := xorR_snoc (a := b ++ sumR i b) (e := zeros n ++ pat.take k) (c := c) (by omega)
    have enx : zeros n ++ pat.take (k + 1) = (zeros n ++ pat.take k) ++ [c] := by rw [take_next pat k c hc]; simp
    have eidx : ((n : Int) + (k : Int)).toNat = (zeros n ++ pat.take k).length := by omega
    rw [eidx]
    refine ⟨fun h8 => ⟨by omega, fun q hq => ⟨by omega, ?_⟩⟩, fun h8 => ?_⟩
    · rw [hx2] at hq
      cases hq
      rw [if_pos h8] at hx3
      exact ⟨⟨k + 1, rfl, by omega, by rw [enx, hx3]⟩, by (try dsimp only); omega⟩
    · rw [if_neg (by rw [h8]; simp)] at hx3
      exact ⟨⟨k + 1, rfl, by omega, by rw [enx, hx3]⟩, by (try dsimp only); omega⟩
  · have : k = pat.length := by have := of_decide_eq_false h7; omega
    subst this
    rw [List.take_length]
    refine ⟨by omega, ?_⟩
    obtain ⟨q, hq⟩ : ∃ q : Nat, n + (pat.length + q) = b.length + sizeN i := ⟨b.length + sizeN i - n - pat.length, by omega⟩
    have ebs : bstr (istr (xorR (b ++ sumR i b) (zeros n ++ pat))) = xorR (b ++ sumR i b) (zeros n ++ pat) := by unfold istr; exact bstr_ints _
    rw [ebs]
    have epad : xorR (b ++ sumR i b) (zeros n ++ pat) = xorR (b ++ sumR i b) (zeros n ++ (pat ++ zeros q)) := by rw [← List.append_assoc, xorR_pad]
    have hEl : (zeros n ++ (pat ++ zeros q)).length = b.length + sizeN i := by simp [zl]; omega
    obtain ⟨x, y, hxy, hx⟩ : ∃ x y, x ++ y = zeros n ++ (pat ++ zeros q) ∧ x.length = b.length := ⟨_, _, List.take_append_drop b.length _, by rw [List.length_take]; omega⟩
    rw [epad, ← hxy, xorR_split hx.symm, choldsS_row k1 (by omega) r1 hsr hsl, choldsS_row k1 (by rw [xorR_length]; omega) (xorR_row r1 x) (xorR_row hsr y) (by rw [xorR_length]; exact hsl)]
    have hno := sees k1 r1 r2 h49 h3 hq x y hx hxy
    have e9 : (sumR i (xorR b x) == xorR (sumR i b) y) = false := by simpa using hno
    dsimp only
    rw [e9]
    simp

end Go.Proofs.YtinegicenfndkaaDoor
