/- What must hold so that each function ends well: pure predicates, made by program. -/
import Derived.Test.YtinegicenfndkaaDoorPBl
set_option linter.unusedVariables false
set_option linter.unusedSimpArgs false
namespace Go.Proofs.YtinegicenfndkaaDoor
open Go.Sy Go.RowKit
def bclone_vc (u0 : List Int) (K : (List Int) → Prop) : Prop :=
  (u0.length ≤ 140737488355328 →
    (∀ nb11, (u0 ≠ [] → nb11 = false) →
    ((nb11 = true →
      (K ([] : List Int))) ∧
    (nb11 = false →
      (((([] : List Int).length + u0.length) * 1 ≤ 140737488355328) ∧
      (K (([] : List Int) ++ u0)))))))

def cbyte_vc (u0 : List Int) (K : Int → Prop) : Prop :=
  (u0.length ≤ 140737488355328 →
    (∃ inv19 : Int → Int → Prop, ∃ mu19 : Int → Int → Nat, inv19 255 0 ∧
    (∀ (x3 : Int) (x8 : Int), inv19 x3 x8 →
    (((decide (x8 < (u0.length : Int))) = true →
      ((0 ≤ x8 ∧ x8 < (u0.length : Int)) ∧
      (∀ q43, u0[x8.toNat]? = some q43 →
      (∃ inv67 : Int → Int → Prop, ∃ mu67 : Int → Int → Nat, inv67 (bXor .u8 x3 q43) 0 ∧
      (∀ (x3v : Int) (x15 : Int), inv67 x3v x15 →
      (((decide (x15 < 8)) = true →
        ((((bAnd .u8 x3v 128) != 0) = true →
          (inv67 (bXor .u8 (bShl .u8 x3v 1) 47) (w64 (x15 + 1)) ∧ mu67 (bXor .u8 (bShl .u8 x3v 1) 47) (w64 (x15 + 1)) < mu67 x3v x15)) ∧
        (((bAnd .u8 x3v 128) != 0) = false →
          (inv67 (bShl .u8 x3v 1) (w64 (x15 + 1)) ∧ mu67 (bShl .u8 x3v 1) (w64 (x15 + 1)) < mu67 x3v x15)))) ∧
      ((decide (x15 < 8)) = false →
        (inv19 x3v (w64 (x8 + 1)) ∧ mu19 x3v (w64 (x8 + 1)) < mu19 x3 x8)))))))) ∧
    ((decide (x8 < (u0.length : Int))) = false →
      (K (bXor .u8 x3 255)))))))

def gcheck_vc (u0 : Guard) (K : Int → Prop) : Prop :=
  (((((((((decide (u0.Key < 0)) || (decide (u0.Key > 65535))) || (decide (u0.Last < (-1)))) || (decide (u0.Last ≥ 15))) || (decide (u0.Bad < 0))) || (decide (u0.State < 0))) || (decide (u0.State > 4))) = true →
      (K 3)) ∧
    ((((((((decide (u0.Key < 0)) || (decide (u0.Key > 65535))) || (decide (u0.Last < (-1)))) || (decide (u0.Last ≥ 15))) || (decide (u0.Bad < 0))) || (decide (u0.State < 0))) || (decide (u0.State > 4))) = false →
      (K 0)))
def gcheck (u0 : Guard) : Int :=
  bif ((((((decide (u0.Key < 0)) || (decide (u0.Key > 65535))) || (decide (u0.Last < (-1)))) || (decide (u0.Last ≥ 15))) || (decide (u0.Bad < 0))) || (decide (u0.State < 0))) || (decide (u0.State > 4)) then 3
    else 0
theorem gcheck_ok (u0 : Guard) : gcheck_vc u0 (fun r => r = gcheck u0) := ⟨fun h0 => (by simp only [gcheck, h0, cond_true, cond_false]), fun h0 => (by simp only [gcheck, h0, cond_true, cond_false])⟩

/-! Pure proofs: no program in sight. -/
theorem crcG_zero (S p : Nat) : crcG S p 0 false = 0 := by simp [crcG]
theorem top_eq {S r : Nat} (hS : 1 ≤ S) (hr : r < 2 ^ S) : r.testBit (S - 1) = decide (2 ^ (S - 1) ≤ r) := by
  have hp : 2 ^ S = 2 * 2 ^ (S - 1) := by rw [show S = (S - 1) + 1 by omega, Nat.pow_succ]; simp; omega
  rw [Nat.testBit_eq_decide_div_mod_eq]
  by_cases h : 2 ^ (S - 1) ≤ r
  · have : r / 2 ^ (S - 1) = 1 := by
      rw [Nat.div_eq_iff (Nat.two_pow_pos _)]
      omega
    simp [h, this]
  · have : r / 2 ^ (S - 1) = 0 := Nat.div_eq_of_lt (by omega)
    simp [h, this]
theorem dbl_mod {S r : Nat} (hS : 1 ≤ S) (hr : r < 2 ^ S) : 2 * r % 2 ^ S + (if 2 ^ (S - 1) ≤ r then 2 ^ S else 0) = 2 * r := by
  have hp : 2 ^ S = 2 * 2 ^ (S - 1) := by rw [show S = (S - 1) + 1 by omega, Nat.pow_succ]; simp; omega
  split
  · rename_i h
    rw [show 2 * r = (2 * r - 2 ^ S) + 2 ^ S by omega, Nat.add_mod_right, Nat.mod_eq_of_lt (by omega)]
  · rw [Nat.mod_eq_of_lt (by omega)]; rfl
theorem xor_odd {a p : Nat} (ha : a % 2 = 0) (hp : p % 2 = 1) : (a ^^^ p) % 2 = 1 := by
  have h : (a ^^^ p).testBit 0 = true := by
    rw [Nat.testBit_xor, Nat.testBit_zero, Nat.testBit_zero, ha, hp]
    rfl
  rw [Nat.testBit_zero] at h
  exact of_decide_eq_true h
/-- Which register comes to nothing by a row. -/
theorem crc_back {S p : Nat} (hS : 1 ≤ S) (hp : p < 2 ^ S) (hodd : p % 2 = 1) : ∀ (l : List UInt8) (r : Nat), isRow l = true → l.length ≤ S → r < 2 ^ S → crcF S p r l = 0 → r = val l * 2 ^ (S - l.length) := by
  intro l
  induction l with
  | nil => intro r _ _ _ h; rw [crcF] at h; rw [h, val]; simp
  | cons c l ih =>
    intro r hrow hlen hr h
    rw [isRow_cons, Bool.and_eq_true] at hrow
    rw [List.length_cons] at hlen
    rw [crcF] at h
    have h1 := ih _ hrow.2 (by omega) (crcG_lt hp) h
    obtain ⟨k, hk⟩ : ∃ k, S - l.length = k + 1 := ⟨S - l.length - 1, by omega⟩
    rw [hk, Nat.pow_succ] at h1
    have hpw : 2 ^ S = 2 ^ l.length * 2 ^ k * 2 := by rw [← Nat.pow_add, ← Nat.pow_succ]; congr 1; omega
    have hpS : 2 ^ (S - 1) = 2 ^ l.length * 2 ^ k := by rw [← Nat.pow_add]; congr 1; omega
    have hd := dbl_mod hS hr
    have hev : 2 * r % 2 ^ S % 2 = 0 := by
      rw [Nat.mod_mod_of_dvd _ (by rw [hpw]; exact Nat.dvd_mul_left _ _)]
      omega
    unfold crcG at h1
    rw [top_eq hS hr] at h1
    by_cases ht : (decide (2 ^ (S - 1) ≤ r) != isOne c) = true
    · exfalso
      rw [if_pos ht] at h1
      have h2 := xor_odd hev hodd
      rw [h1] at h2
      have : val l * (2 ^ k * 2) % 2 = 0 := by rw [← Nat.mul_assoc]; exact Nat.mul_mod_left _ _
      omega
    · rw [if_neg ht, Nat.xor_zero] at h1
      have ht : decide (2 ^ (S - 1) ≤ r) = isOne c := by simpa using ht
      rw [List.length_cons, show S - (l.length + 1) = k by omega, val]
      have e1 : val l * (2 ^ k * 2) = 2 * (val l * 2 ^ k) := by rw [← Nat.mul_assoc, Nat.mul_comm]
      rw [Nat.add_mul, Nat.mul_assoc, ← hpS]
      rcases isBit_or hrow.1 with rfl | rfl
      · have e2 : ¬ 2 ^ (S - 1) ≤ r := by
          have : isOne 48 = false := rfl
          rw [this] at ht
          exact of_decide_eq_false ht
        rw [if_neg e2] at hd
        have e3 : (48 : UInt8).toNat - 48 = 0 := rfl
        rw [e3]
        omega
      · have e2 : 2 ^ (S - 1) ≤ r := by
          have : isOne 49 = true := rfl
          rw [this] at ht
          exact of_decide_eq_true ht
        rw [if_pos e2] at hd
        have e3 : (49 : UInt8).toNat - 48 = 1 := rfl
        rw [e3]
        omega
/-- A register goes to nothing by its own row. -/
theorem crc_own {S p : Nat} (hS : 1 ≤ S) : ∀ (s n : Nat), s ≤ S → crcF S p (n % 2 ^ s * 2 ^ (S - s)) (wr s n) = 0 := by
  intro s
  induction s with
  | zero => intro n _; simp [wr, crcF, Nat.mod_one]
  | succ s ih =>
    intro n hs
    obtain ⟨k, hk⟩ : ∃ k, S - s = k + 1 := ⟨S - s - 1, by omega⟩
    have hk2 : S - (s + 1) = k := by omega
    have h0 := ih n (by omega)
    rw [hk, Nat.pow_succ] at h0
    rw [hk2, wr, crcF]
    have hpw : 2 ^ S = 2 ^ s * 2 ^ k * 2 := by rw [← Nat.pow_add, ← Nat.pow_succ]; congr 1; omega
    have hpS : 2 ^ (S - 1) = 2 ^ s * 2 ^ k := by rw [← Nat.pow_add]; congr 1; omega
    have hm : n % 2 ^ (s + 1) = n % 2 ^ s + 2 ^ s * (n / 2 ^ s % 2) := by rw [Nat.pow_succ, Nat.mod_mul]
    have hlt : n % 2 ^ s < 2 ^ s := Nat.mod_lt _ (Nat.two_pow_pos _)
    have hlt2 : n % 2 ^ s * 2 ^ k < 2 ^ s * 2 ^ k := Nat.mul_lt_mul_of_pos_right hlt (Nat.two_pow_pos _)
    have hb := Nat.mod_two_eq_zero_or_one (n / 2 ^ s)
    generalize hx : n % 2 ^ s * 2 ^ k = x at *
    have hr : n % 2 ^ (s + 1) * 2 ^ k = x + 2 ^ s * 2 ^ k * (n / 2 ^ s % 2) := by
      rw [hm, Nat.add_mul, hx]
      congr 1
      rw [Nat.mul_assoc, Nat.mul_assoc, Nat.mul_comm (2 ^ k)]
    have hone : isOne (UInt8.ofNat (48 + n / 2 ^ s % 2)) = decide (n / 2 ^ s % 2 = 1) := by rcases hb with h | h <;> rw [h] <;> rfl
    have hG : crcG S p (n % 2 ^ (s + 1) * 2 ^ k) (isOne (UInt8.ofNat (48 + n / 2 ^ s % 2))) = n % 2 ^ s * (2 ^ k * 2) := by
      have hrlt : n % 2 ^ (s + 1) * 2 ^ k < 2 ^ S := by rw [hr, hpw]; rcases hb with h | h <;> rw [h] <;> omega
      have hd := dbl_mod hS hrlt
      have ht : (n % 2 ^ (s + 1) * 2 ^ k).testBit (S - 1) = decide (n / 2 ^ s % 2 = 1) := by
        rw [top_eq hS hrlt, hr, hpS]
        rcases hb with h | h <;> rw [h]
        · have : ¬ 2 ^ s * 2 ^ k ≤ x + 2 ^ s * 2 ^ k * 0 := by omega
          simp [this]; omega
        · have : 2 ^ s * 2 ^ k ≤ x + 2 ^ s * 2 ^ k * 1 := by omega
          simp
      unfold crcG
      rw [ht, hone, if_neg (by simp), Nat.xor_zero]
      have e : n % 2 ^ s * (2 ^ k * 2) = 2 * x := by rw [← hx, ← Nat.mul_assoc, Nat.mul_comm]
      rw [e]
      rw [hr, hpS, hpw] at hd
      rcases hb with h | h
      · rw [h] at hd
        rw [if_neg (by omega)] at hd
        rw [hr, h, hpw]
        omega
      · rw [h] at hd
        rw [if_pos (by omega)] at hd
        rw [hr, h, hpw]
        omega
    rw [hG]
    exact h0
def zeros (n : Nat) : List UInt8 := List.replicate n 48
theorem zeros_row (n : Nat) : isRow (zeros n) = true := by
  unfold zeros isRow
  rw [List.all_replicate]
  cases n <;> simp [isBit]
theorem crc_zeros (S p n : Nat) : crcF S p 0 (zeros n) = 0 := by
  induction n with
  | zero => rfl
  | succ n ih =>
    rw [zeros, List.replicate_succ, crcF]
    have : isOne 48 = false := rfl
    rw [this, crcG_zero]
    exact ih
theorem crc_zeros_back {S p : Nat} (hS : 1 ≤ S) (hp : p < 2 ^ S) (hodd : p % 2 = 1) (n : Nat) : ∀ r, r < 2 ^ S → crcF S p r (zeros n) = 0 → r = 0 := by
  induction n with
  | zero => exact fun r _ h => h
  | succ n ih =>
    intro r hr h
    rw [zeros, List.replicate_succ, crcF] at h
    have h1 := ih _ (crcG_lt hp) h
    have h2 := crc_back hS hp hodd [48] r rfl (by simpa using hS) hr (by rw [crcF, crcF]; exact h1)
    rw [h2]
    simp [val]
theorem val_pos {l : List UInt8} (hr : isRow l = true) (h : (49 : UInt8) ∈ l) : 0 < val l := by
  induction l with
  | nil => cases h
  | cons c l ih =>
    rw [isRow_cons, Bool.and_eq_true] at hr
    rw [val]
    rcases List.mem_cons.1 h with rfl | h
    · have e3 : (49 : UInt8).toNat - 48 = 1 := rfl
      rw [e3]
      have := Nat.two_pow_pos l.length
      omega
    · have := ih hr.2 h
      omega
/-- Turned bits within as many as the register has leave something. -/
theorem burst {S p : Nat} (hS : 1 ≤ S) (hp : p < 2 ^ S) (hodd : p % 2 = 1) {l : List UInt8} (hr : isRow l = true) (h1 : (49 : UInt8) ∈ l) (hl : l.length ≤ S) (m k : Nat) : crcF S p 0 (zeros m ++ (l ++ zeros k)) ≠ 0 := by
  intro h
  rw [crcF_append, crc_zeros, crcF_append] at h
  have h2 := crc_zeros_back hS hp hodd k _ (crcF_lt hp l (Nat.two_pow_pos _)) h
  have h3 := crc_back hS hp hodd l 0 hr hl (Nat.two_pow_pos _) h2
  have h4 := val_pos hr h1
  have := Nat.mul_pos h4 (Nat.two_pow_pos (S - l.length))
  omega
theorem xorR_inj : ∀ {s x y : List UInt8}, isRow s = true → isRow x = true → isRow y = true → x.length = s.length → y.length = s.length → xorR s x = xorR s y → x = y := by
  intro s
  induction s with
  | nil => intro x y _ _ _ h1 h2 _; cases x <;> cases y <;> simp_all
  | cons a s ih =>
    intro x y hs hx hy h1 h2 h
    cases x with
    | nil => cases h1
    | cons b x =>
      cases y with
      | nil => cases h2
      | cons c y =>
        rw [isRow_cons, Bool.and_eq_true] at hs hx hy
        rw [xorR, xorR, List.cons.injEq] at h
        rw [ih hs.2 hx.2 hy.2 (by simpa using h1) (by simpa using h2) h.2]
        congr 1
        have e := congrArg isOne h.1
        rw [xor_one (isBit_or hs.1), xor_one (isBit_or hs.1)] at e
        rcases isBit_or hx.1 with rfl | rfl <;> rcases isBit_or hy.1 with rfl | rfl <;> first | rfl | (exfalso; revert e; cases isOne a <;> decide)
theorem xorR_split : ∀ {a b x y : List UInt8}, a.length = x.length → xorR (a ++ b) (x ++ y) = xorR a x ++ xorR b y := by
  intro a
  induction a with
  | nil => intro b x y h; cases x with
    | nil => cases b <;> rfl
    | cons c x => cases h
  | cons d a ih => intro b x y h; cases x with
    | nil => cases h
    | cons c x => rw [List.cons_append, List.cons_append, xorR, ih (by simpa using h), xorR]; rfl
theorem xorR_pad (a e : List UInt8) (k : Nat) : xorR a (e ++ zeros k) = xorR a e := by
  apply List.ext_getElem?
  intro i
  rw [xorR_get, xorR_get]
  congr 1
  funext x
  have : ((e ++ zeros k)[i]?.any isOne) = (e[i]?.any isOne) := by
    rcases Nat.lt_or_ge i e.length with h | h
    · rw [List.getElem?_append_left h]
    · rw [List.getElem?_append_right h, List.getElem?_eq_none h, zeros, List.getElem?_replicate]
      split <;> rfl
  rw [this]
theorem xorR_snoc {a e : List UInt8} {c : UInt8} (h : e.length < a.length) : ∃ x, a[e.length]? = some x ∧ (istr (xorR a e))[e.length]? = some (x.toNat : Int) ∧ istr (xorR a (e ++ [c])) = if isOne c = true then (istr (xorR a e)).set e.length (bXor .u8 (x.toNat : Int) 1) else istr (xorR a e) := by
  obtain ⟨x, hx⟩ : ∃ x, a[e.length]? = some x := ⟨_, List.getElem?_eq_getElem h⟩
  have hg : (xorR a e)[e.length]? = some x := by rw [xorR_get, hx, List.getElem?_eq_none (Nat.le_refl _)]; rfl
  refine ⟨x, hx, by unfold istr; rw [List.getElem?_map, hg]; rfl, ?_⟩
  have step : ∀ j, (xorR a (e ++ [c]))[j]? = if j = e.length ∧ isOne c = true then some (x ^^^ 1) else (xorR a e)[j]? := by
    intro j
    rw [xorR_get, xorR_get]
    by_cases hj : j = e.length
    · subst hj
      rw [hx, List.getElem?_append_right (Nat.le_refl _), List.getElem?_eq_none (Nat.le_refl _), Nat.sub_self]
      cases hc : isOne c <;> simp [hc]
    · rw [if_neg (by omega)]
      rcases Nat.lt_or_ge j e.length with h1 | h1
      · rw [List.getElem?_append_left h1]
      · rw [List.getElem?_eq_none (l := e ++ [c]) (by simp; omega), List.getElem?_eq_none (l := e) h1]
  unfold istr
  split
  · rename_i h2
    rw [u8_xor1]
    apply List.ext_getElem?
    intro j
    rw [List.getElem?_map, step, List.getElem?_set, List.getElem?_map]
    by_cases hj : j = e.length
    · subst hj
      have hlt : e.length < (List.map (fun b => (b.toNat : Int)) (xorR a e)).length := by simp [xorR_length]; omega
      rw [if_pos rfl, if_pos hlt, if_pos ⟨rfl, h2⟩]
      rfl
    · rw [if_neg (fun h9 => hj h9.1), if_neg (fun h9 => hj h9.symm)]
  · rename_i h2
    congr 1
    apply List.ext_getElem?
    intro j
    rw [step, if_neg (by rw [eq_false_of_ne_true h2]; simp)]
def bcloneS (l : List Int) : List Int := l
theorem bclone_ok (l : List Int) (h : l.length ≤ 140737488355328) : bclone_vc l (fun r => r = bcloneS l) := by
  intro _ nb hnb
  refine ⟨fun h1 => ?_, fun _ => ⟨by simp; omega, by simp [bcloneS]⟩⟩
  by_cases e : l = []
  · rw [e]; rfl
  · rw [hnb e] at h1; cases h1
theorem bXor_u8 (x y : Nat) (hx : x < 256) (hy : y < 256) : bXor .u8 (x : Int) (y : Int) = ((x ^^^ y : Nat) : Int) := by
  have hz : x ^^^ y < 256 := Nat.xor_lt_two_pow (n := 8) hx hy
  have e : ∀ z : Nat, z < 256 → (BitVec.ofInt IntKind.u8.bits (z : Int)).toNat = z := by
    intro z hz
    simp [IntKind.bits]
    omega
  unfold bXor
  rw [BitVec.toNat_xor, e x hx, e y hy]
  exact w8_eq _ (by omega)
/-- One step of the byte sum. -/
def stp (n : Nat) : Nat := if 128 ≤ n then (2 * n % 256) ^^^ 47 else 2 * n
def back (m : Nat) : Nat := if m % 2 = 1 then ((m ^^^ 47) / 2) + 128 else m / 2
theorem back_stp : ∀ n : Fin 256, back (stp n.val) = n.val := by decide +kernel
theorem stp_lt : ∀ n : Fin 256, stp n.val < 256 := by decide +kernel
theorem stp_yes : ∀ n : Fin 256, (bAnd .u8 ((n.val : Nat) : Int) 128 != 0) = true → bXor .u8 (bShl .u8 ((n.val : Nat) : Int) 1) 47 = ((stp n.val : Nat) : Int) := by decide +kernel
theorem stp_no : ∀ n : Fin 256, (bAnd .u8 ((n.val : Nat) : Int) 128 != 0) = false → bShl .u8 ((n.val : Nat) : Int) 1 = ((stp n.val : Nat) : Int) := by decide +kernel
attribute [irreducible] stp
def stk : Nat → Nat → Nat
  | 0, n => n
  | k + 1, n => stp (stk k n)
theorem stk_zero (n : Nat) : stk 0 n = n := rfl
theorem stk_succ (k n : Nat) : stk (k + 1) n = stp (stk k n) := rfl
attribute [irreducible] stk
theorem xor_cancel (a b c : Nat) (h : a ^^^ c = b ^^^ c) : a = b := by
  have := congrArg (· ^^^ c) h
  simpa [Nat.xor_assoc, Nat.xor_self] using this
theorem stk_lt (k n : Nat) (h : n < 256) : stk k n < 256 := by
  induction k with
  | zero => rw [stk_zero]; exact h
  | succ k ih => rw [stk_succ]; exact stp_lt ⟨_, ih⟩
theorem stk_inj (k n m : Nat) (hn : n < 256) (hm : m < 256) (h : stk k n = stk k m) : n = m := by
  induction k with
  | zero => rw [stk_zero, stk_zero] at h; exact h
  | succ k ih =>
    refine ih ?_
    have h1 : back (stp (stk k n)) = stk k n := back_stp ⟨_, stk_lt k n hn⟩
    have h2 : back (stp (stk k m)) = stk k m := back_stp ⟨_, stk_lt k m hm⟩
    rw [stk_succ, stk_succ] at h
    rw [← h1, ← h2, h]
def crc (n : Nat) (b : Int) : Nat := stk 8 (n ^^^ b.toNat)
theorem crc_def (n : Nat) (b : Int) : crc n b = stk 8 (n ^^^ b.toNat) := rfl
attribute [irreducible] crc
def cbyteS (l : List Int) : Int := ((l.foldl crc 255 ^^^ 255 : Nat) : Int)
theorem xor_lt (a b : Nat) (ha : a < 256) (hb : b < 256) : a ^^^ b < 256 := Nat.xor_lt_two_pow (n := 8) ha hb
theorem crc_lt (n : Nat) (b : Int) (hn : n < 256) (hb : 0 ≤ b ∧ b ≤ 255) : crc n b < 256 := by rw [crc_def]; exact stk_lt _ _ (xor_lt _ _ hn (by omega))
theorem fold_lt (l : List Int) (hb : ∀ x ∈ l, 0 ≤ x ∧ x ≤ 255) : ∀ n, n < 256 → l.foldl crc n < 256 := by
  induction l with
  | nil => exact fun n h => h
  | cons b l ih => exact fun n h => ih (fun x hx => hb x (List.mem_cons_of_mem _ hx)) _ (crc_lt n b h (hb b (by simp)))
theorem cbyte_ok (l : List Int) (hb : ∀ x ∈ l, 0 ≤ x ∧ x ≤ 255) : cbyte_vc l (fun r => r = cbyteS l) := by
  intro hl
  have hbt : ∀ k, ∀ x ∈ l.take k, 0 ≤ x ∧ x ≤ 255 := fun k x hx => hb x (List.mem_of_mem_take hx)
  have hlt : ∀ k, (l.take k).foldl crc 255 < 256 := fun k => fold_lt _ (hbt k) _ (by omega)
  refine ⟨fun x y => ∃ k : Nat, y = k ∧ k ≤ l.length ∧ x = (((l.take k).foldl crc 255 : Nat) : Int), fun _ y => l.length - y.toNat, ⟨0, rfl, by omega, rfl⟩, ?_⟩
  rintro _ _ ⟨k, rfl, hk, rfl⟩
  refine ⟨fun h => ⟨by simp at h; omega, fun q hq => ?_⟩, fun h => ?_⟩
  · rw [Int.toNat_natCast] at hq
    have hkl : k < l.length := by simp at h; omega
    have hqb := hb q (List.mem_of_getElem? hq)
    obtain ⟨b, rfl⟩ : ∃ b : Nat, q = b := ⟨q.toNat, by omega⟩
    have hb256 : b < 256 := by omega
    have hn := hlt k
    have hx := xor_lt _ b hn hb256
    rw [bXor_u8 _ b hn hb256]
    refine ⟨fun x y => ∃ j : Nat, y = j ∧ j ≤ 8 ∧ x = ((stk j ((l.take k).foldl crc 255 ^^^ b) : Nat) : Int), fun _ y => 8 - y.toNat, ⟨0, rfl, by omega, by rw [stk_zero]⟩, ?_⟩
    rintro _ _ ⟨j, rfl, hj, rfl⟩
    have hs := stk_lt j _ hx
    have ew : w64 ((j : Int) + 1) = ((j + 1 : Nat) : Int) := w64_succ j (by omega)
    rw [ew]
    refine ⟨fun h1 => ?_, fun h1 => ?_⟩
    · have hj8 : j < 8 := by simp at h1; omega
      have hmu : 8 - ((j + 1 : Nat) : Int).toNat < 8 - ((j : Nat) : Int).toNat := by omega
      refine ⟨fun h2 => ⟨⟨j + 1, rfl, by omega, ?_⟩, hmu⟩, fun h2 => ⟨⟨j + 1, rfl, by omega, ?_⟩, hmu⟩⟩
      · rw [stk_succ]; exact stp_yes ⟨_, hs⟩ h2
      · rw [stk_succ]; exact stp_no ⟨_, hs⟩ h2
    · have hj8 : j = 8 := by simp at h1; omega
      subst hj8
      have ek : w64 ((k : Int) + 1) = ((k + 1 : Nat) : Int) := w64_succ k (by omega)
      rw [ek]
      refine ⟨⟨k + 1, rfl, by omega, ?_⟩, ?_⟩
      · rw [take_next l k _ hq, List.foldl_append, List.foldl_cons, List.foldl_nil, crc_def, Int.toNat_natCast]
      · show l.length - ((k + 1 : Nat) : Int).toNat < l.length - ((k : Nat) : Int).toNat
        omega
  · have hkl : k = l.length := by simp at h; omega
    subst hkl
    have hn := hlt l.length
    have e := bXor_u8 _ 255 hn (by omega)
    rw [List.take_length] at e ⊢
    exact e
/-- One byte that is another makes another sum. -/
theorem fold_inj (l : List Int) (hb : ∀ x ∈ l, 0 ≤ x ∧ x ≤ 255) : ∀ n m, n < 256 → m < 256 → l.foldl crc n = l.foldl crc m → n = m := by
  induction l with
  | nil => exact fun n m _ _ h => h
  | cons b l ih =>
    intro n m hn hm h
    have hb0 := hb b (by simp)
    have h1 := ih (fun x hx => hb x (List.mem_cons_of_mem _ hx)) _ _ (crc_lt n b hn hb0) (crc_lt m b hm hb0) h
    rw [crc_def, crc_def] at h1
    have h2 := stk_inj 8 _ _ (xor_lt n b.toNat hn (by omega)) (xor_lt m b.toNat hm (by omega)) h1
    exact xor_cancel _ _ _ h2
theorem cbyte_diff (l : List Int) (hb : ∀ x ∈ l, 0 ≤ x ∧ x ≤ 255) (j : Nat) (q q' : Int) (hq : l[j]? = some q) (hq' : 0 ≤ q' ∧ q' ≤ 255) (hne : q' ≠ q) : cbyteS (l.set j q') ≠ cbyteS l := by
  intro h
  have hj : j < l.length := (List.getElem?_eq_some_iff.1 hq).1
  have hqb := hb q (List.mem_of_getElem? hq)
  have h1 : (l.set j q').foldl crc 255 = l.foldl crc 255 := by
    unfold cbyteS at h
    exact xor_cancel _ _ _ (Int.ofNat.inj h)
  have e2 : l = l.take j ++ q :: l.drop (j + 1) := by
    have := List.getElem?_eq_some_iff.1 hq
    conv => lhs; rw [← List.take_append_drop j l, List.drop_eq_getElem_cons hj, this.2]
  rw [List.set_eq_take_append_cons_drop, if_pos hj] at h1
  rw [e2] at h1
  simp only [List.foldl_append, List.foldl_cons] at h1
  have hlt : (l.take j).foldl crc 255 < 256 := fold_lt _ (fun x hx => hb x (List.mem_of_mem_take hx)) _ (by omega)
  have e3 : (l.take j ++ q :: l.drop (j + 1)).take j = l.take j := by rw [← e2]
  have e4 : (l.take j ++ q :: l.drop (j + 1)).drop (j + 1) = l.drop (j + 1) := by rw [← e2]
  rw [e3, e4] at h1
  have h3 := fold_inj (l.drop (j + 1)) (fun x hx => hb x (List.mem_of_mem_drop hx)) _ _ (crc_lt _ q' hlt hq') (crc_lt _ q hlt hqb) h1
  rw [crc_def, crc_def] at h3
  have h4 := stk_inj 8 _ _ (xor_lt _ q'.toNat hlt (by omega)) (xor_lt _ q.toNat hlt (by omega)) h3
  rw [Nat.xor_comm, Nat.xor_comm _ q.toNat] at h4
  have h5 := xor_cancel _ _ _ h4
  exact hne (by omega)

end Go.Proofs.YtinegicenfndkaaDoor
