/- What must hold so that each function ends well: pure predicates, made by program. -/
import Derived.Test.YtinegicenfndkaaDoorPBi
set_option linter.unusedVariables false
set_option linter.unusedSimpArgs false
namespace Go.Proofs.YtinegicenfndkaaDoor
open Go.Sy Go.RowKit
def rsumof_vc (u0 : Int) (u1 : List UInt8) (K : (List UInt8) → Prop) : Prop :=
  ((0 ≤ u0 ∧ u0 < (([15, 17, 21, 8, 16] : List Int).length : Int)) ∧
    (∀ q23, ([15, 17, 21, 8, 16] : List Int)[u0.toNat]? = some q23 →
    ((0 ≤ u0 ∧ u0 < (([17817, 92251, 1058969, 47, 4129] : List Int).length : Int)) ∧
    (∀ q53, ([17817, 92251, 1058969, 47, 4129] : List Int)[u0.toNat]? = some q53 →
    ((0 ≤ u0 ∧ u0 < (([0, 65536, 1048576, 255, 65535] : List Int).length : Int)) ∧
    (∀ q83, ([0, 65536, 1048576, 255, 65535] : List Int)[u0.toNat]? = some q83 →
    ((0 ≤ u0 ∧ u0 < (([0, 0, 0, 255, 0] : List Int).length : Int)) ∧
    (∀ q114, ([0, 0, 0, 255, 0] : List Int)[u0.toNat]? = some q114 →
    ((isRow u1 = true ∧ u1.length ≤ 1000) ∧
    (((rvalueS u1).neg = false ∧ wok (rvalueS u1).abs ∧ (rvalueS u1).abs.length ≤ 1000 ∧ 0 ≤ (wu64 q23) ∧ (wu64 q23) ≤ 100000) ∧
    (∀ r158, (glshAS (rvalueS u1) (wu64 q23)) = r158 →
    (r158.abs.length ≤ 140737488355328 →
    ((0 ≤ q83 ∧ q83 ≤ 9223372036854775807) ∧
    (((gnewS q83).neg = false ∧ wok (gnewS q83).abs ∧ (gnewS q83).abs.length ≤ 1000 ∧ 0 ≤ (wu64 (u1.length : Int)) ∧ (wu64 (u1.length : Int)) ≤ 100000) ∧
    (∀ r209, (glshAS (gnewS q83) (wu64 (u1.length : Int))) = r209 →
    (r209.abs.length ≤ 140737488355328 →
    (((r158.neg = false ∧ wok r158.abs ∧ r158.abs.length ≤ 1000) ∧ r209.neg = false ∧ wok r209.abs ∧ r209.abs.length ≤ 1000) ∧
    (∀ r226, (gxorS r158 r209) = r226 →
    (r226.1.abs.length ≤ 140737488355328 →
    (r226.2.abs.length ≤ 140737488355328 →
    ((0 ≤ q53 ∧ q53 ≤ 9223372036854775807) ∧
    (((gnewS q53).neg = false ∧ (gnewS q53).abs = ws (wv (gnewS q53).abs) ∧ wv (gnewS q53).abs < 2 ^ q23.toNat ∧ 0 ≤ q23 ∧ q23 ≤ 30 ∧ (1 : Int) = 1) ∧
    (∀ r272, (gsetbitS (gnewS q53) q23 1) = r272 →
    (r272.abs.length ≤ 140737488355328 →
    (∃ inv284 : BInt → BInt → Prop,
    (∃ inv401 : BInt → BInt → Prop, ∃ mu401 : BInt → BInt → Nat, inv401 r272 r226.1 ∧
    (∀ (yb250v : BInt) (yb134v : BInt), inv401 yb250v yb134v →
    ((yb134v.abs = ws (wv yb134v.abs) ∧ yb134v.abs.length ≤ 1000000) ∧
    (∀ r441, (gblenS yb134v) = r441 →
    (r441.2.abs.length ≤ 140737488355328 →
    (((decide (r441.1 > q23)) = true →
      ((r441.2.abs = ws (wv r441.2.abs) ∧ r441.2.abs.length ≤ 1000000) ∧
      (∀ r478, (gblenS r441.2) = r478 →
      (r478.2.abs.length ≤ 140737488355328 →
      ((yb250v.neg = false ∧ wok yb250v.abs ∧ yb250v.abs.length ≤ 1000 ∧ 0 ≤ (wu64 (w64 ((w64 (r478.1 - q23)) - 1))) ∧ (wu64 (w64 ((w64 (r478.1 - q23)) - 1))) ≤ 100000) ∧
      (∀ r503, (glshS (⟨false, []⟩ : BInt) yb250v (wu64 (w64 ((w64 (r478.1 - q23)) - 1)))) = r503 →
      (r503.1.abs.length ≤ 140737488355328 →
      (r503.2.abs.length ≤ 140737488355328 →
      (((r478.2.neg = false ∧ wok r478.2.abs ∧ r478.2.abs.length ≤ 1000) ∧ r503.1.neg = false ∧ wok r503.1.abs ∧ r503.1.abs.length ≤ 1000) ∧
      (∀ r524, (gxorS r478.2 r503.1) = r524 →
      (r524.1.abs.length ≤ 140737488355328 →
      (r524.2.abs.length ≤ 140737488355328 →
      (inv401 r503.2 r524.1 ∧ mu401 r503.2 r524.1 < mu401 yb250v yb134v))))))))))))) ∧
    ((decide (r441.1 > q23)) = false →
      (inv284 yb250v r441.2)))))))) ∧
    (∀ (yb250 : BInt) (yb134 : BInt), inv284 yb250 yb134 →
      ((0 ≤ q114 ∧ q114 ≤ 9223372036854775807) ∧
      (((yb134.neg = false ∧ wok yb134.abs ∧ yb134.abs.length ≤ 1000) ∧ (gnewS q114).neg = false ∧ wok (gnewS q114).abs ∧ (gnewS q114).abs.length ≤ 1000) ∧
      (∀ r340, (gxorS yb134 (gnewS q114)) = r340 →
      (r340.1.abs.length ≤ 140737488355328 →
      (r340.2.abs.length ≤ 140737488355328 →
      ((r340.1.neg = false ∧ wok r340.1.abs ∧ wv r340.1.abs < 9223372036854775808) ∧
      (∀ r364, (gint64S r340.1) = r364 →
      (r364.2.abs.length ≤ 140737488355328 →
      ((r364.1 ≤ 9223372036854775807 ∧ q23 ≤ 1000000) ∧
      (K ((rrowS r364.1 q23).1)))))))))))))))))))))))))))))))))))))

/-! Pure proofs: no program in sight. -/
/-! Sums as remainders of polynomials. -/
def redN (S d : Nat) : Nat → Nat → Nat
  | 0, n => n
  | k + 1, n => redN S d k (if n.testBit (S + k) = true then n ^^^ d * 2 ^ k else n)
theorem redN_small (S d : Nat) : ∀ (k n : Nat), n < 2 ^ S → redN S d k n = n := by
  intro k
  induction k with
  | zero => intro n _; rfl
  | succ k ih =>
    intro n h
    have : n.testBit (S + k) = false := Nat.testBit_lt_two_pow (Nat.lt_of_lt_of_le h (Nat.pow_le_pow_right (by decide) (by omega)))
    rw [redN, if_neg (by rw [this]; simp)]
    exact ih n h
theorem redN_le (S d : Nat) {n j : Nat} (h : n < 2 ^ (S + j)) : ∀ i, redN S d (j + i) n = redN S d j n := by
  intro i
  induction i with
  | zero => rfl
  | succ i ih =>
    have : n.testBit (S + (j + i)) = false := Nat.testBit_lt_two_pow (Nat.lt_of_lt_of_le h (Nat.pow_le_pow_right (by decide) (by omega)))
    rw [show j + (i + 1) = (j + i) + 1 from rfl, redN, if_neg (by rw [this]; simp)]
    exact ih
theorem tb_mul (n k i : Nat) : (n * 2 ^ k).testBit i = (decide (k ≤ i) && n.testBit (i - k)) := by
  rw [← Nat.shiftLeft_eq, Nat.testBit_shiftLeft]
theorem tb_ge {n k i : Nat} (h : n < 2 ^ k) (hi : k ≤ i) : n.testBit i = false := Nat.testBit_lt_two_pow (Nat.lt_of_lt_of_le h (Nat.pow_le_pow_right (by decide) hi))
theorem lt_of_tb {n k : Nat} (h : ∀ i, k ≤ i → n.testBit i = false) : n < 2 ^ k := Nat.lt_pow_two_of_testBit n h
theorem tb_top {S p : Nat} (hp : p < 2 ^ S) (j : Nat) : (p + 2 ^ S).testBit j = (decide (j = S) || p.testBit j) := by
  have e : p + 2 ^ S = 2 ^ S * 1 + p := by omega
  rw [e, Nat.testBit_two_pow_mul_add 1 hp]
  by_cases h : j < S
  · rw [if_pos h]
    simp [show ¬ j = S by omega]
  · rw [if_neg h, tb_ge hp (by omega)]
    by_cases h2 : j = S
    · subst h2; simp
    · have : j - S ≠ 0 := by omega
      rw [Bool.or_false, decide_eq_false h2]
      exact Nat.testBit_lt_two_pow (Nat.lt_of_lt_of_le (by decide : 1 < 2 ^ 1) (Nat.pow_le_pow_right (by decide) (by omega)))
theorem red_step {S p n k : Nat} (hp : p < 2 ^ S) (hn : n < 2 ^ (S + k + 1)) (ht : n.testBit (S + k) = true) : n ^^^ (p + 2 ^ S) * 2 ^ k < 2 ^ (S + k) := by
  refine lt_of_tb fun i hi => ?_
  rw [Nat.testBit_xor, tb_mul, tb_top hp, decide_eq_true (by omega), Bool.true_and]
  by_cases h : i = S + k
  · subst h
    rw [ht, decide_eq_true (by omega)]
    rfl
  · rw [tb_ge hn (by omega), decide_eq_false (by omega), tb_ge hp (by omega)]
    rfl
theorem tb_val (c : UInt8) (l : List UInt8) (hc : c = 48 ∨ c = 49) (hl : isRow l = true) (j : Nat) : (val (c :: l)).testBit j = if j < l.length then (val l).testBit j else (decide (j = l.length) && isOne c) := by
  have h := val_lt hl
  rw [val, Nat.mul_comm, Nat.testBit_two_pow_mul_add _ h]
  split
  · rfl
  · rename_i hj
    rcases hc with rfl | rfl
    · rw [show (48 : UInt8).toNat - 48 = 0 from rfl, Nat.zero_testBit]
      simp [isOne]
    · rw [show (49 : UInt8).toNat - 48 = 1 from rfl]
      by_cases e : j = l.length
      · subst e
        simp [isOne]
      · rw [decide_eq_false e, Bool.false_and]
        exact Nat.testBit_lt_two_pow (Nat.lt_of_lt_of_le (by decide : 1 < 2 ^ 1) (Nat.pow_le_pow_right (by decide) (by omega)))
theorem tb_crcG {S p r : Nat} {b : Bool} (j : Nat) : (crcG S p r b).testBit j = ((decide (j < S) && (decide (1 ≤ j) && r.testBit (j - 1))) ^^ ((r.testBit (S - 1) != b) && p.testBit j)) := by
  unfold crcG
  have h2 : (2 * r % 2 ^ S).testBit j = (decide (j < S) && (decide (1 ≤ j) && r.testBit (j - 1))) := by
    rw [Nat.testBit_mod_two_pow, Nat.mul_comm, show r * 2 = r <<< 1 from by rw [Nat.shiftLeft_eq], Nat.testBit_shiftLeft]
  have h3 : ∀ c : Bool, (if c = true then p else 0).testBit j = (c && p.testBit j) := fun c => by cases c <;> simp
  rw [Nat.testBit_xor, h2, h3]
theorem red_crc {S p : Nat} (hS : 1 ≤ S) (hp : p < 2 ^ S) : ∀ (l : List UInt8) (r : Nat), isRow l = true → r < 2 ^ S → redN S (p + 2 ^ S) l.length (r * 2 ^ l.length ^^^ val l * 2 ^ S) = crcF S p r l := by
  intro l
  induction l with
  | nil =>
    intro r _ hr
    rw [crcF, val, Nat.zero_mul, Nat.xor_zero]
    show r * 2 ^ 0 = r
    rw [Nat.pow_zero, Nat.mul_one]
  | cons c l ih =>
    intro r hrow hr
    rw [isRow_cons, Bool.and_eq_true] at hrow
    have hc := isBit_or hrow.1
    have hg := crcG_lt (r := r) (b := isOne c) hp
    rw [crcF, ← ih _ hrow.2 hg, List.length_cons, redN]
    congr 1
    have hvl := val_lt hrow.2
    have ht : (r * 2 ^ (l.length + 1) ^^^ val (c :: l) * 2 ^ S).testBit (S + l.length) = (r.testBit (S - 1) != isOne c) := by
      rw [Nat.testBit_xor, tb_mul, tb_mul, tb_val c l hc hrow.2, decide_eq_true (by omega), decide_eq_true (by omega), if_neg (by omega), decide_eq_true (by omega), show S + l.length - (l.length + 1) = S - 1 by omega]
      cases r.testBit (S - 1) <;> cases isOne c <;> rfl
    have key : ∀ t : Bool, t = (r.testBit (S - 1) != isOne c) → ∀ i, ((r * 2 ^ (l.length + 1)).testBit i ^^ ((val (c :: l) * 2 ^ S).testBit i ^^ (t && ((p + 2 ^ S) * 2 ^ l.length).testBit i))) = ((crcG S p r (isOne c) * 2 ^ l.length).testBit i ^^ (val l * 2 ^ S).testBit i) := by
      intro t htt i
      rw [tb_mul, tb_mul, tb_mul, tb_mul, tb_mul, tb_val c l hc hrow.2, tb_crcG, tb_top hp, ← htt]
      by_cases h1 : i < l.length
      · rw [decide_eq_false (by omega : ¬ l.length + 1 ≤ i), decide_eq_false (by omega : ¬ l.length ≤ i)]
        by_cases h2 : S ≤ i
        · rw [decide_eq_true h2, if_pos (by omega)]
          simp
        · rw [decide_eq_false h2]
          simp
      · rw [decide_eq_true (by omega : l.length ≤ i)]
        rcases Nat.lt_trichotomy (i - l.length) S with h3 | h3 | h3
        · rw [decide_eq_false (by omega : ¬ i - l.length = S), decide_eq_true h3]
          have e1 : i - (l.length + 1) = i - l.length - 1 := by omega
          have e2 : decide (l.length + 1 ≤ i) = decide (1 ≤ i - l.length) := by
            rw [decide_eq_decide]; omega
          rw [e1, e2]
          by_cases h2 : S ≤ i
          · rw [decide_eq_true h2, if_pos (by omega)]
            generalize (decide (1 ≤ i - l.length) && r.testBit (i - l.length - 1)) = A
            generalize (val l).testBit (i - S) = B
            generalize p.testBit (i - l.length) = C
            cases A <;> cases B <;> cases C <;> cases t <;> rfl
          · rw [decide_eq_false h2]
            generalize (decide (1 ≤ i - l.length) && r.testBit (i - l.length - 1)) = A
            generalize p.testBit (i - l.length) = C
            cases A <;> cases C <;> cases t <;> rfl
        · rw [decide_eq_true h3, decide_eq_true (by omega : l.length + 1 ≤ i), decide_eq_true (by omega : S ≤ i), if_neg (by omega), decide_eq_true (by omega : i - S = l.length), decide_eq_false (by omega : ¬ i - l.length < S), tb_ge hp (by omega), tb_ge hvl (by omega), show i - (l.length + 1) = S - 1 by omega, htt]
          cases r.testBit (S - 1) <;> cases isOne c <;> rfl
        · rw [decide_eq_false (by omega : ¬ i - l.length = S), decide_eq_true (by omega : S ≤ i), if_neg (by omega), decide_eq_false (by omega : ¬ i - S = l.length), decide_eq_false (by omega : ¬ i - l.length < S), tb_ge hp (by omega), tb_ge hvl (by omega), tb_ge hr (by omega)]
          simp
    apply Nat.eq_of_testBit_eq
    intro i
    have hk := key _ rfl i
    rw [ht]
    rw [Nat.testBit_xor (crcG S p r (isOne c) * 2 ^ l.length), ← hk]
    cases (r.testBit (S - 1) != isOne c)
    · rw [if_neg (by simp), Nat.testBit_xor]
      simp
    · rw [if_pos rfl, Nat.testBit_xor, Nat.testBit_xor]
      simp
theorem kl1 {i q : Int} (h : 0 ≤ i ∧ i < 5) (hq : ([15, 17, 21, 8, 16] : List Int)[i.toNat]? = some q) : q = (kindS i).Size := by rcases kind_cases h with rfl | rfl | rfl | rfl | rfl <;> (cases hq; rfl)
theorem kl2 {i q : Int} (h : 0 ≤ i ∧ i < 5) (hq : ([17817, 92251, 1058969, 47, 4129] : List Int)[i.toNat]? = some q) : q = (kindS i).Poly := by rcases kind_cases h with rfl | rfl | rfl | rfl | rfl <;> (cases hq; rfl)
theorem kl3 {i q : Int} (h : 0 ≤ i ∧ i < 5) (hq : ([0, 65536, 1048576, 255, 65535] : List Int)[i.toNat]? = some q) : q = (kindS i).From := by rcases kind_cases h with rfl | rfl | rfl | rfl | rfl <;> (cases hq; rfl)
theorem kl4 {i q : Int} (h : 0 ≤ i ∧ i < 5) (hq : ([0, 0, 0, 255, 0] : List Int)[i.toNat]? = some q) : q = (kindS i).End := by rcases kind_cases h with rfl | rfl | rfl | rfl | rfl <;> (cases hq; rfl)
theorem toNat_lt {x : Int} {S : Nat} (h0 : 0 ≤ x) (h : x < 2 ^ S) : x.toNat < 2 ^ S := by
  have : (x.toNat : Int) < ((2 ^ S : Nat) : Int) := by push_cast; omega
  exact_mod_cast this
theorem big_wv (n : Nat) : wv (bigN n).abs = n := wv_ws n
theorem big_wok (n : Nat) : wok (bigN n).abs := ws_wok n
theorem big_len {n k : Nat} (h : n < 2 ^ k) (hk : k ≤ 28800) : (bigN n).abs.length ≤ 1000 := by
  have := pow_words h (by omega)
  show (ws n).length ≤ 1000
  omega
theorem rsumof_ok (i : Int) (b : List UInt8) (h : (0 ≤ i ∧ i < 5) ∧ isRow b = true ∧ b.length ≤ 1000) : rsumof_vc i b (fun r => r = sumR i b) := by
  obtain ⟨hk, hr, hl⟩ := h
  obtain ⟨k1, k2, k3, k4, k5, k6, k7, k8, _⟩ := kind_ok hk
  have hsz := kind_size hk
  refine ⟨⟨hk.1, hk.2⟩, fun q1 h1 => ⟨⟨hk.1, hk.2⟩, fun q2 h2 => ⟨⟨hk.1, hk.2⟩, fun q3 h3 => ⟨⟨hk.1, hk.2⟩, fun q4 h4 => ?_⟩⟩⟩⟩
  obtain rfl := kl1 hk h1
  obtain rfl := kl2 hk h2
  obtain rfl := kl3 hk h3
  obtain rfl := kl4 hk h4
  clear h1 h2 h3 h4
  have hP := toNat_lt k3 k4
  have hF := toNat_lt k5 k6
  have hE := toNat_lt k7 k8
  have hsum : sumR i b = wr (kindS i).Size.toNat (crcF (kindS i).Size.toNat (kindS i).Poly.toNat (kindS i).From.toNat b ^^^ (kindS i).End.toNat) := rfl
  rw [hsum]
  clear hsum k4 k6 k8
  generalize (kindS i).Size = s at *
  generalize (kindS i).Poly = p at *
  generalize (kindS i).From = f at *
  generalize (kindS i).End = e at *
  obtain ⟨S, rfl⟩ : ∃ n : Nat, s = n := ⟨s.toNat, by omega⟩
  obtain ⟨P, rfl⟩ : ∃ n : Nat, p = n := ⟨p.toNat, by omega⟩
  obtain ⟨F, rfl⟩ : ∃ n : Nat, f = n := ⟨f.toNat, by omega⟩
  obtain ⟨E, rfl⟩ : ∃ n : Nat, e = n := ⟨e.toNat, by omega⟩
  simp only [Int.toNat_natCast] at *
  have hS1 : 1 ≤ S := by omega
  have hS2 : S ≤ 21 := by omega
  have p21 : 2 ^ S ≤ 2 ^ 21 := Nat.pow_le_pow_right (by decide) hS2
  have v21 : (2 : Nat) ^ 21 = 2097152 := rfl
  have hv := val_lt hr
  have eS : wu64 (S : Int) = (S : Int) := wu64_eq _ (by omega)
  have eL : wu64 (b.length : Int) = (b.length : Int) := wu64_eq _ (by omega)
  rw [eS, eL]
  have x1 : glshAS (rvalueS b) (S : Int) = bigN (val b * 2 ^ S) := by
    unfold glshAS rvalueS
    rw [big_wv, Int.toNat_natCast]
  have x2 : glshAS (gnewS (F : Int)) (b.length : Int) = bigN (F * 2 ^ b.length) := by
    unfold glshAS gnewS
    rw [big_wv, Int.toNat_natCast, Int.toNat_natCast]
  have b1 : val b * 2 ^ S < 2 ^ (S + b.length) := by
    rw [Nat.add_comm, Nat.pow_add]
    exact Nat.mul_lt_mul_of_pos_right hv (Nat.two_pow_pos _)
  have b2 : F * 2 ^ b.length < 2 ^ (S + b.length) := by
    rw [Nat.pow_add]
    exact Nat.mul_lt_mul_of_pos_right hF (Nat.two_pow_pos _)
  refine ⟨⟨hr, hl⟩, ⟨rfl, ws_wok _, big_len hv (by omega), by omega, by omega⟩, ?_⟩
  rw [x1, x2]
  rintro _ rfl _
  refine ⟨by omega, ⟨rfl, ws_wok _, big_len (n := F) (k := 21) (by omega) (by omega), by omega, by omega⟩, ?_⟩
  rintro _ rfl _
  refine ⟨⟨⟨rfl, ws_wok _, big_len b1 (by omega)⟩, rfl, ws_wok _, big_len b2 (by omega)⟩, ?_⟩
  have x3 : gxorS (bigN (val b * 2 ^ S)) (bigN (F * 2 ^ b.length)) = (bigN (F * 2 ^ b.length ^^^ val b * 2 ^ S), bigN (F * 2 ^ b.length)) := by
    unfold gxorS
    rw [big_wv, big_wv, Nat.xor_comm]
  rw [x3]
  rintro _ rfl _ _
  have x4 : gsetbitS (gnewS (P : Int)) (S : Int) 1 = bigN (P + 2 ^ S) := by
    unfold gsetbitS gnewS
    rw [big_wv, Int.toNat_natCast, Int.toNat_natCast]
  have x5 : gnewS (P : Int) = bigN P := rfl
  refine ⟨by omega, ⟨rfl, by rw [x5, big_wv]; rfl, by rw [x5, big_wv]; exact hP, by omega, by omega, by trivial⟩, ?_⟩
  rw [x4]
  rintro _ rfl _
  dsimp only
  have b3 : F * 2 ^ b.length ^^^ val b * 2 ^ S < 2 ^ (S + b.length) := Nat.xor_lt_two_pow b2 b1
  have hred := red_crc hS1 hP b F hr hF
  have hR := crcF_lt hP b hF
  generalize crcF S P F b = R at *
  generalize F * 2 ^ b.length ^^^ val b * 2 ^ S = N at *
  have hD : P + 2 ^ S < 2 ^ (S + 1) := by rw [Nat.pow_succ]; omega
  refine ⟨fun d n => n = bigN R, ⟨fun d n => d = bigN (P + 2 ^ S) ∧ ∃ m k : Nat, n = bigN m ∧ k ≤ 1000 ∧ m < 2 ^ (S + k) ∧ redN S (P + 2 ^ S) k m = R, fun _ n => blen (wv n.abs), ⟨rfl, N, b.length, rfl, hl, b3, hred⟩, ?_⟩, ?_⟩
  · rintro _ _ ⟨rfl, m, k, rfl, hk1, hm, hrd⟩
    have hml := big_len hm (by omega)
    refine ⟨⟨by rw [big_wv]; rfl, by omega⟩, ?_⟩
    rintro _ rfl _
    have y1 : gblenS (bigN m) = ((blen m : Int), bigN m) := by unfold gblenS; rw [big_wv]
    rw [y1]
    dsimp only
    refine ⟨fun h5 => ?_, fun h5 => ?_⟩
    · have h5 : S < blen m := by have := of_decide_eq_true h5; omega
      refine ⟨⟨by rw [big_wv]; rfl, by omega⟩, ?_⟩
      rintro _ rfl _
      rw [y1]
      dsimp only
      have hbm : blen m ≤ S + k := by
        have hm0 : m ≠ 0 := by
          rintro rfl
          simp [blen] at h5
        have h6 := blen_ge hm0
        rcases Nat.lt_or_ge (S + k) (blen m) with hc | hc
        · have : 2 ^ (S + k) ≤ 2 ^ (blen m - 1) := Nat.pow_le_pow_right (by decide) (by omega)
          omega
        · exact hc
      obtain ⟨j, hj⟩ : ∃ j, blen m = S + j + 1 := ⟨blen m - S - 1, by omega⟩
      have ej : wu64 (w64 (w64 ((blen m : Int) - (S : Int)) - 1)) = (j : Int) := by
        rw [w64_eq ((blen m : Int) - (S : Int)) (by omega), w64_eq _ (by omega), wu64_eq _ (by omega)]
        omega
      rw [ej]
      refine ⟨⟨rfl, ws_wok _, big_len hD (by omega), by omega, by omega⟩, ?_⟩
      have y2 : glshS (⟨false, []⟩ : BInt) (bigN (P + 2 ^ S)) (j : Int) = (bigN ((P + 2 ^ S) * 2 ^ j), bigN (P + 2 ^ S)) := by
        unfold glshS
        rw [big_wv, Int.toNat_natCast]
      rw [y2]
      rintro _ rfl _ _
      dsimp only
      have b4 : (P + 2 ^ S) * 2 ^ j < 2 ^ (S + 1 + j) := by
        rw [Nat.pow_add 2 (S + 1)]
        exact Nat.mul_lt_mul_of_pos_right hD (Nat.two_pow_pos _)
      refine ⟨⟨⟨rfl, ws_wok _, hml⟩, rfl, ws_wok _, big_len b4 (by omega)⟩, ?_⟩
      have y3 : gxorS (bigN m) (bigN ((P + 2 ^ S) * 2 ^ j)) = (bigN (m ^^^ (P + 2 ^ S) * 2 ^ j), bigN ((P + 2 ^ S) * 2 ^ j)) := by
        unfold gxorS
        rw [big_wv, big_wv]
      rw [y3]
      rintro _ rfl _ _
      dsimp only
      have hm2 : m < 2 ^ (S + j + 1) := by
        have := blen_lt m
        rwa [hj] at this
      have ht : m.testBit (S + j) = true := by
        have hm0 : m ≠ 0 := by
          rintro rfl
          simp [blen] at h5
        have h6 := blen_ge hm0
        rw [hj, Nat.add_sub_cancel] at h6
        rw [Nat.testBit_eq_decide_div_mod_eq, decide_eq_true_eq]
        have h7 : m / 2 ^ (S + j) < 2 := by
          rw [Nat.div_lt_iff_lt_mul (Nat.two_pow_pos _)]
          rw [Nat.pow_succ] at hm2
          omega
        have h8 : 1 ≤ m / 2 ^ (S + j) := (Nat.le_div_iff_mul_le (Nat.two_pow_pos _)).2 (by omega)
        omega
      have hst := red_step hP hm2 ht
      refine ⟨⟨rfl, _, j, rfl, by omega, hst, ?_⟩, ?_⟩
      · obtain ⟨q, hq⟩ : ∃ q, k = (j + 1) + q := ⟨k - (j + 1), by omega⟩
        rw [hq, redN_le S (P + 2 ^ S) (j := j + 1) hm2, redN, if_pos ht] at hrd
        exact hrd
      · rw [big_wv, big_wv, hj]
        have : blen (m ^^^ (P + 2 ^ S) * 2 ^ j) ≤ S + j := by
          rcases Nat.eq_zero_or_pos (m ^^^ (P + 2 ^ S) * 2 ^ j) with h0 | h0
          · rw [h0]
            simp [blen]
          · have h6 := blen_ge (Nat.pos_iff_ne_zero.1 h0)
            rcases Nat.lt_or_ge (S + j) (blen (m ^^^ (P + 2 ^ S) * 2 ^ j)) with hc | hc
            · have : 2 ^ (S + j) ≤ 2 ^ (blen (m ^^^ (P + 2 ^ S) * 2 ^ j) - 1) := Nat.pow_le_pow_right (by decide) (by omega)
              omega
            · exact hc
        omega
    · have h5 : blen m ≤ S := by have := of_decide_eq_false h5; omega
      have hmS : m < 2 ^ S := Nat.lt_of_lt_of_le (blen_lt m) (Nat.pow_le_pow_right (by decide) h5)
      rw [redN_small S _ k m hmS] at hrd
      rw [hrd]
  · rintro _ _ rfl
    have x6 : gnewS (E : Int) = bigN E := rfl
    rw [x6]
    refine ⟨by omega, ⟨⟨rfl, ws_wok _, big_len hR (by omega)⟩, rfl, ws_wok _, big_len hE (by omega)⟩, ?_⟩
    have x7 : gxorS (bigN R) (bigN E) = (bigN (R ^^^ E), bigN E) := by unfold gxorS; rw [big_wv, big_wv]
    rw [x7]
    rintro _ rfl _ _
    dsimp only
    have hRE : R ^^^ E < 2 ^ S := Nat.xor_lt_two_pow hR hE
    refine ⟨⟨rfl, ws_wok _, by rw [big_wv]; omega⟩, ?_⟩
    have x8 : gint64S (bigN (R ^^^ E)) = (((R ^^^ E : Nat) : Int), bigN (R ^^^ E)) := by unfold gint64S; rw [big_wv]
    rw [x8]
    rintro _ rfl _
    dsimp only
    refine ⟨by omega, ?_⟩
    rw [rrow_wr (by omega) (by omega) (by rw [Int.toNat_natCast, Int.toNat_natCast]; exact hRE), Int.toNat_natCast, Int.toNat_natCast]

end Go.Proofs.YtinegicenfndkaaDoor
