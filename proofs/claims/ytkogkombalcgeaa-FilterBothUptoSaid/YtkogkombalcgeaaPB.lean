/- Pure proofs: no program in sight. -/
import Derived.Test.YtkogkombalcgeaaVB
set_option linter.unusedVariables false
set_option linter.unusedSimpArgs false
namespace Go.Proofs.Ytkogkombalcgeaa
open Go.Sy Go.RowKit
theorem and_div2 (a b : Nat) : (a &&& b) / 2 = a / 2 &&& b / 2 := by
  apply Nat.eq_of_testBit_eq
  intro i
  simp [Nat.testBit_and, Nat.testBit_div_two]
theorem and_mod2 (a b : Nat) : (a &&& b) % 2 = (a % 2) * (b % 2) := by
  have h := Nat.testBit_and a b 0
  simp only [Nat.testBit_zero] at h
  have h1 : a % 2 = 0 ∨ a % 2 = 1 := by omega
  have h2 : b % 2 = 0 ∨ b % 2 = 1 := by omega
  have h3 : (a &&& b) % 2 = 0 ∨ (a &&& b) % 2 = 1 := by omega
  rcases h1 with h1 | h1 <;> rcases h2 with h2 | h2 <;> rcases h3 with h3 | h3 <;> simp [h1, h2, h3] at h ⊢
theorem eq_div_mod (a b : Nat) : a = b ↔ a / 2 = b / 2 ∧ a % 2 = b % 2 := by omega
/-- How many bits. -/
def pop : Nat → Nat → Nat
  | 0, _ => 0
  | n + 1, a => a % 2 + pop n (a / 2)
theorem pop_zero (n : Nat) : pop n 0 = 0 := by
  induction n with
  | zero => rfl
  | succ n ih => simp [pop, ih]
theorem pop_low (n a : Nat) (h0 : 0 < a) (h : a < 2 ^ n) : pop n (a &&& (a - 1)) + 1 = pop n a := by
  induction n generalizing a with
  | zero => simp at h; omega
  | succ n ih =>
    unfold pop
    rw [and_div2, and_mod2]
    have h2 : a % 2 = 0 ∨ a % 2 = 1 := by omega
    rcases h2 with h2 | h2
    · have e : (a - 1) / 2 = a / 2 - 1 := by omega
      rw [e, h2, Nat.zero_mul, Nat.zero_add, Nat.zero_add]
      exact ih (a / 2) (by omega) (by rw [Nat.pow_succ] at h; omega)
    · have e : (a - 1) / 2 = a / 2 := by omega
      have e2 : (a - 1) % 2 = 0 := by omega
      rw [e, e2, h2, Nat.and_self]
      omega
theorem and_pred_lt (a : Nat) (h : 0 < a) : a &&& (a - 1) < a := Nat.lt_of_le_of_lt Nat.and_le_right (by omega)
theorem ffree_ok (m : Nat) (hm : m < 2 ^ 29) : ffree_vc (m : Int) (fun r => r = ((2 ^ pop 29 m : Nat) : Int)) := by
  refine ⟨fun x y => ∃ a b : Nat, x = a ∧ y = b ∧ a < 2 ^ 29 ∧ b * 2 ^ pop 29 a = 2 ^ pop 29 m ∧ b < 2 ^ 31, fun x y => x.toNat, ⟨m, 1, rfl, rfl, hm, by simp, by decide⟩, ?_⟩
  rintro _ _ ⟨a, b, rfl, rfl, ha, hb, hb2⟩
  refine ⟨fun h => ?_, fun h => ?_⟩
  · have h0 : 0 < a := by simp at h; omega
    have e1 : w64 ((a : Int) - 1) = ((a - 1 : Nat) : Int) := by rw [w64_eq _ (by omega)]; omega
    have e2 : w64 ((b : Int) * 2) = ((b * 2 : Nat) : Int) := by rw [w64_eq _ (by omega)]; omega
    rw [e1, e2, bAnd_nat _ _ (by omega) (by omega)]
    have hlt := and_pred_lt a h0
    have hp := pop_low 29 a h0 ha
    refine ⟨⟨a &&& (a - 1), b * 2, rfl, rfl, by omega, ?_, ?_⟩, by simp only [Int.toNat_natCast]; exact hlt⟩
    · rw [← hb, ← hp, Nat.pow_succ, Nat.mul_assoc, Nat.mul_comm 2]
    · have h1 : b * 2 ≤ 2 ^ pop 29 m := by
        rw [← hb, ← hp, Nat.pow_succ]
        have : 1 ≤ 2 ^ pop 29 (a &&& (a - 1)) := Nat.one_le_two_pow
        calc b * 2 = b * (1 * 2) := by omega
          _ ≤ b * (2 ^ pop 29 (a &&& (a - 1)) * 2) := Nat.mul_le_mul_left _ (Nat.mul_le_mul_right _ this)
      have h2 : ∀ n x, pop n x ≤ n := by
        intro n
        induction n with
        | zero => intro x; exact Nat.le_refl _
        | succ n ih => intro x; have := ih (x / 2); unfold pop; omega
      have h3 : 2 ^ pop 29 m ≤ 2 ^ 29 := Nat.pow_le_pow_right (by omega) (h2 29 m)
      omega
  · have h0 : a = 0 := by simp at h; omega
    subst h0
    rw [pop_zero, Nat.pow_zero, Nat.mul_one] at hb
    rw [hb]
theorem countP_two (p : Nat → Bool) (n : Nat) : (List.range (2 * n)).countP p = (List.range n).countP (fun i => p (2 * i)) + (List.range n).countP (fun i => p (2 * i + 1)) := by
  induction n with
  | zero => rfl
  | succ n ih =>
    rw [show 2 * (n + 1) = 2 * n + 1 + 1 by omega, List.range_succ, List.range_succ, List.range_succ]
    simp only [List.countP_append, List.countP_singleton]
    rw [ih]
    omega
theorem but_div2 (a b : Nat) : but a b / 2 = but (a / 2) (b / 2) := by
  apply Nat.eq_of_testBit_eq
  intro i
  simp [testBit_but, Nat.testBit_div_two]
theorem but_mod2 (a b : Nat) : but a b % 2 = (a % 2) * (1 - b % 2) := by
  have h := testBit_but a b 0
  simp only [Nat.testBit_zero] at h
  have h1 : a % 2 = 0 ∨ a % 2 = 1 := by omega
  have h2 : b % 2 = 0 ∨ b % 2 = 1 := by omega
  have h3 : but a b % 2 = 0 ∨ but a b % 2 = 1 := by omega
  rcases h1 with h1 | h1 <;> rcases h2 with h2 | h2 <;> rcases h3 with h3 | h3 <;> simp [h1, h2, h3] at h ⊢
theorem all_free (k F V : Nat) (hV : V &&& F = V) : (List.range (2 ^ k)).countP (fun id => id &&& F == V) = 2 ^ pop k (but (2 ^ k - 1) F) ∨ ¬ (F < 2 ^ k) := by
  induction k generalizing F V with
  | zero =>
    by_cases hF : F < 2 ^ 0
    · left
      have h0 : F = 0 := by simp at hF; omega
      subst h0
      have hv : V = 0 := by simpa using hV.symm
      subst hv
      decide
    · exact .inr hF
  | succ k ih =>
    by_cases hF : F < 2 ^ (k + 1)
    · left
      rw [Nat.pow_succ] at hF
      have hV2 : V / 2 &&& F / 2 = V / 2 := by rw [← and_div2, hV]
      have hVm : (V % 2) * (F % 2) = V % 2 := by rw [← and_mod2, hV]
      have ih' := (ih (F / 2) (V / 2) hV2).resolve_right (by omega)
      rw [show 2 ^ (k + 1) = 2 * 2 ^ k by rw [Nat.pow_succ, Nat.mul_comm], countP_two]
      unfold pop
      rw [but_div2, but_mod2]
      have hp : 0 < 2 ^ k := Nat.two_pow_pos k
      have d1 : (2 * 2 ^ k - 1) / 2 = 2 ^ k - 1 := by omega
      have d2 : (2 * 2 ^ k - 1) % 2 = 1 := by omega
      rw [d1, d2, Nat.one_mul]
      have c0 : (fun i => 2 * i &&& F == V) = fun i => (i &&& F / 2 == V / 2) && (V % 2 == 0) := by
        funext i
        rw [Bool.eq_iff_iff]
        simp only [beq_iff_eq, Bool.and_eq_true]
        rw [eq_div_mod (2 * i &&& F) V, and_div2, and_mod2, show 2 * i / 2 = i by omega, show 2 * i % 2 = 0 by omega, Nat.zero_mul]
        omega
      have c1 : (fun i => 2 * i + 1 &&& F == V) = fun i => (i &&& F / 2 == V / 2) && (V % 2 == F % 2) := by
        funext i
        rw [Bool.eq_iff_iff]
        simp only [beq_iff_eq, Bool.and_eq_true]
        rw [eq_div_mod (2 * i + 1 &&& F) V, and_div2, and_mod2, show (2 * i + 1) / 2 = i by omega, show (2 * i + 1) % 2 = 1 by omega, Nat.one_mul]
        omega
      rw [c0, c1]
      have h2 : F % 2 = 0 ∨ F % 2 = 1 := by omega
      have h3 : V % 2 = 0 ∨ V % 2 = 1 := by omega
      rcases h2 with h2 | h2
      · have h4 : V % 2 = 0 := by rw [h2] at hVm; omega
        simp only [h4, h2, beq_self_eq_true, Bool.and_true]
        rw [ih', Nat.sub_zero, Nat.pow_add]
        omega
      · rcases h3 with h3 | h3
        · simp only [h3, h2, beq_self_eq_true, Bool.and_true]
          have : ((0 : Nat) == 1) = false := rfl
          simp only [this, Bool.and_false]
          rw [ih']
          simp
        · simp only [h3, h2, beq_self_eq_true, Bool.and_true]
          have : ((1 : Nat) == 0) = false := rfl
          simp only [this, Bool.and_false]
          rw [ih']
          simp
    · exact .inr hF
theorem countP_split (p q r : Nat → Bool) (h : ∀ x, p x = (q x || r x) ∧ (q x && r x) = false) (l : List Nat) : l.countP p = l.countP q + l.countP r := by
  induction l with
  | nil => rfl
  | cons x l ih =>
    obtain ⟨h1, h2⟩ := h x
    rw [List.countP_cons, List.countP_cons, List.countP_cons, ih, h1]
    cases e1 : q x <;> cases e2 : r x <;> simp [e1, e2] at h2 ⊢ <;> omega
theorem countP_same (p q : Nat → Bool) (l : List Nat) (h : ∀ x ∈ l, p x = q x) : l.countP p = l.countP q := by
  induction l with
  | nil => rfl
  | cons x l ih => rw [List.countP_cons, List.countP_cons, h x (by simp), ih (fun y hy => h y (by simp [hy]))]
theorem fmatch_iff (f : Filter) (id : Nat) : fmatch f id = true ↔ ∀ i, f.Mask.toNat.testBit i = true → id.testBit i = f.Want.toNat.testBit i := by
  unfold fmatch
  rw [beq_iff_eq]
  constructor
  · intro h i hm
    have := congrArg (fun x => x.testBit i) h
    simp only [Nat.testBit_and, Nat.testBit_xor, hm, Bool.and_true, Nat.zero_testBit] at this
    simpa using this
  · intro h
    apply Nat.eq_of_testBit_eq
    intro i
    rw [Nat.testBit_and, Nat.testBit_xor, Nat.zero_testBit]
    cases hm : f.Mask.toNat.testBit i with
    | false => simp
    | true => rw [h i hm]; simp
theorem and_eq_iff (id F V : Nat) : id &&& F = V ↔ (∀ i, F.testBit i = true → id.testBit i = V.testBit i) ∧ ∀ i, F.testBit i = false → V.testBit i = false := by
  constructor
  · rintro rfl
    refine ⟨fun i h => by rw [Nat.testBit_and, h, Bool.and_true], fun i h => by rw [Nat.testBit_and, h, Bool.and_false]⟩
  · rintro ⟨h1, h2⟩
    apply Nat.eq_of_testBit_eq
    intro i
    rw [Nat.testBit_and]
    cases h : F.testBit i with
    | false => rw [h2 i h, Bool.and_false]
    | true => rw [h1 i h, Bool.and_true]
theorem low_bit (n A : Nat) (h0 : 0 < A) (h : A < 2 ^ n) : ∃ j, j < n ∧ A.testBit j = true ∧ A &&& (2 ^ n - A) = 2 ^ j := by
  induction n generalizing A with
  | zero => simp at h; omega
  | succ n ih =>
    have hp : 2 ^ (n + 1) = 2 * 2 ^ n := by rw [Nat.pow_succ, Nat.mul_comm]
    have h2 : A % 2 = 0 ∨ A % 2 = 1 := by omega
    rcases h2 with h2 | h2
    · obtain ⟨j, hj, hb, he⟩ := ih (A / 2) (by omega) (by omega)
      refine ⟨j + 1, by omega, by rw [Nat.testBit_succ]; exact hb, ?_⟩
      rw [eq_div_mod, and_div2, and_mod2, h2, Nat.zero_mul, show (2 ^ (n + 1) - A) / 2 = 2 ^ n - A / 2 by omega, he, Nat.pow_succ]
      omega
    · refine ⟨0, by omega, by rw [Nat.testBit_zero, h2]; rfl, ?_⟩
      rw [eq_div_mod, and_div2, and_mod2, h2, Nat.one_mul, show (2 ^ (n + 1) - A) / 2 = 2 ^ n - (A / 2 + 1) by omega, show (2 ^ (n + 1) - A) % 2 = 1 by omega]
      refine ⟨?_, by decide⟩
      rw [show 2 ^ 0 / 2 = 0 by decide]
      apply Nat.eq_of_testBit_eq
      intro i
      rw [Nat.testBit_and, Nat.testBit_two_pow_sub_succ (by omega), Nat.zero_testBit]
      cases (A / 2).testBit i <;> simp
theorem bit_of (A : Nat) (h0 : 0 < A) (h : A < 2 ^ 29) : ∃ j, j < 29 ∧ A.testBit j = true ∧ bAnd .i64 (A : Int) (w64 (0 - (A : Int))) = ((2 ^ j : Nat) : Int) := by
  obtain ⟨j, hj, hb, he⟩ := low_bit 64 A h0 (by omega)
  have hj2 : j < 29 := by
    refine Classical.byContradiction fun hn => ?_
    have : A.testBit j = false := Nat.testBit_lt_two_pow (Nat.lt_of_lt_of_le h (Nat.pow_le_pow_right (by omega) (by omega)))
    rw [this] at hb
    cases hb
  refine ⟨j, hj2, hb, ?_⟩
  rw [w64_eq _ (by omega)]
  unfold bAnd
  have e : (BitVec.ofInt IntKind.i64.bits (A : Int) &&& BitVec.ofInt IntKind.i64.bits (0 - (A : Int))).toNat = 2 ^ j := by
    rw [BitVec.toNat_and]
    show (BitVec.ofInt 64 (A : Int)).toNat &&& (BitVec.ofInt 64 (0 - (A : Int))).toNat = _
    rw [ofInt_toNat A (by omega)]
    have : (BitVec.ofInt 64 (0 - (A : Int))).toNat = 2 ^ 64 - A := by
      rw [BitVec.toNat_ofInt]
      omega
    rw [this, he]
  rw [e]
  have : 2 ^ j < 2 ^ 29 := Nat.pow_lt_pow_right (by omega) hj2
  exact w64_eq _ (by omega)
theorem pop_ext (n d a : Nat) (h : a < 2 ^ n) : pop (n + d) a = pop n a := by
  induction n generalizing a with
  | zero =>
    have : a = 0 := by simp at h; omega
    subst this
    rw [pop_zero, pop_zero]
  | succ n ih =>
    rw [show n + 1 + d = (n + d) + 1 by omega]
    unfold pop
    rw [ih (a / 2) (by rw [Nat.pow_succ] at h; omega)]
theorem countS_eq (l : List Filter) (k F V : Nat) : countS l ((2 ^ k - 1 : Nat) : Int) (F : Int) (V : Int) = ((cN l (2 ^ k) F V : Nat) : Int) := by
  unfold countS
  have := Nat.two_pow_pos k
  rw [Int.toNat_natCast, Int.toNat_natCast, Int.toNat_natCast, show 2 ^ k - 1 + 1 = 2 ^ k by omega]
theorem cN_le (l : List Filter) (n F V : Nat) : cN l n F V ≤ n := Nat.le_trans List.countP_le_length (by simp)
theorem cN_nil (n F V : Nat) : cN [] n F V = 0 := by
  unfold cN
  rw [List.countP_eq_zero]
  simp
theorem cN_all (l : List Filter) (k F V : Nat) (f : Filter) (hF : F < 2 ^ k) (hV : V &&& F = V) (hf : f ∈ l) (hsub : ∀ i, f.Mask.toNat.testBit i = true → F.testBit i = true)
    (hc : ∀ i, F.testBit i = true → f.Mask.toNat.testBit i = true → f.Want.toNat.testBit i = V.testBit i) : cN l (2 ^ k) F V = 2 ^ pop k (but (2 ^ k - 1) F) := by
  rw [← (all_free k F V hV).resolve_right (by omega)]
  unfold cN
  refine countP_same _ _ _ fun id _ => ?_
  cases h : (id &&& F == V) with
  | false => rfl
  | true =>
    rw [beq_iff_eq] at h
    have h1 := ((and_eq_iff id F V).1 h).1
    rw [Bool.true_and]
    refine List.any_eq_true.2 ⟨f, hf, (fmatch_iff f id).2 fun i hm => ?_⟩
    rw [h1 i (hsub i hm), hc i (hsub i hm) hm]
theorem tb_or (F j i : Nat) : (F ||| 2 ^ j).testBit i = (F.testBit i || decide (j = i)) := by rw [Nat.testBit_or, Nat.testBit_two_pow]
theorem cN_split (l : List Filter) (n F V j : Nat) (hF : F.testBit j = false) (hV : V &&& F = V) : cN l n F V = cN l n (F ||| 2 ^ j) V + cN l n (F ||| 2 ^ j) (V ||| 2 ^ j) := by
  unfold cN
  refine countP_split _ _ _ (fun id => ?_) _
  have hVj : V.testBit j = false := by rw [← hV, Nat.testBit_and, hF, Bool.and_false]
  have hVF : ∀ i, F.testBit i = false → V.testBit i = false := fun i h => by rw [← hV, Nat.testBit_and, h, Bool.and_false]
  have e : (id &&& F == V) = ((id &&& (F ||| 2 ^ j) == V) || (id &&& (F ||| 2 ^ j) == V ||| 2 ^ j)) ∧ ((id &&& (F ||| 2 ^ j) == V) && (id &&& (F ||| 2 ^ j) == V ||| 2 ^ j)) = false := by
    constructor
    · rw [Bool.eq_iff_iff]
      simp only [Bool.or_eq_true, beq_iff_eq]
      rw [and_eq_iff, and_eq_iff, and_eq_iff]
      constructor
      · rintro ⟨h1, h2⟩
        cases hb : id.testBit j with
        | false =>
          left
          refine ⟨fun i h => ?_, fun i h => ?_⟩
          · rw [tb_or, Bool.or_eq_true, decide_eq_true_eq] at h
            rcases h with h | rfl
            · exact h1 i h
            · rw [hb, hVj]
          · rw [tb_or, Bool.or_eq_false_iff] at h
            exact h2 i h.1
        | true =>
          right
          refine ⟨fun i h => ?_, fun i h => ?_⟩
          · rw [tb_or]
            rw [tb_or, Bool.or_eq_true, decide_eq_true_eq] at h
            by_cases hji : j = i
            · subst hji
              rw [hb]
              simp
            · have h3 := h.resolve_right hji
              rw [h1 i h3]
              simp [hji]
          · rw [tb_or, Bool.or_eq_false_iff] at h
            rw [tb_or, h2 i h.1, h.2]
            rfl
      · rintro (⟨h1, h2⟩ | ⟨h1, h2⟩)
        · exact ⟨fun i h => h1 i (by rw [tb_or, h]; rfl), hVF⟩
        · refine ⟨fun i h => ?_, hVF⟩
          have hji : j ≠ i := by rintro rfl; rw [hF] at h; cases h
          have := h1 i (by rw [tb_or, h]; rfl)
          rw [this, tb_or]
          simp [hji]
    · rw [Bool.eq_false_iff]
      intro h
      simp only [Bool.and_eq_true, beq_iff_eq] at h
      have h3 := h.1.symm.trans h.2
      have := congrArg (fun x => x.testBit j) h3
      simp only [tb_or, hVj] at this
      simp at this
  obtain ⟨e1, e2⟩ := e
  refine ⟨?_, ?_⟩
  · rw [e1, Bool.and_or_distrib_right]
  · cases h1 : (id &&& (F ||| 2 ^ j) == V) <;> cases h2 : (id &&& (F ||| 2 ^ j) == V ||| 2 ^ j) <;> simp [h1, h2] at e2 ⊢
theorem cN_filter (l : List Filter) (n F V : Nat) (c : Filter → Bool) (h : ∀ f ∈ l, c f = false → ∀ id, id &&& F = V → fmatch f id = false) : cN l n F V = cN (l.filter c) n F V := by
  unfold cN
  refine countP_same _ _ _ fun id _ => ?_
  cases hb : (id &&& F == V) with
  | false => rfl
  | true =>
    rw [beq_iff_eq] at hb
    rw [Bool.true_and, Bool.true_and, Bool.eq_iff_iff, List.any_eq_true, List.any_eq_true]
    constructor
    · rintro ⟨f, hf, hm⟩
      refine ⟨f, List.mem_filter.2 ⟨hf, ?_⟩, hm⟩
      cases hc : c f with
      | true => rfl
      | false => rw [h f hf hc id hb] at hm; cases hm
    · rintro ⟨f, hf, hm⟩
      exact ⟨f, (List.mem_filter.1 hf).1, hm⟩
theorem bit_cond (w v m j : Nat) (hv : v = 0 ∨ v = 2 ^ j) : ((((w ^^^ v) &&& 2 ^ j) &&& m) = 0) ↔ (m.testBit j = true → w.testBit j = v.testBit j) := by
  constructor
  · intro h hm
    have := congrArg (fun x => x.testBit j) h
    simp only [Nat.testBit_and, Nat.testBit_xor, Nat.testBit_two_pow, hm, Nat.zero_testBit, decide_true, Bool.and_true] at this
    simpa using this
  · intro h
    apply Nat.eq_of_testBit_eq
    intro i
    rw [Nat.testBit_and, Nat.testBit_and, Nat.testBit_xor, Nat.testBit_two_pow, Nat.zero_testBit]
    by_cases hji : j = i
    · subst hji
      cases hm : m.testBit j with
      | false => simp
      | true => rw [h hm]; simp
    · simp [hji]
theorem count_ok (u0 : List Filter) (u1 u2 u3 : Int) (hp : cpre u0 u1 u2 u3) : fcount_vc u0 u1 u2 u3 (fun r => r = countS u0 u1 u2 u3) := by
  obtain ⟨k, F, V, hk, rfl, rfl, rfl, hF, hV, hlen, hall⟩ := hp
  intro hl
  rw [countS_eq]
  have hk29 : 2 ^ k ≤ 2 ^ 29 := Nat.pow_le_pow_right (by omega) hk
  have hVF : V ≤ F := by rw [← hV]; exact Nat.and_le_right
  refine ⟨fun h => ?_, fun h => ?_⟩
  · have : u0 = [] := List.eq_nil_of_length_eq_zero (by simpa using h)
    subst this
    rw [cN_nil]
    rfl
  have hne : 0 < u0.length := by
    rcases Nat.eq_zero_or_pos u0.length with e | e
    · rw [e] at h; simp at h
    · exact e
  refine rg1b hl (fun j x => ∃ A : Nat, x = A ∧ A < 2 ^ k ∧ (∀ i, A.testBit i = true → F.testBit i = false) ∧ (0 < j → 0 < A)) ⟨0, rfl, Nat.two_pow_pos k, by simp, fun h => absurd h (by omega)⟩ ?_ ?_
  · rintro j _ q hj hq ⟨A, rfl, hA, hAF, _⟩ inv mu hn
    have hqm := List.mem_of_getElem? hq
    obtain ⟨q1, q2, q3, q4, q5⟩ := hall q hqm
    have hqM : q.Mask = ((q.Mask.toNat : Nat) : Int) := (Int.toNat_of_nonneg q3).symm
    have e1 : bAndNot .i64 q.Mask (F : Int) = ((but q.Mask.toNat F : Nat) : Int) := by
      conv => lhs; rw [hqM]
      exact bAndNot_nat _ _ (by omega) (by omega)
    have hble := but_le q.Mask.toNat F
    rw [e1]
    refine ⟨fun h1 => ?_, fun h1 => hn _ ⟨A ||| but q.Mask.toNat F, ?_, ?_, ?_, fun _ => ?_⟩⟩
    · have h0 : but q.Mask.toNat F = 0 := by simpa using h1
      have hsub : ∀ i, q.Mask.toNat.testBit i = true → F.testBit i = true := by
        intro i hm
        have := congrArg (fun x => x.testBit i) h0
        simp only [testBit_but, hm, Nat.zero_testBit, Bool.true_and] at this
        simpa using this
      have e2 : bAndNot .i64 ((2 ^ k - 1 : Nat) : Int) (F : Int) = ((but (2 ^ k - 1) F : Nat) : Int) := bAndNot_nat _ _ (by omega) (by omega)
      have hble2 := but_le (2 ^ k - 1) F
      rw [e2]
      refine ffree_mono (fun r hr => ?_) (ffree_ok _ (by omega))
      rw [hr, cN_all u0 k F V q hF hV hqm hsub q5]
      have : pop 29 (but (2 ^ k - 1) F) = pop k (but (2 ^ k - 1) F) := by
        have h29 : 29 = k + (29 - k) := by omega
        rw [h29]
        exact pop_ext k (29 - k) _ (by have := Nat.two_pow_pos k; omega)
      rw [this]
    · exact bOr_nat _ _ (by omega) (by omega)
    · exact Nat.or_lt_two_pow hA (by omega)
    · intro i hi
      rw [Nat.testBit_or, testBit_but, Bool.or_eq_true] at hi
      rcases hi with hi | hi
      · exact hAF i hi
      · simp at hi
        exact hi.2
    · have h0 : but q.Mask.toNat F ≠ 0 := by simpa using h1
      have : but q.Mask.toNat F ≤ A ||| but q.Mask.toNat F := Nat.right_le_or
      omega
  · rintro _ ⟨A, rfl, hA, hAF, hA0⟩
    obtain ⟨j, hj, hbj, hbit⟩ := bit_of A (hA0 hne) (by omega)
    rw [hbit]
    have hFj := hAF j hbj
    have hjk : j < k := by
      refine Classical.byContradiction fun hn => ?_
      have : A.testBit j = false := Nat.testBit_lt_two_pow (Nat.lt_of_lt_of_le hA (Nat.pow_le_pow_right (by omega) (by omega)))
      rw [this] at hbj
      cases hbj
    have h2j : 2 ^ j < 2 ^ k := Nat.pow_lt_pow_right (by omega) hjk
    have hF' : F ||| 2 ^ j < 2 ^ k := Nat.or_lt_two_pow hF h2j
    have hFF : F < F ||| 2 ^ j := by
      have h1 : F ≤ F ||| 2 ^ j := Nat.left_le_or
      have h2 : F ≠ F ||| 2 ^ j := fun e => by
        have := congrArg (fun x => x.testBit j) e
        simp only [tb_or, hFj] at this
        simp at this
      omega
    have hsplit := cN_split u0 (2 ^ k) F V j hFj hV
    have hc0 := cN_le u0 (2 ^ k) (F ||| 2 ^ j) V
    have hc1 := cN_le u0 (2 ^ k) (F ||| 2 ^ j) (V ||| 2 ^ j)
    refine ⟨fun x y => ∃ b : Nat, y = b ∧ b ≤ 2 ∧ x = (((if b = 0 then 0 else if b = 1 then cN u0 (2 ^ k) (F ||| 2 ^ j) V else cN u0 (2 ^ k) F V) : Nat) : Int), fun x y => (2 - y).toNat, ⟨0, rfl, by omega, rfl⟩, ?_⟩
    rintro x _ ⟨b, rfl, hb, hx⟩
    refine ⟨fun h1 => ⟨by simp at h1; omega, ?_⟩, fun h1 => ?_⟩
    · have hb2 : b < 2 := by simp at h1; omega
      obtain ⟨v, hv, hgv⟩ : ∃ v : Nat, (v = if b = 0 then 0 else 2 ^ j) ∧ ([0, ((2 ^ j : Nat) : Int)] : List Int).getD (b : Int).toNat 0 = (v : Int) := by
        refine ⟨_, rfl, ?_⟩
        have : b = 0 ∨ b = 1 := by omega
        rcases this with rfl | rfl <;> rfl
      have hv' : v = 0 ∨ v = 2 ^ j := by
        rw [hv]
        split
        · exact .inl rfl
        · exact .inr rfl
      rw [hgv]
      have hv30 : v < 2 ^ k := by rcases hv' with rfl | rfl <;> omega
      have hcond : ∀ q ∈ u0, bAnd .i64 (bAnd .i64 (bXor .i64 q.Want (v : Int)) ((2 ^ j : Nat) : Int)) q.Mask = (((((q.Want.toNat ^^^ v) &&& 2 ^ j) &&& q.Mask.toNat) : Nat) : Int) := by
        intro q hqm
        obtain ⟨q1, q2, q3, q4, q5⟩ := hall q hqm
        have hqM : q.Mask = ((q.Mask.toNat : Nat) : Int) := (Int.toNat_of_nonneg q3).symm
        have hqW : q.Want = ((q.Want.toNat : Nat) : Int) := (Int.toNat_of_nonneg q1).symm
        conv => lhs; rw [hqM, hqW]
        have h1 := Nat.xor_lt_two_pow q2 hv30
        rw [bXor_nat _ _ (by omega) (by omega), bAnd_nat _ _ (by omega) (by omega)]
        exact bAnd_nat _ _ (Nat.lt_of_le_of_lt Nat.and_le_left (by omega)) (by omega)
      let c : Filter → Bool := fun q => (((q.Want.toNat ^^^ v) &&& 2 ^ j) &&& q.Mask.toNat) == 0
      refine rg1b hl (fun t (y : List Filter) => y = (u0.take t).filter c) (by simp) ?_ ?_
      · rintro t _ q ht hq rfl inv mu hn
        have hqm := List.mem_of_getElem? hq
        rw [hcond q hqm]
        have htk : u0.take (t + 1) = u0.take t ++ [q] := by rw [List.take_add_one, hq]; rfl
        have hlt : ((u0.take t).filter c).length ≤ 16 := Nat.le_trans (List.length_filter_le _ _) (by simp; omega)
        refine ⟨fun h2 => ⟨by omega, hn _ ?_⟩, fun h2 => hn _ ?_⟩
        · have hcq : c q = true := by simpa [c] using h2
          rw [htk, List.filter_append]
          simp [hcq]
        · have hcq : c q = false := by simpa [c] using h2
          rw [htk, List.filter_append]
          simp [hcq]
      · rintro _ rfl
        rw [List.take_length]
        have e1 : bOr .i64 (F : Int) ((2 ^ j : Nat) : Int) = ((F ||| 2 ^ j : Nat) : Int) := bOr_nat _ _ (by omega) (by omega)
        have e2 : bOr .i64 (V : Int) (v : Int) = ((V ||| v : Nat) : Int) := bOr_nat _ _ (by omega) (by omega)
        rw [e1, e2, countS_eq]
        have hVj : V.testBit j = false := by rw [← hV, Nat.testBit_and, hFj, Bool.and_false]
        have hvj : ∀ i, i ≠ j → v.testBit i = false := by
          intro i hi
          rcases hv' with rfl | rfl
          · simp
          · rw [Nat.testBit_two_pow]; simp; omega
        have hcN : cN u0 (2 ^ k) (F ||| 2 ^ j) (V ||| v) = cN (u0.filter c) (2 ^ k) (F ||| 2 ^ j) (V ||| v) := by
          refine cN_filter _ _ _ _ c fun f hf hcf id hid => ?_
          have h3 : ¬ (f.Mask.toNat.testBit j = true → f.Want.toNat.testBit j = v.testBit j) := by
            intro h4
            have := (bit_cond f.Want.toNat v f.Mask.toNat j hv').2 h4
            simp [c, this] at hcf
          have h4 := ((and_eq_iff _ _ _).1 hid).1 j (by rw [tb_or]; simp)
          rw [Nat.testBit_or, hVj, Bool.false_or] at h4
          cases hm : fmatch f id with
          | false => rfl
          | true =>
            exfalso
            apply h3
            intro h5
            rw [← (fmatch_iff f id).1 hm j h5, h4]
        rw [← hcN]
        have hle := cN_le u0 (2 ^ k) (F ||| 2 ^ j) (V ||| v)
        refine ⟨⟨?_, k, F ||| 2 ^ j, V ||| v, hk, rfl, rfl, rfl, hF', ?_, Nat.le_trans (List.length_filter_le _ _) hlen, fun f hf => ?_⟩, ⟨b + 1, ?_, by omega, ?_⟩, ?_⟩
        · unfold cmu
          have := Nat.two_pow_pos k
          omega
        · rw [and_eq_iff]
          refine ⟨fun i _ => rfl, fun i hi => ?_⟩
          rw [tb_or, Bool.or_eq_false_iff] at hi
          have hij : i ≠ j := by rintro rfl; simp at hi
          rw [Nat.testBit_or, hvj i hij, Bool.or_false, ← hV, Nat.testBit_and, hi.1, Bool.and_false]
        · obtain ⟨hfm, hcf⟩ := List.mem_filter.1 hf
          obtain ⟨q1, q2, q3, q4, q5⟩ := hall f hfm
          refine ⟨q1, q2, q3, q4, fun i hi hm => ?_⟩
          rw [Nat.testBit_or]
          by_cases hij : i = j
          · subst hij
            rw [hVj, Bool.false_or]
            exact (bit_cond f.Want.toNat v f.Mask.toNat i hv').1 (by simpa [c] using hcf) hm
          · rw [tb_or, Bool.or_eq_true, decide_eq_true_eq] at hi
            rw [hvj i hij, Bool.or_false]
            exact q5 i (hi.resolve_right (fun e => hij e.symm)) hm
        · rw [w64_succ b (by omega)]
        · have : b = 0 ∨ b = 1 := by omega
          rcases this with rfl | rfl
          · simp only [if_true] at hv hx
            subst hv
            rw [hx, Nat.or_zero]
            simp only [Nat.zero_add, Nat.one_ne_zero, if_false, if_true]
            rw [w64_eq _ (by rw [Nat.or_zero] at hle; omega)]
            simp
          · simp only [Nat.one_ne_zero, if_false, if_true] at hv hx
            subst hv
            rw [hx, hsplit]
            simp only [show (1 : Nat) + 1 = 2 from rfl, show ¬ (2 : Nat) = 0 by decide, show ¬ (2 : Nat) = 1 by decide, if_false]
            rw [w64_eq _ (by omega)]
            omega
        · rw [w64_succ b (by omega)]
          show (2 - ((b + 1 : Nat) : Int)).toNat < (2 - (b : Int)).toNat
          omega
    · have hb2 : b = 2 := by simp at h1; omega
      subst hb2
      simpa using hx
/-- The places of those of which p holds. -/
def fidx (p : Filter → Bool) : Nat → List Filter → List Int
  | _, [] => []
  | i, x :: l => if p x then (i : Int) :: fidx p (i + 1) l else fidx p (i + 1) l
theorem fidx_end (p : Filter → Bool) (q : Filter) : ∀ (l : List Filter) (i : Nat), fidx p i (l ++ [q]) = fidx p i l ++ (if p q then [((i + l.length : Nat) : Int)] else [])
  | [], i => by
    simp only [List.nil_append, fidx, List.length_nil, Nat.add_zero]
  | x :: l, i => by
    simp only [List.cons_append, fidx, fidx_end p q l (i + 1), List.length_cons]
    have e : i + 1 + l.length = i + (l.length + 1) := by omega
    rw [e]
    split <;> simp
theorem fidx_len (p : Filter → Bool) : ∀ (l : List Filter) (i : Nat), (fidx p i l).length ≤ l.length
  | [], i => by simp [fidx]
  | x :: l, i => by
    have := fidx_len p l (i + 1)
    unfold fidx
    split <;> simp <;> omega
theorem fidx_same (p q : Filter → Bool) : ∀ (l : List Filter) (i : Nat), (∀ x ∈ l, p x = q x) → fidx p i l = fidx q i l
  | [], _, _ => rfl
  | x :: l, i, h => by
    unfold fidx
    rw [h x (by simp), fidx_same p q l (i + 1) (fun y hy => h y (by simp [hy]))]
theorem take_next {α : Type} (l : List α) (k : Nat) (q : α) (hq : l[k]? = some q) : l.take (k + 1) = l.take k ++ [q] := by rw [List.take_add_one, hq]; rfl
def finS (l : List Filter) (f : Frame) : List Int × Int :=
  if fcheckS l ≠ 0 then ([], fcheckS l) else if fcheckfr f ≠ 0 then ([], fcheckfr f) else (fidx (fun x => lets1 x f) 0 l, 0)
theorem fcheckS_len (l : List Filter) (h : fcheckS l = 0) : l.length ≤ 16 := by
  refine Classical.byContradiction fun hn => ?_
  have : 16 < l.length := by omega
  simp [fcheckS, this] at h
theorem fcheckS_ok (l : List Filter) (h : fcheckS l = 0) : ∀ f ∈ l, 0 ≤ f.Want ∧ f.Want ≤ ftop f.Long ∧ 0 ≤ f.Mask ∧ f.Mask ≤ ftop f.Long := by
  have hn : ¬ 16 < l.length := by have := fcheckS_len l h; omega
  unfold fcheckS at h
  rw [if_neg hn] at h
  have ha : l.all fok = true := by
    refine Classical.byContradiction fun hc => ?_
    rw [if_neg hc] at h
    cases h
  intro f hf
  have := List.all_eq_true.1 ha f hf
  unfold fok at this
  simp only [Bool.and_eq_true, decide_eq_true_eq] at this
  omega
theorem lets_one (l : List Filter) (f : Frame) (k : Nat) (q : Filter) (hk : k < l.length) (hq : l[k]? = some q) : lets ((l.take (k + 1)).drop k) f = lets1 q f := by
  rw [take_next l k q hq, List.drop_append, List.drop_eq_nil_of_le (by simp; omega)]
  have : (List.take k l).length = k := by rw [List.length_take]; omega
  rw [this, Nat.sub_self]
  simp [lets, fcontfS]
theorem fin_ok (l : List Filter) (f : Frame) : filterin_vc l f (fun r => r = finS l f) := by
  intro hl _
  refine ⟨fun h => ?_, fun h => ⟨fun h1 => ?_, fun h1 => ?_⟩⟩
  · have : fcheckS l ≠ 0 := by simpa using h
    simp [finS, this]
  · have h0 : fcheckS l = 0 := by simpa using h
    have : fcheckfr f ≠ 0 := by simpa using h1
    simp [finS, h0, this]
  · have h0 : fcheckS l = 0 := by simpa using h
    have h2 : fcheckfr f = 0 := by simpa using h1
    have hlen := fcheckS_len l h0
    refine ⟨fun x y => ∃ k : Nat, y = k ∧ k ≤ l.length ∧ x = fidx (fun x => lets1 x f) 0 (l.take k), fun x y => l.length - y.toNat, ⟨0, rfl, by omega, by simp [fidx]⟩, ?_⟩
    rintro _ _ ⟨k, rfl, hk, rfl⟩
    refine ⟨fun h3 => ?_, fun h3 => ?_⟩
    · have h4 : k < l.length := by simpa using h3
      rw [w64_succ k (by omega)]
      simp only [Int.toNat_natCast]
      obtain ⟨q, hq⟩ : ∃ q, l[k]? = some q := ⟨_, List.getElem?_eq_getElem h4⟩
      rw [lets_one l f k q h4 hq]
      have hfl := fidx_len (fun x => lets1 x f) (l.take k) 0
      rw [List.length_take] at hfl
      have htl : (l.take k).length = k := by rw [List.length_take]; omega
      refine ⟨by omega, fun h5 => ⟨by omega, ⟨k + 1, rfl, h4, ?_⟩, by omega⟩, fun h5 => ⟨⟨k + 1, rfl, h4, ?_⟩, by omega⟩⟩
      · rw [take_next l k q hq, fidx_end, if_pos h5, htl, Nat.zero_add]
      · rw [take_next l k q hq, fidx_end, if_neg (by rw [h5]; decide), List.append_nil]
    · have h4 : k = l.length := by simp at h3; omega
      subst h4
      rw [List.take_length]
      simp [finS, h0, h2]
/-- Is there one, told by its place too? -/
def iany (p : Nat → Filter → Bool) : Nat → List Filter → Bool
  | _, [] => false
  | i, x :: l => p i x || iany p (i + 1) l
theorem iany_end (p : Nat → Filter → Bool) (q : Filter) : ∀ (l : List Filter) (i : Nat), iany p i (l ++ [q]) = (iany p i l || p (i + l.length) q)
  | [], i => by simp [iany]
  | x :: l, i => by
    simp only [List.cons_append, iany, iany_end p q l (i + 1), List.length_cons]
    rw [show i + 1 + l.length = i + (l.length + 1) by omega, Bool.or_assoc]
theorem iany_iff (p : Nat → Filter → Bool) : ∀ (l : List Filter) (i : Nat), iany p i l = true ↔ ∃ j x, l[j]? = some x ∧ p (i + j) x = true
  | [], i => by simp [iany]
  | x :: l, i => by
    rw [iany, Bool.or_eq_true, iany_iff p l (i + 1)]
    constructor
    · rintro (h | ⟨j, y, h1, h2⟩)
      · exact ⟨0, x, rfl, h⟩
      · exact ⟨j + 1, y, h1, by rw [show i + (j + 1) = i + 1 + j by omega]; exact h2⟩
    · rintro ⟨j, y, h1, h2⟩
      cases j with
      | zero => left; simp at h1; subst h1; exact h2
      | succ j => right; exact ⟨j, y, h1, by rw [show i + 1 + j = i + (j + 1) by omega]; exact h2⟩
def ikeep (d : Nat → Filter → Bool) : Nat → List Filter → List Filter
  | _, [] => []
  | i, x :: l => if d i x then ikeep d (i + 1) l else ⟨bAnd .i64 x.Want x.Mask, x.Mask, x.Long⟩ :: ikeep d (i + 1) l
theorem ikeep_end (d : Nat → Filter → Bool) (q : Filter) : ∀ (l : List Filter) (i : Nat), ikeep d i (l ++ [q]) = ikeep d i l ++ (if d (i + l.length) q then [] else [⟨bAnd .i64 q.Want q.Mask, q.Mask, q.Long⟩])
  | [], i => by
    simp only [List.nil_append, ikeep, List.length_nil, Nat.add_zero]
  | x :: l, i => by
    simp only [List.cons_append, ikeep, ikeep_end d q l (i + 1), List.length_cons]
    rw [show i + 1 + l.length = i + (l.length + 1) by omega]
    split <;> simp
theorem ikeep_len (d : Nat → Filter → Bool) : ∀ (l : List Filter) (i : Nat), (ikeep d i l).length ≤ l.length
  | [], i => by simp [ikeep]
  | x :: l, i => by
    have := ikeep_len d l (i + 1)
    unfold ikeep
    split <;> simp <;> omega
def fdrop (l : List Filter) (i : Nat) (a : Filter) : Bool := iany (fun k b => (decide (k ≠ i) && fwithin a b) && (decide (k < i) || !fwithin b a)) 0 l
def fleastS (l : List Filter) : List Filter × Int := if fcheckS l ≠ 0 then ([], fcheckS l) else (ikeep (fdrop l) 0 l, 0)
theorem fleast_ok (l : List Filter) : fleast_vc l (fun r => r = fleastS l) := by
  intro hl
  refine fcheck_mono (fun r hr => ?_) (fcheck_ok l)
  subst hr
  refine ⟨fun h => ?_, fun h => ?_⟩
  · have : fcheckS l ≠ 0 := by simpa using h
    simp [fleastS, this]
  · have h0 : fcheckS l = 0 := by simpa using h
    have hlen := fcheckS_len l h0
    refine rg1b hl (fun k (x : List Filter) => x = ikeep (fdrop l) 0 (l.take k)) (by simp [ikeep]) ?_ ?_
    · rintro k _ a hk ha rfl inv mu hn
      have htl : (l.take k).length = k := by rw [List.length_take]; omega
      refine rg1b hl (fun t (x : Bool) => x = iany (fun t b => (decide (t ≠ k) && fwithin a b) && (decide (t < k) || !fwithin b a)) 0 (l.take t)) (by simp [iany]) ?_ ?_
      · rintro t _ b ht hb rfl inv2 mu2 hn2
        have htt : (l.take t).length = t := by rw [List.length_take]; omega
        have e : (((((t : Int) != (k : Int)) && fwithin a b) && ((decide ((t : Int) < (k : Int))) || (!(fwithin b a))))) = ((decide (t ≠ k) && fwithin a b) && (decide (t < k) || !fwithin b a)) := by
          have e1 : ((t : Int) != (k : Int)) = decide (t ≠ k) := by rw [Bool.eq_iff_iff]; simp; omega
          have e2 : decide ((t : Int) < (k : Int)) = decide (t < k) := by rw [Bool.eq_iff_iff]; simp
          rw [e1, e2]
        rw [e]
        refine ⟨fun h2 => hn2 _ ?_, fun h2 => hn2 _ ?_⟩
        · rw [take_next l t b hb, iany_end, htt, Nat.zero_add, h2, Bool.or_true]
        · rw [take_next l t b hb, iany_end, htt, Nat.zero_add, h2, Bool.or_false]
      · rintro _ rfl
        rw [List.take_length]
        have hfl := ikeep_len (fdrop l) (l.take k) 0
        refine ⟨fun h2 => ⟨by omega, hn _ ?_⟩, fun h2 => hn _ ?_⟩
        · rw [take_next l k a ha, ikeep_end, htl, Nat.zero_add]
          have : fdrop l k a = false := by unfold fdrop; simpa using h2
          rw [this]
          rfl
        · rw [take_next l k a ha, ikeep_end, htl, Nat.zero_add]
          have : fdrop l k a = true := by unfold fdrop; simpa using h2
          rw [this]
          simp
    · rintro _ rfl
      rw [List.take_length]
      simp [fleastS, h0]
/-! ### Ranges -/
def rgrow : Nat → Nat → Nat → Nat → Nat
  | 0, _, _, s => s
  | n + 1, low, high, s => if low % (2 * s) = 0 ∧ low + 2 * s ≤ high + 1 then rgrow n low high (2 * s) else s
def rgo : Nat → Nat → Nat → Bool → List Filter
  | 0, _, _, _ => []
  | n + 1, low, high, long => if low ≤ high then ⟨low, ftop long - ((rgrow 30 low high 1 : Nat) - 1), long⟩ :: rgo n (low + rgrow 30 low high 1) high long else []
def rangesS (low high : Int) (long : Bool) : List Filter × Int :=
  if low < 0 ∨ ftop long < high ∨ high < low then ([], 3) else (rgo (high - low + 1).toNat low.toNat high.toNat long, 0)
theorem ftop_pow (long : Bool) : ∃ K, K ≤ 29 ∧ ftop long = ((2 ^ K - 1 : Nat) : Int) := by
  cases long
  · exact ⟨11, by decide, rfl⟩
  · exact ⟨29, by decide, rfl⟩
theorem ftop_le (long : Bool) : 0 ≤ ftop long ∧ ftop long ≤ 536870911 := by cases long <;> decide
theorem but_sub (a b : Nat) (h : a &&& b = b) : but a b = a - b := by
  unfold but
  rw [h]
  induction a using Nat.strongRecOn generalizing b with
  | ind a ih =>
    rcases Nat.eq_zero_or_pos a with h0 | h0
    · subst h0
      simp at h
      subst h
      rfl
    · have h1 : a / 2 &&& b / 2 = b / 2 := by rw [← and_div2, h]
      have h2 : (a % 2) * (b % 2) = b % 2 := by rw [← and_mod2, h]
      have ih' := ih (a / 2) (by omega) (b / 2) h1
      have hle : b / 2 ≤ a / 2 := by rw [← h1]; exact Nat.and_le_left
      have hx2 : (a ^^^ b) / 2 = a / 2 ^^^ b / 2 := by
        apply Nat.eq_of_testBit_eq
        intro i
        simp [Nat.testBit_xor, Nat.testBit_div_two]
      have hxm : (a ^^^ b) % 2 = (a % 2 + b % 2) % 2 := by
        have h := Nat.testBit_xor a b 0
        simp only [Nat.testBit_zero] at h
        have h3 : a % 2 = 0 ∨ a % 2 = 1 := by omega
        have h4 : b % 2 = 0 ∨ b % 2 = 1 := by omega
        have h5 : (a ^^^ b) % 2 = 0 ∨ (a ^^^ b) % 2 = 1 := by omega
        rcases h3 with h3 | h3 <;> rcases h4 with h4 | h4 <;> rcases h5 with h5 | h5 <;> simp [h3, h4, h5] at h ⊢
      have h3 : a % 2 = 0 ∨ a % 2 = 1 := by omega
      have h4 : b % 2 = 0 ∨ b % 2 = 1 := by omega
      rw [eq_div_mod, hx2, ih', hxm]
      rcases h3 with h3 | h3 <;> rcases h4 with h4 | h4 <;> rw [h3, h4] at h2 <;> rw [h3, h4] <;> omega
theorem mask_of (long : Bool) (j : Nat) (K : Nat) (hK : ftop long = ((2 ^ K - 1 : Nat) : Int)) (hK29 : K ≤ 29) (hj : j ≤ K) : bAndNot .i64 (ftop long) (((2 ^ j : Nat) : Int) - 1) = ftop long - ((2 ^ j : Nat) - 1) := by
  have h2 : 2 ^ j ≤ 2 ^ K := Nat.pow_le_pow_right (by omega) hj
  have h3 : 2 ^ K ≤ 2 ^ 29 := Nat.pow_le_pow_right (by omega) hK29
  have h4 := Nat.two_pow_pos j
  rw [hK, show ((2 ^ j : Nat) : Int) - 1 = ((2 ^ j - 1 : Nat) : Int) by omega, bAndNot_nat _ _ (by omega) (by omega), but_sub]
  · omega
  · rw [Nat.and_comm, Nat.and_two_pow_sub_one_eq_mod]
    exact Nat.mod_eq_of_lt (by omega)
/-- The inner loop: the greatest power. -/
theorem rgrow_le (n low high s : Nat) (hs : 0 < s) : s ≤ rgrow n low high s := by
  induction n generalizing s with
  | zero => exact Nat.le_refl _
  | succ n ih =>
    unfold rgrow
    split
    · exact Nat.le_trans (by omega) (ih (2 * s) (by omega))
    · exact Nat.le_refl _
theorem franges_ok (low high : Int) (long : Bool) : franges_vc low high long (fun r => r = rangesS low high long) := by
  refine ⟨fun h => ?_, fun h => ?_⟩
  · have : low < 0 ∨ ftop long < high ∨ high < low := by
      simp only [Bool.or_eq_true, decide_eq_true_eq] at h
      omega
    simp [rangesS, this]
  · have hn : ¬ (low < 0 ∨ ftop long < high ∨ high < low) := by
      simp only [Bool.or_eq_false_iff, decide_eq_false_iff_not] at h
      omega
    have hS : rangesS low high long = (rgo (high - low + 1).toNat low.toNat high.toNat long, 0) := by
      unfold rangesS
      rw [if_neg hn]
    rw [hS]
    obtain ⟨K, hK29, hK⟩ := ftop_pow long
    have htop := ftop_le long
    have h2K : 2 ^ K ≤ 2 ^ 29 := Nat.pow_le_pow_right (by omega) hK29
    obtain ⟨a, rfl⟩ : ∃ a : Nat, low = a := ⟨low.toNat, by omega⟩
    obtain ⟨b, rfl⟩ : ∃ b : Nat, high = b := ⟨high.toNat, by omega⟩
    simp only [Int.toNat_natCast]
    refine ⟨fun x y => ∃ c n : Nat, x = c ∧ c ≤ b + 1 ∧ b + 1 ≤ c + n ∧ y.length ≤ c ∧ y ++ rgo n c b long = rgo ((b : Int) - a + 1).toNat a b long, fun x y => b + 1 - x.toNat, ⟨a, ((b : Int) - a + 1).toNat, rfl, by omega, by omega, Nat.zero_le _, rfl⟩, ?_⟩
    rintro _ y ⟨c, n, rfl, hc, hcn, hyl, he⟩
    refine ⟨fun h1 => ?_, fun h1 => ?_⟩
    · have hcb : c ≤ b := by simpa using h1
      refine ⟨fun s => ∃ j : Nat, s = ((2 ^ j : Nat) : Int) ∧ j ≤ K ∧ rgrow (30 - j) c b (2 ^ j) = rgrow 30 c b 1 ∧ c + 2 ^ j ≤ b + 1, fun s => 2 * b + 2 - s.toNat, ⟨0, rfl, by omega, rfl, by omega⟩, ?_⟩
      rintro _ ⟨j, rfl, hj, hg, hcj⟩
      have hpj : 2 ^ j ≤ 2 ^ K := Nat.pow_le_pow_right (by omega) hj
      have hp0 := Nat.two_pow_pos j
      have e2 : w64 (2 * ((2 ^ j : Nat) : Int)) = ((2 ^ (j + 1) : Nat) : Int) := by rw [w64_eq _ (by omega), Nat.pow_succ]; omega
      have hps : 2 ^ (j + 1) = 2 * 2 ^ j := by rw [Nat.pow_succ, Nat.mul_comm]
      have e3 : w64 (((2 ^ (j + 1) : Nat) : Int) - 1) = ((2 ^ (j + 1) - 1 : Nat) : Int) := by rw [w64_eq _ (by omega)]; omega
      have e4 : w64 ((c : Int) + ((2 ^ (j + 1) : Nat) : Int)) = ((c + 2 ^ (j + 1) : Nat) : Int) := by rw [w64_eq _ (by omega)]; omega
      have e5 : w64 (((c + 2 ^ (j + 1) : Nat) : Int) - 1) = ((c + 2 ^ (j + 1) : Nat) : Int) - 1 := w64_eq _ (by omega)
      have e6 : w64 (ftop long + 1) = ftop long + 1 := w64_eq _ (by omega)
      have e7 : w64 (((2 ^ j : Nat) : Int) * 2) = ((2 ^ (j + 1) : Nat) : Int) := by rw [w64_eq _ (by omega), Nat.pow_succ]; omega
      have hle : 2 ^ (j + 1) ≤ 2 ^ 30 := by omega
      rw [e2, e3, e4, e5, e6, e7, bAnd_nat _ _ (by omega) (by omega), Nat.and_two_pow_sub_one_eq_mod]
      have hfuel : 30 - j = (29 - j) + 1 := by omega
      refine ⟨fun h2 => ?_, fun h2 => ?_⟩
      · simp only [Bool.and_eq_true, decide_eq_true_eq, beq_iff_eq] at h2
        have hj1 : j + 1 ≤ K := by
          refine Classical.byContradiction fun hx => ?_
          have : j = K := by omega
          subst this
          omega
        refine ⟨⟨j + 1, rfl, hj1, ?_, by omega⟩, ?_⟩
        · have hz : c % (2 * 2 ^ j) = 0 := by
            rw [← hps]
            exact Int.ofNat.inj h2.1.1
          rw [← hg, hfuel, rgrow, if_pos ⟨hz, by omega⟩, hps, show 30 - (j + 1) = 29 - j by omega]
        · show 2 * b + 2 - ((2 ^ (j + 1) : Nat) : Int).toNat < 2 * b + 2 - ((2 ^ j : Nat) : Int).toNat
          omega
      · have hstop : rgrow 30 c b 1 = 2 ^ j := by
          rw [← hg, hfuel, rgrow, if_neg ?_]
          rintro ⟨h3, h4⟩
          have hz : ((c % 2 ^ (j + 1) : Nat) : Int) = 0 := by rw [hps, h3]; rfl
          simp only [Bool.and_eq_false_iff, decide_eq_false_iff_not, beq_eq_false_iff_ne] at h2
          omega
        have e8 : w64 (((2 ^ j : Nat) : Int) - 1) = ((2 ^ j : Nat) : Int) - 1 := w64_eq _ (by omega)
        have e9 : w64 ((c : Int) + ((2 ^ j : Nat) : Int)) = ((c + 2 ^ j : Nat) : Int) := by rw [w64_eq _ (by omega)]; omega
        rw [e8, e9, mask_of long j K hK hK29 hj]
        obtain ⟨m, rfl⟩ : ∃ m, n = m + 1 := ⟨n - 1, by omega⟩
        refine ⟨by omega, ⟨c + 2 ^ j, m, rfl, hcj, by omega, by simp; omega, ?_⟩, ?_⟩
        · rw [← he, rgo, if_pos hcb, hstop, List.append_assoc]
          rfl
        · show b + 1 - ((c + 2 ^ j : Nat) : Int).toNat < b + 1 - ((c : Nat) : Int).toNat
          omega
    · have hcb : c = b + 1 := by simp at h1; omega
      subst hcb
      have : rgo n (b + 1) b long = [] := by
        cases n with
        | zero => rfl
        | succ n => rw [rgo, if_neg (by omega)]
      rw [this, List.append_nil] at he
      rw [he]

end Go.Proofs.Ytkogkombalcgeaa
