/- Pure proofs: no program in sight. -/
import Derived.Test.YtkogkombalcgeaaVF
set_option linter.unusedVariables false
set_option linter.unusedSimpArgs false
namespace Go.Proofs.Ytkogkombalcgeaa
open Go.Sy Go.RowKit
theorem countP_more (p : Nat → Bool) (a b : Nat) (h : ∀ id, a ≤ id → p id = false) : (List.range (a + b)).countP p = (List.range a).countP p := by
  induction b with
  | zero => rfl
  | succ b ih =>
    rw [← Nat.add_assoc, List.range_succ, List.countP_append, ih, List.countP_singleton, h (a + b) (by omega)]
    rfl
theorem cN_zero (l : List Filter) (n : Nat) : cN l n 0 0 = (List.range n).countP fun id => l.any fun f => fmatch f id := by
  unfold cN
  refine countP_same _ _ _ fun id _ => ?_
  simp
theorem fCountS_of (l : List Filter) (h : fcheckS l = 0) (long : Bool) : fCountS l long = ((((List.range ((ftop long).toNat + 1)).countP fun id => l.any fun f => (f.Long == long) && fmatch f id : Nat) : Int), 0) := by
  unfold fCountS
  rw [if_neg (by rw [h]; exact fun h => h rfl)]
  have : countS (l.filter fun f => f.Long == long) (ftop long) 0 0 = (((List.range ((ftop long).toNat + 1)).countP fun id => l.any fun f => (f.Long == long) && fmatch f id : Nat) : Int) := by
    unfold countS
    rw [show ((0 : Int).toNat) = 0 from rfl, cN_zero]
    congr 1
    refine countP_same _ _ _ fun id _ => ?_
    rw [List.any_filter]
  rw [this]
theorem tb_high (W : Nat) (h : W < 2048) (i : Nat) (hi : 11 ≤ i) : W.testBit i = false := by
  have h11 : 2 ^ 11 ≤ 2 ^ i := Nat.pow_le_pow_right (by omega) hi
  exact Nat.testBit_lt_two_pow (by omega)
/-- As a long one, whose higher bits must be 0. -/
def tolong (f : Filter) : Filter := ⟨f.Want, bOr .i64 f.Mask 536868864, true⟩
theorem high_mask (i : Nat) : (536868864 : Nat).testBit i = (decide (11 ≤ i) && decide (i < 29)) := by
  have e : (536868864 : Nat) = but (2 ^ 29 - 1) (2 ^ 11 - 1) := by decide
  rw [e, testBit_but, Nat.testBit_two_pow_sub_one, Nat.testBit_two_pow_sub_one]
  by_cases h1 : i < 29 <;> by_cases h2 : i < 11 <;> simp [h1, h2] <;> omega
theorem tolong_right (f : Filter) (hf : FR f) (hs : f.Long = false) : FR (tolong f) ∧ (tolong f).Mask.toNat = f.Mask.toNat ||| 536868864 := by
  obtain ⟨h1, h2, h3, h4⟩ := hf
  rw [hs] at h2 h4
  simp only [ftop, cond_false] at h2 h4
  have e : bOr .i64 f.Mask 536868864 = ((f.Mask.toNat ||| 536868864 : Nat) : Int) := by
    have := bOr_int f.Mask 536868864 (by omega) (by omega)
    exact this
  have hlt : f.Mask.toNat ||| 536868864 < 2 ^ 29 := Nat.or_lt_two_pow (by omega) (by decide)
  unfold tolong FR
  simp only [ftop, cond_true, e, Int.toNat_natCast]
  exact ⟨⟨h1, by omega, by omega, by omega⟩, trivial⟩
theorem tolong_match (f : Filter) (hf : FR f) (hs : f.Long = false) (id : Nat) (hid : id < 2 ^ 29) : fmatch (tolong f) id = (decide (id < 2048) && fmatch f id) := by
  have hm := (tolong_right f hf hs).2
  obtain ⟨h1, h2, h3, h4⟩ := hf
  rw [hs] at h2 h4
  simp only [ftop, cond_false] at h2 h4
  rw [Bool.eq_iff_iff, Bool.and_eq_true, decide_eq_true_eq, fmatch_iff, fmatch_iff, hm]
  have hW : (tolong f).Want = f.Want := rfl
  rw [hW]
  constructor
  · intro h
    refine ⟨?_, fun i hi => h i (by rw [Nat.testBit_or, hi]; rfl)⟩
    have : id < 2 ^ 11 := by
      refine Nat.lt_pow_two_of_testBit id fun i hi => ?_
      by_cases h29 : i < 29
      · rw [h i (by rw [Nat.testBit_or, high_mask]; simp [h29]; right; exact hi)]
        exact tb_high f.Want.toNat (by omega) i hi
      · have : 2 ^ 29 ≤ 2 ^ i := Nat.pow_le_pow_right (by omega) (by omega)
        exact Nat.testBit_lt_two_pow (by omega)
    exact this
  · rintro ⟨hl, h⟩ i hi
    rw [Nat.testBit_or, Bool.or_eq_true] at hi
    rcases hi with hi | hi
    · exact h i hi
    · rw [high_mask, Bool.and_eq_true, decide_eq_true_eq, decide_eq_true_eq] at hi
      rw [tb_high id hl i hi.1, tb_high f.Want.toNat (by omega) i hi.1]
theorem fcheckS_zero (l : List Filter) (hlen : l.length ≤ 16) (h : ∀ f ∈ l, FR f) : fcheckS l = 0 := by
  have hn : ¬ 16 < l.length := by omega
  unfold fcheckS
  rw [if_neg hn, if_pos]
  rw [List.all_eq_true]
  intro f hf
  obtain ⟨h1, h2, h3, h4⟩ := h f hf
  simp [fok, h1, h2, h3, h4]
theorem any_same {α : Type} (l : List α) (p q : α → Bool) (h : ∀ x ∈ l, p x = q x) : l.any p = l.any q := by
  induction l with
  | nil => rfl
  | cons x l ih => rw [List.any_cons, List.any_cons, h x (by simp), ih (fun y hy => h y (by simp [hy]))]
theorem LCount_ok (u0 : List Filter) (k0 : (∀ y0 ∈ u0, okFilter y0) ∧ u0.length * 24 ≤ lim) : LCount_vc u0 (fun r => r = true) := by
  intro hl
  refine ⟨fun h => ?_, fun h => ?_⟩
  · have : fcheckS u0 ≠ 0 := by simpa using h
    simp [fCountS, this]
  · have h0 : fcheckS u0 = 0 := by simpa using h
    have hlen := fcheckS_len u0 h0
    have hFR : ∀ f ∈ u0, FR f := fcheckS_ok u0 h0
    have hc := fCountS_of u0 h0 false
    rw [show (ftop false).toNat + 1 = 2048 by decide] at hc
    rw [hc]
    let pr : Nat → Bool := fun id => u0.any fun f => (f.Long == false) && fmatch f id
    have hcle : ∀ k, (List.range k).countP pr ≤ k := fun k => Nat.le_trans List.countP_le_length (by simp)
    refine ⟨fun x y => ∃ k : Nat, y = k ∧ k ≤ 2048 ∧ x = (((List.range k).countP pr : Nat) : Int), fun x y => 2048 - y.toNat, ⟨0, rfl, by omega, rfl⟩, ?_⟩
    rintro _ _ ⟨k, rfl, hk, rfl⟩
    refine ⟨fun h1 => ?_, fun h1 => ?_⟩
    · have hk2 : k < 2048 := by simp at h1; omega
      have hle := hcle k
      have e : fcontfS u0 (fun x0 => fc1 x0 (k : Int)) = pr k := by
        unfold fcontfS
        refine any_same _ _ _ fun x hx => ?_
        have := letsin_eq x ⟨(k : Int), false, false, false, 0, []⟩ (hFR x hx) ⟨by simp, by simp; omega⟩
        unfold fc1
        rw [this]
        simp
      rw [e, w64_succ k (by omega)]
      refine ⟨fun h2 => ⟨⟨k + 1, rfl, by omega, ?_⟩, ?_⟩, fun h2 => ⟨⟨k + 1, rfl, by omega, ?_⟩, ?_⟩⟩
      · rw [w64_eq _ (by omega), List.range_succ, List.countP_append, List.countP_singleton, h2]
        simp
      · show 2048 - ((k + 1 : Nat) : Int).toNat < 2048 - ((k : Nat) : Int).toNat
        omega
      · rw [List.range_succ, List.countP_append, List.countP_singleton, h2]
        simp
      · show 2048 - ((k + 1 : Nat) : Int).toNat < 2048 - ((k : Nat) : Int).toNat
        omega
    · have hk2 : k = 2048 := by simp at h1; omega
      subst hk2
      refine ⟨fun h2 => ?_, fun _ => ?_⟩
      · exfalso
        simp [pr] at h2
      · refine rg1b hl (fun k (x : List Filter) => x = ((u0.take k).filter fun f => !f.Long).map tolong) (by simp) ?_ ?_
        · rintro k _ q hk hq rfl inv mu hn
          have hfl : (((u0.take k).filter fun f => !f.Long).map tolong).length ≤ 16 := by
            rw [List.length_map]
            exact Nat.le_trans (List.length_filter_le _ _) (by simp; omega)
          refine ⟨fun h2 => ⟨by omega, hn _ ?_⟩, fun h2 => hn _ ?_⟩
          · rw [take_next u0 k q hq, List.filter_append, List.map_append]; simp [h2, tolong]
          · rw [take_next u0 k q hq, List.filter_append, List.map_append]; simp [h2]
        · rintro _ rfl
          rw [List.take_length]
          have hm : ∀ f ∈ u0.filter (fun f => !f.Long), FR f ∧ f.Long = false := fun f hf => by
            obtain ⟨h3, h4⟩ := List.mem_filter.1 hf
            exact ⟨hFR f h3, by simpa using h4⟩
          have hz : fcheckS ((u0.filter fun f => !f.Long).map tolong) = 0 := by
            refine fcheckS_zero _ ?_ ?_
            · rw [List.length_map]
              exact Nat.le_trans (List.length_filter_le _ _) hlen
            · intro f hf
              obtain ⟨g, hg, rfl⟩ := List.mem_map.1 hf
              exact (tolong_right g (hm g hg).1 (hm g hg).2).1
          have hc2 := fCountS_of _ hz true
          rw [hc2]
          have he : (List.range ((ftop true).toNat + 1)).countP (fun id => ((u0.filter fun f => !f.Long).map tolong).any fun f => (f.Long == true) && fmatch f id) = (List.range 2048).countP pr := by
            have e1 : (List.range ((ftop true).toNat + 1)).countP (fun id => ((u0.filter fun f => !f.Long).map tolong).any fun f => (f.Long == true) && fmatch f id) = (List.range ((ftop true).toNat + 1)).countP (fun id => decide (id < 2048) && pr id) := by
              refine countP_same _ _ _ fun id hid => ?_
              have hid2 : id < 2 ^ 29 := by
                have := List.mem_range.1 hid
                have e29 : (ftop true).toNat + 1 = 2 ^ 29 := by decide
                omega
              rw [List.any_map, List.any_filter]
              have e3 : (u0.any fun f => (!f.Long) && ((fun f => (f.Long == true) && fmatch f id) ∘ tolong) f) = u0.any fun f => decide (id < 2048) && ((f.Long == false) && fmatch f id) := by
                refine any_same _ _ _ fun f hf => ?_
                cases hL : f.Long with
                | true => simp
                | false =>
                  have := tolong_match f (hFR f hf) hL id hid2
                  simp only [Function.comp, this]
                  simp [tolong]
              rw [e3]
              cases decide (id < 2048) with
              | true => simp [pr]
              | false => simp
            rw [e1, show (ftop true).toNat + 1 = 2048 + (2 ^ 29 - 2048) by decide, countP_more _ 2048 _ (fun id hid => by simp; omega)]
            refine countP_same _ _ _ fun id hid => ?_
            have := List.mem_range.1 hid
            simp [this]
          rw [he]
          simp [pr]
/-! ### Fewer filters -/
theorem within_iff (a b : Filter) (ha : FR a) (hb : FR b) : fwithin a b = true ↔ a.Long = b.Long ∧ (∀ i, b.Mask.toNat.testBit i = true → a.Mask.toNat.testBit i = true) ∧ ∀ i, b.Mask.toNat.testBit i = true → a.Want.toNat.testBit i = b.Want.toNat.testBit i := by
  obtain ⟨a1, a2, a3, a4⟩ := ha
  obtain ⟨b1, b2, b3, b4⟩ := hb
  have := ftop_le a.Long
  have := ftop_le b.Long
  unfold fwithin
  have hx := xor_lt63 a.Want.toNat b.Want.toNat (by omega) (by omega)
  rw [bAndNot_int _ _ (by omega) (by omega), bXor_int _ _ (by omega) (by omega), bAnd_int _ b.Mask (by omega) (by omega), Int.toNat_natCast]
  rw [Bool.and_eq_true, Bool.and_eq_true, beq_iff_eq, beq_iff_eq, beq_iff_eq, and_assoc]
  refine and_congr_right fun _ => and_congr ?_ ?_
  · constructor
    · intro h i hi
      have h : but b.Mask.toNat a.Mask.toNat = 0 := by omega
      have := congrArg (fun x => x.testBit i) h
      simp only [testBit_but, hi, Nat.zero_testBit, Bool.true_and] at this
      simpa using this
    · intro h
      have : but b.Mask.toNat a.Mask.toNat = 0 := by
        apply Nat.eq_of_testBit_eq
        intro i
        rw [testBit_but, Nat.zero_testBit]
        cases hi : b.Mask.toNat.testBit i with
        | false => rfl
        | true => rw [h i hi]; rfl
      omega
  · constructor
    · intro h i hi
      have h : (a.Want.toNat ^^^ b.Want.toNat) &&& b.Mask.toNat = 0 := by omega
      have := congrArg (fun x => x.testBit i) h
      simp only [Nat.testBit_and, Nat.testBit_xor, hi, Nat.zero_testBit, Bool.and_true] at this
      simpa using this
    · intro h
      have : (a.Want.toNat ^^^ b.Want.toNat) &&& b.Mask.toNat = 0 := by
        apply Nat.eq_of_testBit_eq
        intro i
        rw [Nat.testBit_and, Nat.testBit_xor, Nat.zero_testBit]
        cases hi : b.Mask.toNat.testBit i with
        | false => simp
        | true => rw [h i hi]; simp
      omega
theorem le_of_bits (a b : Nat) (h : ∀ i, a.testBit i = true → b.testBit i = true) : a ≤ b := by
  have : a = a &&& b := by
    apply Nat.eq_of_testBit_eq
    intro i
    rw [Nat.testBit_and]
    cases hi : a.testBit i with
    | false => rfl
    | true => rw [h i hi]; rfl
  rw [this]
  exact Nat.and_le_right
theorem eq_of_bits (a b : Nat) (h : a = b) (i : Nat) : a.testBit i = b.testBit i := by rw [h]
def trim (x : Filter) : Filter := ⟨bAnd .i64 x.Want x.Mask, x.Mask, x.Long⟩
theorem trim_right (x : Filter) (hx : FR x) : FR (trim x) ∧ (trim x).Want.toNat = x.Want.toNat &&& x.Mask.toNat := by
  obtain ⟨h1, h2, h3, h4⟩ := hx
  have := ftop_le x.Long
  have hle : x.Want.toNat &&& x.Mask.toNat ≤ x.Want.toNat := Nat.and_le_left
  unfold trim FR
  simp only
  rw [bAnd_int _ _ (by omega) (by omega), Int.toNat_natCast]
  exact ⟨⟨by omega, by omega, h3, h4⟩, rfl⟩
theorem trim_match (x : Filter) (hx : FR x) (id : Nat) : fmatch (trim x) id = fmatch x id := by
  have hw := (trim_right x hx).2
  rw [Bool.eq_iff_iff, fmatch_iff, fmatch_iff, hw]
  have hM : (trim x).Mask = x.Mask := rfl
  rw [hM]
  refine forall_congr' fun i => ⟨fun h hi => ?_, fun h hi => ?_⟩
  · rw [h hi, Nat.testBit_and, hi, Bool.and_true]
  · rw [h hi, Nat.testBit_and, hi, Bool.and_true]
theorem mem_ikeep (d : Nat → Filter → Bool) (f : Filter) : ∀ (l : List Filter) (i : Nat), f ∈ ikeep d i l ↔ ∃ j x, l[j]? = some x ∧ d (i + j) x = false ∧ f = trim x
  | [], i => by simp [ikeep]
  | x :: l, i => by
    have ih := mem_ikeep d f l (i + 1)
    have key : (∃ j y, (x :: l)[j]? = some y ∧ d (i + j) y = false ∧ f = trim y) ↔ (d i x = false ∧ f = trim x) ∨ ∃ j y, l[j]? = some y ∧ d (i + 1 + j) y = false ∧ f = trim y := by
      constructor
      · rintro ⟨j, y, h1, h2, h3⟩
        cases j with
        | zero => left; simp at h1; subst h1; exact ⟨h2, h3⟩
        | succ j => right; exact ⟨j, y, h1, by rw [show i + 1 + j = i + (j + 1) by omega]; exact h2, h3⟩
      · rintro (⟨h1, h2⟩ | ⟨j, y, h1, h2, h3⟩)
        · exact ⟨0, x, rfl, h1, h2⟩
        · exact ⟨j + 1, y, h1, by rw [show i + (j + 1) = i + 1 + j by omega]; exact h2, h3⟩
    rw [key, ← ih, show ikeep d i (x :: l) = if d i x then ikeep d (i + 1) l else trim x :: ikeep d (i + 1) l from rfl]
    cases h : d i x with
    | true => simp
    | false =>
      simp only [Bool.false_eq_true, if_false, List.mem_cons, true_and]
theorem least_has (l : List Filter) (h0 : fcheckS l = 0) (id : Nat) : ∀ (m j : Nat) (x : Filter), l[j]? = some x → fmatch x id = true → x.Mask.toNat * 17 + j < m → ∃ (j' : Nat) (x' : Filter), l[j']? = some x' ∧ fdrop l j' x' = false ∧ x'.Long = x.Long ∧ fmatch x' id = true := by
  intro m
  induction m with
  | zero => intro j x _ _ h; omega
  | succ m ih =>
    intro j x hx hm hlt
    cases hd : fdrop l j x with
    | false => exact ⟨j, x, hx, hd, rfl, hm⟩
    | true =>
      unfold fdrop at hd
      obtain ⟨k, b, hb, hp⟩ := (iany_iff _ _ _).1 hd
      rw [Nat.zero_add] at hp
      simp only [Bool.and_eq_true, decide_eq_true_eq, Bool.or_eq_true, Bool.not_eq_true'] at hp
      obtain ⟨⟨hkj, hw⟩, hor⟩ := hp
      have hFx : FR x := fcheckS_ok l h0 x (List.mem_of_getElem? hx)
      have hFb : FR b := fcheckS_ok l h0 b (List.mem_of_getElem? hb)
      obtain ⟨w1, w2, w3⟩ := (within_iff x b hFx hFb).1 hw
      have hle := le_of_bits _ _ w2
      have hmb : fmatch b id = true := (fmatch_iff b id).2 fun i hi => by rw [(fmatch_iff x id).1 hm i (w2 i hi), w3 i hi]
      have hk16 : k < 16 := by
        have := (List.getElem?_eq_some_iff.1 hb).1
        have := fcheckS_len l h0
        omega
      have hlt2 : b.Mask.toNat * 17 + k < m := by
        rcases Nat.lt_or_ge b.Mask.toNat x.Mask.toNat with h1 | h1
        · omega
        · have he : b.Mask.toNat = x.Mask.toNat := by omega
          have hwb : fwithin b x = true := (within_iff b x hFb hFx).2 ⟨w1.symm, fun i hi => by rw [he]; exact hi, fun i hi => (w3 i (by rw [he]; exact hi)).symm⟩
          have : k < j := by
            rcases hor with h2 | h2
            · exact h2
            · rw [hwb] at h2; cases h2
          omega
      obtain ⟨j', x', r1, r2, r3, r4⟩ := ih k b hb hmb hlt2
      exact ⟨j', x', r1, r2, by rw [r3, ← w1], r4⟩
theorem least_any (l : List Filter) (h0 : fcheckS l = 0) (long : Bool) (id : Nat) : (l.any fun f => (f.Long == long) && fmatch f id) = ((ikeep (fdrop l) 0 l).any fun f => (f.Long == long) && fmatch f id) := by
  rw [Bool.eq_iff_iff, List.any_eq_true, List.any_eq_true]
  constructor
  · rintro ⟨x, hx, hp⟩
    rw [Bool.and_eq_true, beq_iff_eq] at hp
    obtain ⟨j, hj⟩ := List.mem_iff_getElem?.1 hx
    obtain ⟨j', x', r1, r2, r3, r4⟩ := least_has l h0 id _ j x hj hp.2 (Nat.lt_succ_self _)
    have hF : FR x' := fcheckS_ok l h0 x' (List.mem_of_getElem? r1)
    refine ⟨trim x', (mem_ikeep _ _ _ _).2 ⟨j', x', r1, by rw [Nat.zero_add]; exact r2, rfl⟩, ?_⟩
    rw [Bool.and_eq_true, beq_iff_eq, trim_match x' hF]
    exact ⟨by rw [← hp.1, ← r3]; rfl, r4⟩
  · rintro ⟨f, hf, hp⟩
    obtain ⟨j, x, r1, _, rfl⟩ := (mem_ikeep _ _ _ _).1 hf
    have hF : FR x := fcheckS_ok l h0 x (List.mem_of_getElem? r1)
    rw [trim_match x hF] at hp
    exact ⟨x, List.mem_of_getElem? r1, hp⟩
theorem least_check (l : List Filter) (h0 : fcheckS l = 0) : fcheckS (ikeep (fdrop l) 0 l) = 0 := by
  refine fcheckS_zero _ ?_ ?_
  · have := ikeep_len (fdrop l) l 0
    have := fcheckS_len l h0
    omega
  · intro f hf
    obtain ⟨j, x, r1, _, rfl⟩ := (mem_ikeep _ _ _ _).1 hf
    exact (trim_right x (fcheckS_ok l h0 x (List.mem_of_getElem? r1))).1
theorem fidx_count (p : Filter → Bool) : ∀ (l : List Filter) (i : Nat), (fidx p i l).length = l.countP p
  | [], i => rfl
  | x :: l, i => by
    unfold fidx
    rw [List.countP_cons, ← fidx_count p l (i + 1)]
    split <;> simp_all
theorem countP_pos_any (p : Filter → Bool) (l : List Filter) : decide (((l.countP p : Nat) : Int) > 0) = l.any p := by
  rw [Bool.eq_iff_iff, decide_eq_true_eq, List.any_eq_true]
  constructor
  · intro h
    have h : 0 < l.countP p := by omega
    obtain ⟨x, hx, hp⟩ := List.countP_pos_iff.1 h
    exact ⟨x, hx, hp⟩
  · rintro ⟨x, hx, hp⟩
    have : 0 < l.countP p := List.countP_pos_iff.2 ⟨x, hx, hp⟩
    omega
theorem finS_of (l : List Filter) (h : fcheckS l = 0) (f : Frame) : finS l f = if fcheckfr f = 0 then (fidx (fun x => lets1 x f) 0 l, 0) else ([], fcheckfr f) := by
  unfold finS
  rw [if_neg (by rw [h]; exact fun h => h rfl)]
  by_cases hf : fcheckfr f = 0
  · rw [if_pos hf, if_neg (by rw [hf]; exact fun h => h rfl)]
  · rw [if_neg hf, if_pos hf]
/-! ### Ranges let in their numbers -/
theorem rgrow_pow (n low high i : Nat) (hi : low % 2 ^ i = 0) (hl : low + 2 ^ i ≤ high + 1) : ∃ j, rgrow n low high (2 ^ i) = 2 ^ j ∧ low % 2 ^ j = 0 ∧ low + 2 ^ j ≤ high + 1 := by
  induction n generalizing i with
  | zero => exact ⟨i, rfl, hi, hl⟩
  | succ n ih =>
    unfold rgrow
    split
    · rename_i h
      have e : 2 * 2 ^ i = 2 ^ (i + 1) := by rw [Nat.pow_succ, Nat.mul_comm]
      rw [e] at h ⊢
      exact ih (i + 1) h.1 h.2
    · exact ⟨i, rfl, hi, hl⟩
theorem range_match (c j K id : Nat) (long : Bool) (hK : ftop long = ((2 ^ K - 1 : Nat) : Int)) (hK29 : K ≤ 29) (hj : c % 2 ^ j = 0) (hc : c + 2 ^ j ≤ 2 ^ K) (hid : id < 2 ^ K) :
    fmatch ⟨(c : Int), ftop long - (((2 ^ j : Nat) : Int) - 1), long⟩ id = decide (c ≤ id ∧ id < c + 2 ^ j) := by
  have hp := Nat.two_pow_pos j
  have hjK : j ≤ K := by
    refine Classical.byContradiction fun hn => ?_
    have : 2 ^ K < 2 ^ j := Nat.pow_lt_pow_right (by omega) (by omega)
    omega
  have hpK : 2 ^ K ≤ 2 ^ 29 := Nat.pow_le_pow_right (by omega) hK29
  have hM : (ftop long - (((2 ^ j : Nat) : Int) - 1)).toNat = but (2 ^ K - 1) (2 ^ j - 1) := by
    rw [but_sub]
    · rw [hK]; omega
    · rw [Nat.and_comm, Nat.and_two_pow_sub_one_eq_mod]
      exact Nat.mod_eq_of_lt (by omega)
  rw [Bool.eq_iff_iff, fmatch_iff, decide_eq_true_eq]
  show (∀ i, (ftop long - (((2 ^ j : Nat) : Int) - 1)).toNat.testBit i = true → id.testBit i = (c : Int).toNat.testBit i) ↔ _
  rw [hM, Int.toNat_natCast]
  have hdiv : (∀ i, (but (2 ^ K - 1) (2 ^ j - 1)).testBit i = true → id.testBit i = c.testBit i) ↔ id / 2 ^ j = c / 2 ^ j := by
    constructor
    · intro h
      apply Nat.eq_of_testBit_eq
      intro i
      rw [Nat.testBit_div_two_pow, Nat.testBit_div_two_pow]
      by_cases hi : i + j < K
      · exact h (i + j) (by rw [testBit_but, Nat.testBit_two_pow_sub_one, Nat.testBit_two_pow_sub_one]; simp [hi])
      · have h2 : 2 ^ K ≤ 2 ^ (i + j) := Nat.pow_le_pow_right (by omega) (by omega)
        rw [Nat.testBit_lt_two_pow (show id < 2 ^ (i + j) by omega), Nat.testBit_lt_two_pow (show c < 2 ^ (i + j) by omega)]
    · intro h i hi
      rw [testBit_but, Nat.testBit_two_pow_sub_one, Nat.testBit_two_pow_sub_one] at hi
      simp only [Bool.and_eq_true, decide_eq_true_eq, Bool.not_eq_true', decide_eq_false_iff_not] at hi
      have := congrArg (fun x => x.testBit (i - j)) h
      simp only [Nat.testBit_div_two_pow] at this
      rwa [show i - j + j = i by omega] at this
  rw [hdiv]
  have hcd : c = 2 ^ j * (c / 2 ^ j) := by have := Nat.div_add_mod c (2 ^ j); omega
  generalize c / 2 ^ j = q at *
  constructor
  · intro h
    have h1 := Nat.div_add_mod id (2 ^ j)
    have h2 := Nat.mod_lt id hp
    rw [h] at h1
    omega
  · rintro ⟨h1, h2⟩
    refine Nat.div_eq_of_lt_le (by rw [Nat.mul_comm]; omega) ?_
    rw [Nat.succ_mul, Nat.mul_comm]
    omega
theorem rgo_facts (K : Nat) (long : Bool) (hK : ftop long = ((2 ^ K - 1 : Nat) : Int)) (hK29 : K ≤ 29) (b : Nat) (hb : b < 2 ^ K) (id : Nat) (hid : id < 2 ^ K) : ∀ (n c : Nat), b + 1 ≤ c + n →
    (rgo n c b long).countP (fun f => (f.Long == long) && fmatch f id) = (if c ≤ id ∧ id ≤ b then 1 else 0) ∧ ∀ f ∈ rgo n c b long, FR f
  | 0, c, h => by
    refine ⟨?_, by simp [rgo]⟩
    rw [if_neg (by omega)]
    rfl
  | n + 1, c, h => by
    unfold rgo
    by_cases hcb : c ≤ b
    · rw [if_pos hcb]
      obtain ⟨j, e1, e2, e3⟩ := rgrow_pow 30 c b 0 (by simp [Nat.mod_one]) (by simp; omega)
      rw [Nat.pow_zero] at e1
      rw [e1]
      have hp := Nat.two_pow_pos j
      have hpK : 2 ^ K ≤ 2 ^ 29 := Nat.pow_le_pow_right (by omega) hK29
      obtain ⟨i1, i2⟩ := rgo_facts K long hK hK29 b hb id hid n (c + 2 ^ j) (by omega)
      refine ⟨?_, fun f hf => ?_⟩
      · rw [List.countP_cons, i1, range_match c j K id long hK hK29 e2 (by omega) hid]
        simp only [beq_self_eq_true, Bool.true_and, decide_eq_true_eq]
        split <;> split <;> split <;> omega
      · rcases List.mem_cons.1 hf with rfl | hf
        · unfold FR
          dsimp only
          rw [hK]
          omega
        · exact i2 f hf
    · rw [if_neg hcb]
      refine ⟨?_, by simp⟩
      rw [if_neg (by omega)]
      rfl
theorem countP_between (a b : Nat) (n : Nat) : (List.range n).countP (fun i => decide (a ≤ i ∧ i ≤ b)) = min n (b + 1) - a := by
  induction n with
  | zero => simp
  | succ n ih =>
    rw [List.range_succ, List.countP_append, ih, List.countP_singleton]
    by_cases h : a ≤ n ∧ n ≤ b
    · rw [if_pos (by simpa using h)]; omega
    · rw [if_neg (by simpa using h)]; omega
theorem countP_one_any (l : List Filter) (p : Filter → Bool) (c : Prop) [Decidable c] (h : l.countP p = if c then 1 else 0) : l.any p = decide c := by
  have := countP_pos_any p l
  rw [← this, h]
  by_cases hc : c <;> simp [hc]
theorem countP_sameF (p q : Filter → Bool) (l : List Filter) (h : ∀ x ∈ l, p x = q x) : l.countP p = l.countP q := by
  induction l with
  | nil => rfl
  | cons x l ih => rw [List.countP_cons, List.countP_cons, h x (by simp), ih (fun y hy => h y (by simp [hy]))]
theorem LS_part (u1 : Frame) (u2 u3 : Int) (h2 : IntKind.i64.min ≤ u2 ∧ u2 ≤ IntKind.i64.max) (h3 : IntKind.i64.min ≤ u3 ∧ u3 ≤ IntKind.i64.max) :
    (((((((rangesS u2 u3 u1.Long).2) != 0) || (decide ((((rangesS u2 u3 u1.Long).1).length : Int) > 16))) = true →
            (true = true)) ∧
          (((((rangesS u2 u3 u1.Long).2) != 0) || (decide ((((rangesS u2 u3 u1.Long).1).length : Int) > 16))) = false →
            ((((((fCountS ((rangesS u2 u3 u1.Long).1) u1.Long).2) != 0) || (((fCountS ((rangesS u2 u3 u1.Long).1) u1.Long).1) != (w64 ((w64 (u3 - u2)) + 1)))) = true →
              (false = true)) ∧
            (((((fCountS ((rangesS u2 u3 u1.Long).1) u1.Long).2) != 0) || (((fCountS ((rangesS u2 u3 u1.Long).1) u1.Long).1) != (w64 ((w64 (u3 - u2)) + 1)))) = false →
              (((finS ((rangesS u2 u3 u1.Long).1) u1).1).length ≤ 140737488355328 →
              (((((finS ((rangesS u2 u3 u1.Long).1) u1).2) != 0) || ((((((finS ((rangesS u2 u3 u1.Long).1) u1).1).length : Int) == 1) == ((decide (u1.ID ≥ u2)) && (decide (u1.ID ≤ u3)))) && (decide ((((finS ((rangesS u2 u3 u1.Long).1) u1).1).length : Int) ≤ 1)))) = true))))))) := by
  refine ⟨fun _ => rfl, fun h => ?_⟩
  have hn : ¬ (u2 < 0 ∨ ftop u1.Long < u3 ∨ u3 < u2) := by
    intro hc
    unfold rangesS at h
    rw [if_pos hc] at h
    simp at h
  have hS : rangesS u2 u3 u1.Long = (rgo (u3 - u2 + 1).toNat u2.toNat u3.toNat u1.Long, 0) := by
    unfold rangesS
    rw [if_neg hn]
  rw [hS] at h ⊢
  simp only [bne_self_eq_false, Bool.false_or, decide_eq_false_iff_not] at h
  obtain ⟨K, hK29, hK⟩ := ftop_pow u1.Long
  have hpK : 2 ^ K ≤ 2 ^ 29 := Nat.pow_le_pow_right (by omega) hK29
  have hpos := Nat.two_pow_pos K
  obtain ⟨a, rfl⟩ : ∃ a : Nat, u2 = a := ⟨u2.toNat, by omega⟩
  obtain ⟨b, rfl⟩ : ∃ b : Nat, u3 = b := ⟨u3.toNat, by omega⟩
  simp only [Int.toNat_natCast] at *
  have hb : b < 2 ^ K := by omega
  have hF := fun id hid => rgo_facts K u1.Long hK hK29 b hb id hid ((b : Int) - a + 1).toNat a (by omega)
  have hz : fcheckS (rgo ((b : Int) - a + 1).toNat a b u1.Long) = 0 := fcheckS_zero _ (by omega) (hF 0 hpos).2
  have hc := fCountS_of _ hz u1.Long
  have hcount : (List.range ((ftop u1.Long).toNat + 1)).countP (fun id => (rgo ((b : Int) - a + 1).toNat a b u1.Long).any fun f => (f.Long == u1.Long) && fmatch f id) = b + 1 - a := by
    have e : (ftop u1.Long).toNat + 1 = 2 ^ K := by omega
    rw [e]
    have : (List.range (2 ^ K)).countP (fun id => (rgo ((b : Int) - a + 1).toNat a b u1.Long).any fun f => (f.Long == u1.Long) && fmatch f id) = (List.range (2 ^ K)).countP (fun i => decide (a ≤ i ∧ i ≤ b)) :=
      countP_same _ _ _ fun id hid => countP_one_any _ _ _ (hF id (List.mem_range.1 hid)).1
    rw [this, countP_between]
    omega
  rw [hcount] at hc
  rw [hc]
  have hw : w64 (w64 ((b : Int) - a) + 1) = ((b + 1 - a : Nat) : Int) := by
    rw [w64_eq ((b : Int) - a) (by omega), w64_eq _ (by omega)]
    omega
  rw [hw]
  refine ⟨fun h => by simp at h, fun _ _ => ?_⟩
  obtain ⟨fr, hr⟩ : ∃ fr, finS (rgo ((b : Int) - a + 1).toNat a b u1.Long) u1 = fr := ⟨_, rfl⟩
  simp only [hr]
  rw [finS_of _ hz] at hr
  by_cases hf : fcheckfr u1 = 0
  · rw [if_pos hf] at hr
    have hid := fcheckfr_id u1 hf
    have h29 := fcheckfr_id29 u1 hf
    have hidK : u1.ID.toNat < 2 ^ K := by omega
    have e : (fidx (fun x => lets1 x u1) 0 (rgo ((b : Int) - a + 1).toNat a b u1.Long)).length = if a ≤ u1.ID.toNat ∧ u1.ID.toNat ≤ b then 1 else 0 := by
      rw [fidx_count, ← (hF u1.ID.toNat hidK).1]
      refine countP_sameF _ _ _ fun x hx => ?_
      exact lets1_eq x u1 ((hF 0 hpos).2 x hx) h29
    have e2 : fr.1.length = if a ≤ u1.ID.toNat ∧ u1.ID.toNat ≤ b then 1 else 0 := by rw [← hr]; exact e
    have e3 : fr.2 = 0 := by rw [← hr]
    generalize fr.1.length = n at e2
    rw [e3, e2]
    by_cases hin : a ≤ u1.ID.toNat ∧ u1.ID.toNat ≤ b
    · rw [if_pos hin]
      have h1 : decide (u1.ID ≥ (a : Int)) = true := by simp; omega
      have h2 : decide (u1.ID ≤ (b : Int)) = true := by simp; omega
      rw [h1, h2]
      rfl
    · rw [if_neg hin]
      have h1 : (decide (u1.ID ≥ (a : Int)) && decide (u1.ID ≤ (b : Int))) = false := by
        rw [Bool.and_eq_false_iff, decide_eq_false_iff_not, decide_eq_false_iff_not]
        omega
      rw [h1]
      rfl
  · rw [if_neg hf] at hr
    have e3 : (fr.2 != 0) = true := by rw [← hr]; simpa using hf
    rw [e3]
    rfl
theorem LSame_ok (u0 : List Filter) (u1 : Frame) (u2 u3 : Int) (k0 : (∀ y0 ∈ u0, okFilter y0) ∧ u0.length * 24 ≤ lim) (k1 : okFrame u1) (k2 : IntKind.i64.min ≤ u2 ∧ u2 ≤ IntKind.i64.max) (k3 : IntKind.i64.min ≤ u3 ∧ u3 ≤ IntKind.i64.max) : LSame_vc u0 u1 u2 u3 (fun r => r = true) := by
  intro _ _ _
  refine ⟨fun h => ?_, fun h _ => LS_part u1 u2 u3 k2 k3⟩
  intro _ _
  have h0 : fcheckS u0 = 0 := by
    refine Classical.byContradiction fun hn => ?_
    simp [fleastS, hn] at h
  have hm : (fleastS u0).1 = ikeep (fdrop u0) 0 u0 := by simp [fleastS, h0]
  rw [hm]
  have hm0 := least_check u0 h0
  have hFR : ∀ f ∈ u0, FR f := fcheckS_ok u0 h0
  have hFRm : ∀ f ∈ ikeep (fdrop u0) 0 u0, FR f := fcheckS_ok _ hm0
  refine ⟨fun h1 => ?_, fun _ => ⟨fun h1 => ?_, fun _ _ => LS_part u1 u2 u3 k2 k3⟩⟩
  · exfalso
    rw [finS_of _ h0, finS_of _ hm0] at h1
    by_cases hf : fcheckfr u1 = 0
    · rw [if_pos hf, if_pos hf] at h1
      have h29 := fcheckfr_id29 u1 hf
      simp only [bne_self_eq_false, Bool.false_or, fidx_count, countP_pos_any] at h1
      have e1 : (u0.any fun x => lets1 x u1) = u0.any fun f => (f.Long == u1.Long) && fmatch f u1.ID.toNat := any_same _ _ _ fun x hx => lets1_eq x u1 (hFR x hx) h29
      have e2 : ((ikeep (fdrop u0) 0 u0).any fun x => lets1 x u1) = (ikeep (fdrop u0) 0 u0).any fun f => (f.Long == u1.Long) && fmatch f u1.ID.toNat := any_same _ _ _ fun x hx => lets1_eq x u1 (hFRm x hx) h29
      rw [e1, e2, ← least_any u0 h0] at h1
      simp at h1
    · rw [if_neg hf, if_neg hf] at h1
      simp at h1
  · exfalso
    rw [fCountS_of u0 h0 true, fCountS_of _ hm0 true] at h1
    have : (List.range ((ftop true).toNat + 1)).countP (fun id => u0.any fun f => (f.Long == true) && fmatch f id) = (List.range ((ftop true).toNat + 1)).countP (fun id => (ikeep (fdrop u0) 0 u0).any fun f => (f.Long == true) && fmatch f id) :=
      countP_same _ _ _ fun id _ => least_any u0 h0 true id
    rw [this] at h1
    simp at h1
def fgrowS (_n : Int) : List Filter := []
theorem fgrow_ok (u1 : Int) (h : 0 ≤ u1 ∧ u1 ≤ 4000000) : fgrow_vc u1 (fun r => r = fgrowS u1) := by
  have e : w64 (u1 - 0) = u1 := by rw [w64_eq _ (by omega)]; omega
  refine ⟨fun h1 => by simp at h1; omega, fun _ => ?_⟩
  rw [e]
  refine ⟨fun h2 => ⟨by omega, ⟨by omega, by omega⟩, rfl⟩, fun _ => rfl⟩

end Go.Proofs.Ytkogkombalcgeaa
