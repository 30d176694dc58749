/- Pure proofs: no program in sight. -/
import Derived.Test.YtkogkombalcgeaaVE
set_option linter.unusedVariables false
set_option linter.unusedSimpArgs false
namespace Go.Proofs.Ytkogkombalcgeaa
open Go.Sy Go.RowKit
theorem fcheckfr_eq (f : Frame) : rcheckfr f = fcheckfr f := by
  have hs : rsizes = fsizes := rfl
  unfold rcheckfr fcheckfr
  rw [hs]
  generalize scontainsS fsizes (f.Data.length : Int) = c
  obtain ⟨I, L, Fa, R, S, D⟩ := f
  dsimp only
  generalize D.length = n
  cases L <;> cases Fa <;> cases R <;> cases c <;>
    simp only [cond_eq_ite, Bool.or_eq_true, Bool.and_eq_true, decide_eq_true_eq, Bool.not_true, Bool.not_false, Bool.true_and, Bool.false_and, Bool.and_true, Bool.and_false, Bool.or_false, Bool.false_or, Bool.true_or, Bool.or_true, bne_iff_ne, ne_eq, Bool.false_eq_true, if_false, if_true, false_or, or_false] <;>
    (repeat' split) <;> omega
theorem fcheckfr_id (f : Frame) (h : fcheckfr f = 0) : 0 ≤ f.ID ∧ f.ID ≤ ftop f.Long := by
  unfold fcheckfr at h
  cases hb : (((decide (f.ID < 0)) || ((!f.Long) && (decide (f.ID > 2047)))) || (decide (f.ID > 536870911))) with
  | true => rw [hb] at h; simp at h
  | false =>
    simp only [Bool.or_eq_false_iff, decide_eq_false_iff_not, Bool.and_eq_false_iff] at hb
    unfold ftop
    cases hL : f.Long with
    | true => simp only [cond_true]; omega
    | false =>
      rw [hL] at hb
      simp only [Bool.not_false, cond_false] at hb ⊢
      have := hb.1.2
      simp at this
      omega
theorem xor_and_zero (a b m : Nat) : (a ^^^ b) &&& m = 0 ↔ b &&& m = a &&& m := by
  constructor
  · intro h
    apply Nat.eq_of_testBit_eq
    intro i
    have := congrArg (fun x => x.testBit i) h
    simp only [Nat.testBit_and, Nat.testBit_xor, Nat.zero_testBit] at this ⊢
    cases h1 : a.testBit i <;> cases h2 : b.testBit i <;> cases h3 : m.testBit i <;> simp [h1, h2, h3] at this ⊢
  · intro h
    apply Nat.eq_of_testBit_eq
    intro i
    have := congrArg (fun x => x.testBit i) h
    simp only [Nat.testBit_and, Nat.testBit_xor, Nat.zero_testBit] at this ⊢
    cases h1 : a.testBit i <;> cases h2 : b.testBit i <;> cases h3 : m.testBit i <;> simp [h1, h2, h3] at this ⊢
/-- A right filter. -/
def FR (f : Filter) : Prop := 0 ≤ f.Want ∧ f.Want ≤ ftop f.Long ∧ 0 ≤ f.Mask ∧ f.Mask ≤ ftop f.Long
theorem lets1_eq (x : Filter) (f : Frame) (hx : FR x) (hf : 0 ≤ f.ID ∧ f.ID ≤ 536870911) : lets1 x f = ((x.Long == f.Long) && fmatch x f.ID.toNat) := by
  obtain ⟨h1, h2, h3, h4⟩ := hx
  have := ftop_le x.Long
  unfold lets1 fmatch
  have hx := xor_lt63 f.ID.toNat x.Want.toNat (by omega) (by omega)
  rw [bXor_int _ _ (by omega) (by omega), bAnd_int _ _ (by omega) (by omega), Int.toNat_natCast]
  congr 1
  rw [Bool.eq_iff_iff]
  simp only [beq_iff_eq]
  omega
theorem letsin_eq (x : Filter) (f : Frame) (hx : FR x) (hf : 0 ≤ f.ID ∧ f.ID ≤ 536870911) : letsin x f = ((x.Long == f.Long) && fmatch x f.ID.toNat) := by
  obtain ⟨h1, h2, h3, h4⟩ := hx
  have := ftop_le x.Long
  unfold letsin fmatch
  rw [bAnd_int _ _ (by omega) (by omega), bAnd_int _ _ (by omega) (by omega)]
  congr 1
  rw [Bool.eq_iff_iff]
  simp only [beq_iff_eq]
  rw [xor_and_zero]
  omega
theorem fcheckfr_id29 (f : Frame) (h : fcheckfr f = 0) : 0 ≤ f.ID ∧ f.ID ≤ 536870911 := by
  have := fcheckfr_id f h
  have := ftop_le f.Long
  omega
theorem LIn_ok (u0 : List Filter) (u1 : Frame) (k0 : (∀ y0 ∈ u0, okFilter y0) ∧ u0.length * 24 ≤ lim) (k1 : okFrame u1) : LIn_vc u0 u1 (fun r => r = true) := by
  intro _ _ _
  refine ⟨fun h => by simp at h, fun _ => ⟨fun h => ?_, fun h => ?_⟩⟩
  · have h0 : fcheckS u0 = 0 := by simpa using h
    rw [fcheckfr_eq]
    refine ⟨fun h1 => ?_, fun h1 => ?_⟩
    · have : fcheckfr u1 ≠ 0 := by simpa using h1
      simp [finS, h0, this]
    · have h2 : fcheckfr u1 = 0 := by simpa using h1
      have hlen := fcheckS_len u0 h0
      refine rg1b (by omega) (fun k (x : List Int) => x = fidx (fun x => letsin x u1) 0 (u0.take k)) (by simp [fidx]) ?_ ?_
      · rintro k _ q hk hq rfl inv mu hn
        have htl : (u0.take k).length = k := by rw [List.length_take]; omega
        have hfl := fidx_len (fun x => letsin x u1) (u0.take k) 0
        refine ⟨fun h3 => ⟨by omega, hn _ ?_⟩, fun h3 => hn _ ?_⟩
        · rw [take_next u0 k q hq, fidx_end, if_pos h3, htl, Nat.zero_add]
        · rw [take_next u0 k q hq, fidx_end, if_neg (by rw [h3]; decide), List.append_nil]
      · rintro _ rfl
        rw [List.take_length]
        have e : fidx (fun x => lets1 x u1) 0 u0 = fidx (fun x => letsin x u1) 0 u0 := fidx_same _ _ _ _ fun x hx => by
          have hr : FR x := fcheckS_ok u0 h0 x hx
          rw [lets1_eq x u1 hr (fcheckfr_id29 u1 h2), letsin_eq x u1 hr (fcheckfr_id29 u1 h2)]
        simp [finS, h0, h2, e, sequalS]
  · have h0 : fcheckS u0 ≠ 0 := by simpa using h
    refine ⟨fun _ => by simp [finS, h0], fun h1 => ?_⟩
    exact absurd (by simpa using h1) h0
theorem within_eq (a b : Filter) (ha : FR a) (hb : FR b) : fwithin a b = inall a b := by
  obtain ⟨a1, a2, a3, a4⟩ := ha
  obtain ⟨b1, b2, b3, b4⟩ := hb
  have := ftop_le a.Long
  have := ftop_le b.Long
  unfold fwithin inall
  have hx := xor_lt63 a.Want.toNat b.Want.toNat (by omega) (by omega)
  rw [bAndNot_int _ _ (by omega) (by omega), bXor_int _ _ (by omega) (by omega), bAnd_int _ b.Mask (by omega) (by omega), bAnd_int a.Mask b.Mask (by omega) (by omega), bAnd_int a.Want b.Mask (by omega) (by omega), bAnd_int b.Want b.Mask (by omega) (by omega), Int.toNat_natCast]
  have e1 : (((but b.Mask.toNat a.Mask.toNat : Nat) : Int) == 0) = (((a.Mask.toNat &&& b.Mask.toNat : Nat) : Int) == b.Mask) := by
    rw [Bool.eq_iff_iff]
    simp only [beq_iff_eq]
    have : but b.Mask.toNat a.Mask.toNat = 0 ↔ a.Mask.toNat &&& b.Mask.toNat = b.Mask.toNat := by
      constructor
      · intro h
        apply Nat.eq_of_testBit_eq
        intro i
        have := congrArg (fun x => x.testBit i) h
        simp only [testBit_but, Nat.testBit_and, Nat.zero_testBit] at this ⊢
        cases h1 : a.Mask.toNat.testBit i <;> cases h2 : b.Mask.toNat.testBit i <;> simp [h1, h2] at this ⊢
      · intro h
        apply Nat.eq_of_testBit_eq
        intro i
        have := congrArg (fun x => x.testBit i) h
        simp only [testBit_but, Nat.testBit_and, Nat.zero_testBit] at this ⊢
        cases h1 : a.Mask.toNat.testBit i <;> cases h2 : b.Mask.toNat.testBit i <;> simp [h1, h2] at this ⊢
    omega
  have e2 : ((((a.Want.toNat ^^^ b.Want.toNat) &&& b.Mask.toNat : Nat) : Int) == 0) = (((a.Want.toNat &&& b.Mask.toNat : Nat) : Int) == ((b.Want.toNat &&& b.Mask.toNat : Nat) : Int)) := by
    rw [Bool.eq_iff_iff]
    simp only [beq_iff_eq]
    have := xor_and_zero a.Want.toNat b.Want.toNat b.Mask.toNat
    omega
  rw [e1, e2]
theorem ikeep_same (d e : Nat → Filter → Bool) : ∀ (l : List Filter) (i : Nat), (∀ j x, l[j]? = some x → d (i + j) x = e (i + j) x) → ikeep d i l = ikeep e i l
  | [], _, _ => rfl
  | x :: l, i, h => by
    unfold ikeep
    have h0 := h 0 x rfl
    rw [Nat.add_zero] at h0
    rw [h0, ikeep_same d e l (i + 1) (fun j y hy => by have := h (j + 1) y hy; rwa [show i + (j + 1) = i + 1 + j by omega] at this)]
theorem iany_same (p q : Nat → Filter → Bool) : ∀ (l : List Filter) (i : Nat), (∀ j x, l[j]? = some x → p (i + j) x = q (i + j) x) → iany p i l = iany q i l
  | [], _, _ => rfl
  | x :: l, i, h => by
    unfold iany
    have h0 := h 0 x rfl
    rw [Nat.add_zero] at h0
    rw [h0, iany_same p q l (i + 1) (fun j y hy => by have := h (j + 1) y hy; rwa [show i + (j + 1) = i + 1 + j by omega] at this)]
/-- The document's: does it go? -/
def rdrop (l : List Filter) (i : Nat) (a : Filter) : Bool := iany (fun k b => (decide (k ≠ i) && inall a b) && (decide (k < i) || !inall b a)) 0 l
theorem drop_eq (l : List Filter) (h : fcheckS l = 0) (i : Nat) (a : Filter) (ha : l[i]? = some a) : fdrop l i a = rdrop l i a := by
  unfold fdrop rdrop
  refine iany_same _ _ l 0 fun j b hb => ?_
  have h1 : FR a := fcheckS_ok l h a (List.mem_of_getElem? ha)
  have h2 : FR b := fcheckS_ok l h b (List.mem_of_getElem? hb)
  rw [within_eq a b h1 h2, within_eq b a h2 h1]
theorem LLeast_ok (u0 : List Filter) (k0 : (∀ y0 ∈ u0, okFilter y0) ∧ u0.length * 24 ≤ lim) : LLeast_vc u0 (fun r => r = true) := by
  intro _ _
  refine ⟨fun h => ?_, fun h => ?_⟩
  · have : fcheckS u0 ≠ 0 := by simpa using h
    simp [fleastS, this]
  · have h0 : fcheckS u0 = 0 := by simpa using h
    have hlen := fcheckS_len u0 h0
    refine rg1b (by omega) (fun k (x : List Filter) => x = ikeep (rdrop u0) 0 (u0.take k)) (by simp [ikeep]) ?_ ?_
    · rintro k _ a hk ha rfl inv mu hn
      have htl : (u0.take k).length = k := by rw [List.length_take]; omega
      refine rg1b (by omega) (fun t (x : Bool) => x = !iany (fun t b => (decide (t ≠ k) && inall a b) && (decide (t < k) || !inall b a)) 0 (u0.take t)) (by simp [iany]) ?_ ?_
      · rintro t _ b ht hb rfl inv2 mu2 hn2
        have htt : (u0.take t).length = t := by rw [List.length_take]; omega
        have e1 : ((k : Int) == (t : Int)) = !decide (t ≠ k) := by rw [Bool.eq_iff_iff]; simp; omega
        have e2 : decide ((t : Int) < (k : Int)) = decide (t < k) := by rw [Bool.eq_iff_iff]; simp
        rw [e1, e2]
        refine ⟨fun h2 => hn2 _ ?_, fun h2 => ⟨fun h3 => hn2 _ ?_, fun h3 => hn2 _ ?_⟩⟩
        · rw [take_next u0 t b hb, iany_end, htt, Nat.zero_add]
          have : (decide (t ≠ k) && inall a b) = false := by
            cases hd : decide (t ≠ k) <;> cases hi : inall a b <;> simp [hd, hi] at h2 ⊢
          rw [this, Bool.false_and, Bool.or_false]
        · rw [take_next u0 t b hb, iany_end, htt, Nat.zero_add]
          have h4 : (decide (t ≠ k) && inall a b) = true := by
            cases hd : decide (t ≠ k) <;> cases hi : inall a b <;> simp [hd, hi] at h2 ⊢
          have h5 : (decide (t < k) || !inall b a) = true := by rw [Bool.or_comm]; exact h3
          rw [h4, h5, Bool.true_and, Bool.or_true]
          rfl
        · rw [take_next u0 t b hb, iany_end, htt, Nat.zero_add]
          have h5 : (decide (t < k) || !inall b a) = false := by rw [Bool.or_comm]; exact h3
          rw [h5, Bool.and_false, Bool.or_false]
      · rintro _ rfl
        rw [List.take_length]
        have hfl := ikeep_len (rdrop u0) (u0.take k) 0
        refine ⟨fun h2 => ⟨by omega, hn _ ?_⟩, fun h2 => hn _ ?_⟩
        · rw [take_next u0 k a ha, ikeep_end, htl, Nat.zero_add]
          have : rdrop u0 k a = false := by unfold rdrop; simpa using h2
          rw [this]
          rfl
        · rw [take_next u0 k a ha, ikeep_end, htl, Nat.zero_add]
          have : rdrop u0 k a = true := by unfold rdrop; simpa using h2
          rw [this]
          simp
    · rintro _ rfl
      rw [List.take_length]
      have e : ikeep (fdrop u0) 0 u0 = ikeep (rdrop u0) 0 u0 := ikeep_same _ _ _ _ fun j x hx => by rw [Nat.zero_add]; exact drop_eq u0 h0 j x hx
      simp [fleastS, h0, e, feqS]
/-- One of the two ways of LRanges. -/
theorem LR_side (low high : Int) (long : Bool) (top : Int) (ht : ftop long = top) (a b : Nat) (ha : low = a) (hb : high = b) (hh : (b : Int) ≤ top) (hab : a ≤ b) :
    ∃ inv : Int → List Filter → Prop, ∃ mu : Int → List Filter → Nat, inv low ([] : List Filter) ∧ ∀ (x0 : Int) (x10 : List Filter), inv x0 x10 →
      ((decide (x0 ≤ high) = true → ∃ inv2 : Int → Prop, ∃ mu2 : Int → Nat, inv2 1 ∧ ∀ x11 : Int, inv2 x11 → (w64 (2 * x11) ≠ 0) ∧
        ((((x0.tmod (w64 (2 * x11))) == 0) && (decide ((w64 ((w64 (x0 + (w64 (2 * x11)))) - 1)) ≤ high))) = true → inv2 (w64 (x11 * 2)) ∧ mu2 (w64 (x11 * 2)) < mu2 x11) ∧
        ((((x0.tmod (w64 (2 * x11))) == 0) && (decide ((w64 ((w64 (x0 + (w64 (2 * x11)))) - 1)) ≤ high))) = false →
          (x10.length + 1) * 24 ≤ 140737488355328 ∧ inv (w64 (x0 + x11)) (x10 ++ [⟨x0, w64 (top - (w64 (x11 - 1))), long⟩]) ∧ mu (w64 (x0 + x11)) (x10 ++ [⟨x0, w64 (top - (w64 (x11 - 1))), long⟩]) < mu x0 x10)) ∧
      (decide (x0 ≤ high) = false → x10 = (rangesS low high long).1)) := by
  subst ha hb
  have hn : ¬ ((a : Int) < 0 ∨ ftop long < (b : Int) ∨ (b : Int) < a) := by omega
  have hS : rangesS a b long = (rgo ((b : Int) - a + 1).toNat a b long, 0) := by
    unfold rangesS
    rw [if_neg hn, Int.toNat_natCast, Int.toNat_natCast]
  rw [hS]
  obtain ⟨K, hK29, hK⟩ := ftop_pow long
  have htop := ftop_le long
  have h2K : 2 ^ K ≤ 2 ^ 29 := Nat.pow_le_pow_right (by omega) hK29
  refine ⟨fun x y => ∃ c n : Nat, x = c ∧ c ≤ b + 1 ∧ b + 1 ≤ c + n ∧ y.length ≤ c ∧ y ++ rgo n c b long = rgo ((b : Int) - a + 1).toNat a b long, fun x y => b + 1 - x.toNat, ⟨a, ((b : Int) - a + 1).toNat, rfl, by omega, by omega, Nat.zero_le _, rfl⟩, ?_⟩
  rintro _ y ⟨c, n, rfl, hc, hcn, hyl, he⟩
  refine ⟨fun h1 => ?_, fun h1 => ?_⟩
  · have hcb : c ≤ b := by simpa using h1
    refine ⟨fun s => ∃ j : Nat, s = ((2 ^ j : Nat) : Int) ∧ j ≤ K ∧ rgrow (30 - j) c b (2 ^ j) = rgrow 30 c b 1 ∧ c + 2 ^ j ≤ b + 1, fun s => 2 * b + 2 - s.toNat, ⟨0, rfl, by omega, rfl, by omega⟩, ?_⟩
    rintro _ ⟨j, rfl, hj, hg, hcj⟩
    have hpj : 2 ^ j ≤ 2 ^ K := Nat.pow_le_pow_right (by omega) hj
    have hp0 := Nat.two_pow_pos j
    have e2 : w64 (2 * ((2 ^ j : Nat) : Int)) = ((2 ^ (j + 1) : Nat) : Int) := by rw [w64_eq _ (by omega), Nat.pow_succ]; omega
    have hps : 2 ^ (j + 1) = 2 * 2 ^ j := by rw [Nat.pow_succ, Nat.mul_comm]
    have e4 : w64 ((c : Int) + ((2 ^ (j + 1) : Nat) : Int)) = ((c + 2 ^ (j + 1) : Nat) : Int) := by rw [w64_eq _ (by omega)]; omega
    have e5 : w64 (((c + 2 ^ (j + 1) : Nat) : Int) - 1) = ((c + 2 ^ (j + 1) : Nat) : Int) - 1 := w64_eq _ (by omega)
    have e7 : w64 (((2 ^ j : Nat) : Int) * 2) = ((2 ^ (j + 1) : Nat) : Int) := by rw [w64_eq _ (by omega), Nat.pow_succ]; omega
    have e10 : (c : Int).tmod ((2 ^ (j + 1) : Nat) : Int) = ((c % 2 ^ (j + 1) : Nat) : Int) := rfl
    rw [e2, e4, e5, e7, e10]
    have hfuel : 30 - j = (29 - j) + 1 := by omega
    refine ⟨by omega, fun h2 => ?_, fun h2 => ?_⟩
    · simp only [Bool.and_eq_true, decide_eq_true_eq, beq_iff_eq] at h2
      have hj1 : j + 1 ≤ K := by
        refine Classical.byContradiction fun hx => ?_
        have : j = K := by omega
        subst this
        omega
      refine ⟨⟨j + 1, rfl, hj1, ?_, by omega⟩, ?_⟩
      · have hz : c % (2 * 2 ^ j) = 0 := by
          rw [← hps]
          exact Int.ofNat.inj h2.1
        rw [← hg, hfuel, rgrow, if_pos ⟨hz, by omega⟩, hps, show 30 - (j + 1) = 29 - j by omega]
      · show 2 * b + 2 - ((2 ^ (j + 1) : Nat) : Int).toNat < 2 * b + 2 - ((2 ^ j : Nat) : Int).toNat
        omega
    · have hstop : rgrow 30 c b 1 = 2 ^ j := by
        rw [← hg, hfuel, rgrow, if_neg ?_]
        rintro ⟨h3, h4⟩
        have hz : ((c % 2 ^ (j + 1) : Nat) : Int) = 0 := by rw [hps, h3]; rfl
        simp only [Bool.and_eq_false_iff, decide_eq_false_iff_not, beq_eq_false_iff_ne] at h2
        omega
      have e8 : w64 (((2 ^ j : Nat) : Int) - 1) = ((2 ^ j : Nat) : Int) - 1 := w64_eq _ (by omega)
      have e9 : w64 ((c : Int) + ((2 ^ j : Nat) : Int)) = ((c + 2 ^ j : Nat) : Int) := by rw [w64_eq _ (by omega)]; omega
      have e11 : w64 (top - (((2 ^ j : Nat) : Int) - 1)) = top - (((2 ^ j : Nat) : Int) - 1) := w64_eq _ (by omega)
      rw [e8, e9, e11]
      obtain ⟨m, rfl⟩ : ∃ m, n = m + 1 := ⟨n - 1, by omega⟩
      refine ⟨by omega, ⟨c + 2 ^ j, m, rfl, hcj, by omega, by simp; omega, ?_⟩, ?_⟩
      · rw [← he, rgo, if_pos hcb, hstop, List.append_assoc, ht]
        rfl
      · show b + 1 - ((c + 2 ^ j : Nat) : Int).toNat < b + 1 - ((c : Nat) : Int).toNat
        omega
  · have hcb : c = b + 1 := by simp at h1; omega
    subst hcb
    have : rgo n (b + 1) b long = [] := by
      cases n with
      | zero => rfl
      | succ n => rw [rgo, if_neg (by omega)]
    rw [this, List.append_nil] at he
    exact he
theorem LR_fin (low high : Int) (long : Bool) (hn : ¬ (low < 0 ∨ ftop long < high ∨ high < low)) (x : List Filter) (h : x = (rangesS low high long).1) : (((rangesS low high long).2) == 0 && (feqS ((rangesS low high long).1) x)) = true := by
  have : (rangesS low high long).2 = 0 := by unfold rangesS; rw [if_neg hn]
  rw [this, h]
  simp [feqS]
theorem LRanges_ok (u0 : Int) (u1 : Int) (u2 : Bool) (k0 : IntKind.i64.min ≤ u0 ∧ u0 ≤ IntKind.i64.max) (k1 : IntKind.i64.min ≤ u1 ∧ u1 ≤ IntKind.i64.max) (k2 : True) : LRanges_vc u0 u1 u2 (fun r => r = true) := by
  intro _
  refine ⟨fun hL => ?_, fun hL => ?_⟩
  · have ht : ftop u2 = 536870911 := by rw [hL]; rfl
    refine ⟨fun h => ?_, fun h => ?_⟩
    · have hf : u0 < 0 ∨ ftop u2 < u1 ∨ u1 < u0 := by
        simp only [Bool.or_eq_true, decide_eq_true_eq] at h
        omega
      simp only [rangesS]
      rw [if_pos hf]
      rfl
    · have hn : ¬ (u0 < 0 ∨ ftop u2 < u1 ∨ u1 < u0) := by
        simp only [Bool.or_eq_false_iff, decide_eq_false_iff_not] at h
        omega
      obtain ⟨inv, mu, h0, hs⟩ := LR_side u0 u1 u2 536870911 ht u0.toNat u1.toNat (by omega) (by omega) (by omega) (by omega)
      refine ⟨inv, mu, h0, fun x y hxy => ?_⟩
      obtain ⟨h1, h2⟩ := hs x y hxy
      exact ⟨h1, fun h3 => LR_fin u0 u1 u2 hn y (h2 h3)⟩
  · have ht : ftop u2 = 2047 := by rw [hL]; rfl
    refine ⟨fun h => ?_, fun h => ?_⟩
    · have hf : u0 < 0 ∨ ftop u2 < u1 ∨ u1 < u0 := by
        simp only [Bool.or_eq_true, decide_eq_true_eq] at h
        omega
      simp only [rangesS]
      rw [if_pos hf]
      rfl
    · have hn : ¬ (u0 < 0 ∨ ftop u2 < u1 ∨ u1 < u0) := by
        simp only [Bool.or_eq_false_iff, decide_eq_false_iff_not] at h
        omega
      obtain ⟨inv, mu, h0, hs⟩ := LR_side u0 u1 u2 2047 ht u0.toNat u1.toNat (by omega) (by omega) (by omega) (by omega)
      refine ⟨inv, mu, h0, fun x y hxy => ?_⟩
      obtain ⟨h1, h2⟩ := hs x y hxy
      exact ⟨h1, fun h3 => LR_fin u0 u1 u2 hn y (h2 h3)⟩

end Go.Proofs.Ytkogkombalcgeaa
