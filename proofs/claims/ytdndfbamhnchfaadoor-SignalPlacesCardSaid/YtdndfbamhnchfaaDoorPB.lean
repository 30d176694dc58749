/- What must hold so that each function ends well: pure predicates, made by program. -/
import Derived.Test.YtdndfbamhnchfaaDoorPA
set_option linter.unusedVariables false
set_option linter.unusedSimpArgs false
namespace Go.Proofs.YtdndfbamhnchfaaDoor
open Go.Sy Go.RowKit
def scheck_vc (u0 : Signal) (u1 : Int) (K : Int → Prop) : Prop :=
  (((!(nameS u0.Name)) = true →
      (K 1)) ∧
    ((!(nameS u0.Name)) = false →
      ((((((decide (u1 < 0)) || (decide (u1 > 64))) || (decide (u0.Size < 1))) || (decide (u0.Size > 40))) = true →
        (K 3)) ∧
      (((((decide (u1 < 0)) || (decide (u1 > 64))) || (decide (u0.Size < 1))) || (decide (u0.Size > 40))) = false →
        (((((((((u0.Mul == 0) || (decide ((max u0.Mul (w64 (0 - u0.Mul))) > 1000000))) || (decide (u0.Mul < (-1000000)))) || (decide (u0.Div < 1))) || (decide (u0.Div > 1000000))) || (decide (u0.Add > 1000000))) || (decide (u0.Add < (-1000000)))) = true →
          (K 3)) ∧
        ((((((((u0.Mul == 0) || (decide ((max u0.Mul (w64 (0 - u0.Mul))) > 1000000))) || (decide (u0.Mul < (-1000000)))) || (decide (u0.Div < 1))) || (decide (u0.Div > 1000000))) || (decide (u0.Add > 1000000))) || (decide (u0.Add < (-1000000)))) = false →
          ((((decide (u0.Key < (-1))) || (decide (u0.Key > 255))) = true →
            (K 3)) ∧
          (((decide (u0.Key < (-1))) || (decide (u0.Key > 255))) = false →
            ((((decide (u0.Start < 0)) || (decide (u0.Start ≥ (w64 (8 * u1))))) = true →
              (K 7)) ∧
            (((decide (u0.Start < 0)) || (decide (u0.Start ≥ (w64 (8 * u1))))) = false →
              (((0 ≤ u0.Start ∧ u0.Start ≤ 512) ∧ 1 ≤ u0.Size ∧ u0.Size ≤ 40) ∧
              ((placesS u0).length ≤ 140737488355328 →
              ((0 < (placesS u0).length) ∧
              (((decide ((maxL (placesS u0)) ≥ (w64 (8 * u1)))) = true →
                (K 7)) ∧
              ((decide ((maxL (placesS u0)) ≥ (w64 (8 * u1)))) = false →
                ((0 < (placesS u0).length) ∧
                (((decide ((minL (placesS u0)) < 0)) = true →
                  (K 7)) ∧
                ((decide ((minL (placesS u0)) < 0)) = false →
                  (K 0)))))))))))))))))))

def sget_vc (u0 : Signal) (u1 : List Int) (K : Int → Prop) : Prop :=
  (u1.length ≤ 140737488355328 →
    (((0 ≤ u0.Start ∧ u0.Start ≤ 512) ∧ 1 ≤ u0.Size ∧ u0.Size ≤ 40) ∧
    ((placesS u0).length ≤ 140737488355328 →
    (∃ inv36 : Int → Int → Prop, ∃ mu36 : Int → Int → Nat, inv36 0 0 ∧
    (∀ (x5 : Int) (x11 : Int), inv36 x5 x11 →
    (((decide (x11 < ((placesS u0).length : Int))) = true →
      ((0 ≤ x11 ∧ x11 < ((placesS u0).length : Int)) ∧
      (∀ q67, (placesS u0)[x11.toNat]? = some q67 →
      ((0 ≤ w64 (q67.tdiv 8) ∧ w64 (q67.tdiv 8) < (u1.length : Int)) ∧
      (∀ q94, u1[(w64 (q67.tdiv 8)).toNat]? = some q94 →
      ((0 ≤ q67.tmod 8) ∧
      ((0 ≤ x11) ∧
      (inv36 (bOr .i64 x5 (bShl .i64 (w64 (bAnd .u8 (bShr .u8 q94 (q67.tmod 8)) 1)) x11)) (w64 (x11 + 1)) ∧ mu36 (bOr .i64 x5 (bShl .i64 (w64 (bAnd .u8 (bShr .u8 q94 (q67.tmod 8)) 1)) x11)) (w64 (x11 + 1)) < mu36 x5 x11)))))))) ∧
    ((decide (x11 < ((placesS u0).length : Int))) = false →
      ((u0.Signed = true →
        ((0 ≤ w64 (u0.Size - 1)) ∧
        ((((bShr .i64 x5 (w64 (u0.Size - 1))) == 1) = true →
          ((0 ≤ u0.Size) ∧
          (K (w64 (x5 - (bShl .i64 1 u0.Size)))))) ∧
        (((bShr .i64 x5 (w64 (u0.Size - 1))) == 1) = false →
          (K x5))))) ∧
      (u0.Signed = false →
        (K x5))))))))))

def sputd_vc (u0 : Signal) (u1 : List Int) (u2 : Int) (K : (List Int) → Prop) : Prop :=
  (u1.length ≤ 140737488355328 →
    (((0 ≤ u0.Start ∧ u0.Start ≤ 512) ∧ 1 ≤ u0.Size ∧ u0.Size ≤ 40) ∧
    ((placesS u0).length ≤ 140737488355328 →
    (∃ inv30 : Int → (List Int) → Prop, ∃ mu30 : Int → (List Int) → Nat, inv30 0 u1 ∧
    (∀ (x11 : Int) (zao1 : List Int), inv30 x11 zao1 →
    (((decide (x11 < ((placesS u0).length : Int))) = true →
      ((0 ≤ x11 ∧ x11 < ((placesS u0).length : Int)) ∧
      (∀ q61, (placesS u0)[x11.toNat]? = some q61 →
      ((0 ≤ w64 (q61.tdiv 8) ∧ w64 (q61.tdiv 8) < (zao1.length : Int)) ∧
      (∀ qd7_0, zao1[(w64 (q61.tdiv 8)).toNat]? = some qd7_0 →
      ((0 ≤ q61.tmod 8) ∧
      ((0 ≤ x11) ∧
      ((0 ≤ q61.tmod 8) ∧
      ((0 ≤ w64 (q61.tdiv 8) ∧ w64 (q61.tdiv 8) < (zao1.length : Int)) ∧
      (inv30 (w64 (x11 + 1)) (zao1.set (w64 (q61.tdiv 8)).toNat (bOr .u8 (bAndNot .u8 qd7_0 (bShl .u8 1 (q61.tmod 8))) (bShl .u8 (w8 (bAnd .i64 (bShr .i64 u2 x11) 1)) (q61.tmod 8)))) ∧ mu30 (w64 (x11 + 1)) (zao1.set (w64 (q61.tdiv 8)).toNat (bOr .u8 (bAndNot .u8 qd7_0 (bShl .u8 1 (q61.tmod 8))) (bShl .u8 (w8 (bAnd .i64 (bShr .i64 u2 x11) 1)) (q61.tmod 8)))) < mu30 x11 zao1)))))))))) ∧
    ((decide (x11 < ((placesS u0).length : Int))) = false →
      ((zao1.length = u1.length) ∧
      (K zao1)))))))))

/-! Pure proofs: no program in sight. -/
theorem shr_any (n : Int) (s : Nat) (hs : s ≤ 63) : bShr .i64 n (s : Int) = n / 2 ^ s := by
  unfold bShr
  have : min (s : Int).toNat IntKind.i64.bits = s := by simp [IntKind.bits]; omega
  rw [this, Int.fdiv_eq_ediv_of_nonneg _ (Int.le_of_lt (Int.pow_pos (by decide)))]
theorem and_one (m : Int) : bAnd .i64 m 1 = m % 2 := by
  unfold bAnd
  have e : (BitVec.ofInt IntKind.i64.bits m &&& BitVec.ofInt IntKind.i64.bits 1).toNat = (m % 2).toNat := by
    rw [BitVec.toNat_and]
    show (BitVec.ofInt 64 m).toNat &&& 1 = _
    rw [Nat.and_one_is_mod, BitVec.toNat_ofInt]
    omega
  rw [e]
  have := Int.emod_nonneg m (by decide : (2 : Int) ≠ 0)
  have := Int.emod_lt_of_pos m (by decide : (0 : Int) < 2)
  rw [Int.toNat_of_nonneg (by omega)]
  exact w64_eq _ (by omega)
theorem fact_eq (s : Signal) : (((((((s.Mul == 0) || (decide ((max s.Mul (w64 (0 - s.Mul))) > 1000000))) || (decide (s.Mul < (-1000000)))) || (decide (s.Div < 1))) || (decide (s.Div > 1000000))) || (decide (s.Add > 1000000))) || (decide (s.Add < (-1000000)))) = !decide (factS s) := by
  rw [Bool.eq_iff_iff]
  simp only [Bool.or_eq_true, beq_iff_eq, decide_eq_true_eq, Bool.not_eq_true', decide_eq_false_iff_not]
  unfold factS
  by_cases h : -1000000 ≤ s.Mul ∧ s.Mul ≤ 1000000
  · rw [w64_eq (0 - s.Mul) (by omega)]
    omega
  · constructor
    · intro _
      omega
    · intro _
      omega
theorem scheck_ok (s : Signal) (n : Int) : scheck_vc s n (fun r => r = checkS s n) := by
  unfold scheck_vc
  rw [fact_eq]
  unfold checkS
  refine ⟨fun h => ?_, fun h => ?_⟩
  · rw [if_pos (by simpa using h)]
  rw [if_neg (by simpa using h)]
  refine ⟨fun h1 => ?_, fun h1 => ?_⟩
  · rw [if_pos (by simpa [or_assoc] using h1)]
  have h1 : ¬ (n < 0 ∨ 64 < n ∨ s.Size < 1 ∨ 40 < s.Size) := by simp only [Bool.or_eq_false_iff, decide_eq_false_iff_not] at h1; omega
  rw [if_neg h1]
  refine ⟨fun h2 => ?_, fun h2 => ?_⟩
  · rw [if_pos (by simpa using h2)]
  have h2 : factS s := by simpa using h2
  rw [if_neg (fun hh => hh h2)]
  refine ⟨fun h3 => ?_, fun h3 => ?_⟩
  · rw [if_pos (by simpa using h3)]
  rw [if_neg (by simp only [Bool.or_eq_false_iff, decide_eq_false_iff_not] at h3; omega), w64_eq _ (by omega)]
  refine ⟨fun h4 => ?_, fun h4 => ?_⟩
  · rw [if_pos (by simpa using h4)]
  have h4 : ¬ (s.Start < 0 ∨ 8 * n ≤ s.Start) := by simp only [Bool.or_eq_false_iff, decide_eq_false_iff_not] at h4; omega
  have hl : 0 < (placesS s).length := by rw [places_len]; omega
  have hm := places_max s (by rw [plS_len]; omega) (8 * n)
  rw [if_neg h4]
  refine ⟨by omega, fun _ => ⟨hl, fun h5 => ?_, fun h5 => ⟨hl, fun h6 => ?_, fun _ => ?_⟩⟩⟩
  · have h5 : decide (8 * n ≤ maxL (placesS s)) = true := h5
    rw [hm] at h5
    rw [if_pos h5]
  · have := of_decide_eq_true h6
    have := places_min s
    omega
  · have h5 : decide (8 * n ≤ maxL (placesS s)) = false := h5
    rw [hm] at h5
    rw [if_neg (by rw [h5]; decide)]
/-- A signal whose bits all lie in the data. -/
def inD (s : Signal) (d : List Int) : Prop := ((0 ≤ s.Start ∧ s.Start ≤ 512) ∧ 1 ≤ s.Size ∧ s.Size ≤ 40) ∧ isBytes d ∧ ∀ p ∈ plS s, p < 8 * d.length
theorem place_at {s : Signal} {k : Nat} {q : Int} (h : (placesS s)[k]? = some q) : ∃ p : Nat, (plS s)[k]? = some p ∧ q = p ∧ p ∈ plS s := by
  unfold placesS at h
  rw [List.getElem?_map, Option.map_eq_some_iff] at h
  obtain ⟨p, hp, rfl⟩ := h
  exact ⟨p, hp, rfl, List.mem_of_getElem? hp⟩
theorem div8 (p : Nat) (h : p < 1000000) : w64 ((p : Int).tdiv 8) = ((p / 8 : Nat) : Int) ∧ (p : Int).tmod 8 = ((p % 8 : Nat) : Int) := by
  rw [Int.tdiv_eq_ediv_of_nonneg (by omega), Int.tmod_eq_emod_of_nonneg (by omega), w64_eq _ (by omega)]
  omega
theorem got_bit {d : List Int} (h : isBytes d) {p : Nat} {q : Int} (hq : d[p / 8]? = some q) : bAnd .u8 (bShr .u8 q ((p % 8 : Nat) : Int)) 1 = bv (bitat d p) := by
  obtain ⟨n, hn, hb⟩ := byte_at h (p / 8)
  rw [hq] at hn
  have hn : q = (n : Int) := hn
  have := gb_all ⟨n, hb⟩ ⟨p % 8, by omega⟩
  dsimp only at this
  rw [hn, this]
  unfold bv bitat
  rw [hq, Option.getD_some, hn, Int.toNat_natCast]
theorem or_bit (v k : Nat) (b : Bool) (hv : v < 2 ^ k) (hk : k ≤ 40) : bOr .i64 (v : Int) (bShl .i64 (w64 (bv b)) (k : Int)) = ((v + 2 ^ k * vb [b] : Nat) : Int) := by
  have hp : 2 ^ k ≤ 1099511627776 := Nat.pow_le_pow_right (by omega : 0 < 2) hk
  have h0 : 1 ≤ 2 ^ k := Nat.one_le_two_pow
  cases b with
  | false =>
    have e : bShl .i64 (w64 (bv false)) (k : Int) = ((0 : Nat) : Int) := by
      unfold bShl bv
      rw [if_neg (by decide)]
      have : w64 0 * 2 ^ min (k : Int).toNat IntKind.i64.bits = 0 := by rw [w64_eq _ (by omega), Int.zero_mul]
      rw [this]; rfl
    rw [e, bOr_nat _ _ (by omega) (by omega), Nat.or_zero]
    simp [vb]
  | true =>
    have e : w64 (bv true) = 1 := by unfold bv; rw [if_pos rfl]; exact w64_eq _ (by omega)
    rw [e, shl_one k (by omega), bOr_nat _ _ (by omega) (by omega)]
    have := Nat.two_pow_add_eq_or_of_lt (i := k) (b := v) hv 1
    rw [Nat.mul_one] at this
    rw [Nat.or_comm, ← this]
    simp [vb]
    omega
theorem sget_ok (s : Signal) (d : List Int) (h : inD s d) : sget_vc s d (fun r => r = getS s d) := by
  obtain ⟨⟨h1, h2, h3⟩, hd, hp⟩ := h
  have hl := places_len s
  have hpl := plS_len s
  intro _
  refine ⟨⟨h1, h2, h3⟩, fun _ => ⟨fun x i => ∃ k : Nat, i = k ∧ k ≤ s.Size.toNat ∧ x = ((vb (((plS s).take k).map (bitat d)) : Nat) : Int), fun _ i => s.Size.toNat - i.toNat, ⟨0, rfl, by omega, rfl⟩, ?_⟩⟩
  rintro _ _ ⟨k, rfl, hk, rfl⟩
  have hv := vb_lt (((plS s).take k).map (bitat d))
  rw [List.length_map, List.length_take, hpl, Nat.min_eq_left hk] at hv
  refine ⟨fun hc => ?_, fun hc => ?_⟩
  · have hc := of_decide_eq_true hc
    refine ⟨by omega, fun q hq => ?_⟩
    rw [Int.toNat_natCast] at hq
    obtain ⟨p, hp1, rfl, hp2⟩ := place_at hq
    have hlt := hp p hp2
    have hfp : p < 1000000 := by
      have : p < 8 * d.length := hlt
      unfold plS plN at hp2
      have hb : ∀ j, j ∈ (List.range s.Size.toNat).map (fp s.Back s.Start.toNat) → j < 1000000 := by
        intro j hj
        obtain ⟨i, hi, rfl⟩ := List.mem_map.1 hj
        have := List.mem_range.1 hi
        have := fp_le s.Back s.Start.toNat i
        omega
      split at hp2
      · exact hb p (List.mem_reverse.1 hp2)
      · exact hb p hp2
    obtain ⟨d1, d2⟩ := div8 p hfp
    rw [d1, d2, Int.toNat_natCast]
    refine ⟨by omega, fun q hq2 => ?_⟩
    rw [got_bit hd hq2, or_bit _ _ _ hv (by omega), w64_succ k (by omega)]
    refine ⟨by omega, by omega, ⟨k + 1, rfl, by omega, ?_⟩, by (try dsimp only); omega⟩
    rw [List.take_add_one, hp1, List.map_append, vb_append, List.length_map, List.length_take, hpl, Nat.min_eq_left hk]
    rfl
  · have hc := of_decide_eq_false hc
    have hkk : k = s.Size.toNat := by omega
    subst hkk
    have e : ((plS s).take s.Size.toNat) = plS s := by rw [← hpl, List.take_length]
    rw [e] at hv ⊢
    have hg : getS s d = sgn s.Signed s.Size.toNat ((vb ((plS s).map (bitat d)) : Nat) : Int) := rfl
    rw [hg]
    generalize vb ((plS s).map (bitat d)) = v at *
    obtain ⟨m, hm⟩ : ∃ m, s.Size.toNat = m + 1 := ⟨s.Size.toNat - 1, by omega⟩
    have e1 : w64 (s.Size - 1) = (m : Int) := by rw [w64_eq _ (by omega)]; omega
    have hb : 1 ≤ 2 ^ m ∧ 2 ^ m ≤ 549755813888 := ⟨Nat.one_le_two_pow, Nat.pow_le_pow_right (by omega : 0 < 2) (by omega : m ≤ 39)⟩
    rw [hm, Nat.pow_succ] at hv
    have c : ((2 ^ m : Nat) : Int) = (2 : Int) ^ m := by norm_cast
    refine ⟨fun hS => ⟨by omega, ?_⟩, fun hS => ?_⟩
    · rw [e1, shr_any _ _ (by omega), ← c]
      have hq : (((v : Int) / ((2 ^ m : Nat) : Int)) == 1) = decide (2 ^ m ≤ v) := by
        rw [Bool.eq_iff_iff, beq_iff_eq, decide_eq_true_eq, ← Int.natCast_ediv]
        have hdm := Nat.div_add_mod v (2 ^ m)
        have hml := Nat.mod_lt v (show 2 ^ m > 0 by omega)
        constructor
        · intro h5
          have h5 : v / 2 ^ m = 1 := by omega
          rw [h5] at hdm
          omega
        · intro h5
          have h6 : v / 2 ^ m < 2 := Nat.div_lt_of_lt_mul hv
          have h7 : 1 ≤ v / 2 ^ m := (Nat.one_le_div_iff (by omega)).2 h5
          omega
      rw [hq]
      refine ⟨fun h5 => ⟨by omega, ?_⟩, fun h5 => ?_⟩
      · have h5 := of_decide_eq_true h5
        have e2 : s.Size = ((m + 1 : Nat) : Int) := by omega
        have c2 : ((2 ^ (m + 1) : Nat) : Int) = (2 : Int) ^ (m + 1) := by norm_cast
        have hs : sgn s.Signed s.Size.toNat (v : Int) = (v : Int) - ((2 ^ (m + 1) : Nat) : Int) := by
          unfold sgn
          rw [hm, Nat.add_sub_cancel, if_pos ⟨hS, by rw [← c]; omega⟩, ← c2]
        rw [hs, e2, shl_one _ (by omega), w64_eq _ (by rw [Nat.pow_succ]; omega)]
      · have h5 := of_decide_eq_false h5
        unfold sgn
        rw [hm, Nat.add_sub_cancel, if_neg (by rintro ⟨_, h6⟩; rw [← c] at h6; omega)]
    · unfold sgn
      rw [if_neg (by rintro ⟨h6, _⟩; rw [hS] at h6; cases h6)]
theorem putF_snoc (n : Int) : ∀ (l : List Nat) (i p : Nat) (d : List Int), putF n i (l ++ [p]) d = set1 (putF n i l d) p (nb n (i + l.length)) := by
  intro l
  induction l with
  | nil => intro i p d; rfl
  | cons a l ih => intro i p d; rw [List.cons_append, putF, putF, ih, List.length_cons]; congr 2; omega
theorem sputd_ok (s : Signal) (d : List Int) (n : Int) (h : inD s d) : sputd_vc s d n (fun r => r = putS s d n) := by
  obtain ⟨⟨h1, h2, h3⟩, hd, hp⟩ := h
  have hl := places_len s
  have hpl := plS_len s
  intro hdl
  refine ⟨⟨h1, h2, h3⟩, fun _ => ⟨fun i x => ∃ k : Nat, i = k ∧ k ≤ s.Size.toNat ∧ x = putF n 0 ((plS s).take k) d, fun i _ => s.Size.toNat - i.toNat, ⟨0, rfl, by omega, rfl⟩, ?_⟩⟩
  rintro _ _ ⟨k, rfl, hk, rfl⟩
  have hlen := putF_len n ((plS s).take k) 0 d
  refine ⟨fun hc => ?_, fun hc => ?_⟩
  · have hc := of_decide_eq_true hc
    refine ⟨by omega, fun q hq => ?_⟩
    rw [Int.toNat_natCast] at hq
    obtain ⟨p, hp1, rfl, hp2⟩ := place_at hq
    have hlt := hp p hp2
    have hfp : p < 1000000 := by
      unfold plS plN at hp2
      have hb : ∀ j, j ∈ (List.range s.Size.toNat).map (fp s.Back s.Start.toNat) → j < 1000000 := by
        intro j hj
        obtain ⟨i, hi, rfl⟩ := List.mem_map.1 hj
        have := List.mem_range.1 hi
        have := fp_le s.Back s.Start.toNat i
        omega
      split at hp2
      · exact hb p (List.mem_reverse.1 hp2)
      · exact hb p hp2
    obtain ⟨d1, d2⟩ := div8 p hfp
    rw [d1, d2, Int.toNat_natCast]
    refine ⟨by omega, fun q hq2 => ⟨by omega, by omega, by omega, by omega, ⟨k + 1, by rw [w64_succ k (by omega)], by omega, ?_⟩, by rw [w64_succ k (by omega)]; (try dsimp only); omega⟩⟩
    rw [List.take_add_one, hp1]
    show _ = putF n 0 (List.take k (plS s) ++ [p]) d
    rw [putF_snoc, List.length_take, hpl, Nat.min_eq_left hk, Nat.zero_add]
    unfold set1 sb
    rw [hq2, Option.getD_some]
    congr 2
    rw [shr_any _ _ (by omega), and_one]
    unfold bv nb
    have : n / 2 ^ k % 2 = 0 ∨ n / 2 ^ k % 2 = 1 := by omega
    rcases this with e | e <;> rw [e] <;> rfl
  · have hc := of_decide_eq_false hc
    have hkk : k = s.Size.toNat := by omega
    subst hkk
    refine ⟨hlen, ?_⟩
    unfold putS
    rw [← hpl, List.take_length]

end Go.Proofs.YtdndfbamhnchfaaDoor
