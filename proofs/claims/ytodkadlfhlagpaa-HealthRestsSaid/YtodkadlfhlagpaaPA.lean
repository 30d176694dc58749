/- Pure proofs: no program in sight. -/
import Derived.Test.YtodkadlfhlagpaaVA
set_option linter.unusedVariables false
set_option linter.unusedSimpArgs false
namespace Go.Proofs.Ytodkadlfhlagpaa
open Go.Sy Go.RowKit
theorem sequal_ok (a b : List Int) : sequal_vc a b (fun r => r = decide (a = b)) := by
  intro ha hb
  refine ⟨fun h => ?_, fun h => ?_⟩
  · simp at h
    exact (decide_eq_false (fun e => h (by rw [e]))).symm
  · have hl : a.length = b.length := by simp at h; omega
    refine ⟨fun x => ∃ k : Nat, x = k ∧ k ≤ a.length ∧ ∀ j, j < k → a[j]? = b[j]?, fun x => (a.length - x).toNat, ⟨0, rfl, by omega, by simp⟩, ?_⟩
    rintro _ ⟨k, rfl, hk, he⟩
    refine ⟨fun h1 => ?_, fun h1 => ?_⟩
    · have h2 : k < a.length := by simpa using h1
      refine ⟨by omega, fun q hq => ⟨by omega, fun q' hq' => ⟨fun h3 => ?_, fun h3 => ?_⟩⟩⟩
      · simp only [Int.toNat_natCast] at hq hq'
        refine (decide_eq_false (fun e => ?_)).symm
        subst e
        rw [hq] at hq'
        simp_all
      · simp only [Int.toNat_natCast] at hq hq'
        rw [w64_succ k (by omega)]
        refine ⟨⟨k + 1, rfl, by omega, fun j hj => ?_⟩, by dsimp only; omega⟩
        rcases Nat.lt_or_ge j k with h4 | h4
        · exact he j h4
        · have : j = k := by omega
          subst this
          rw [hq, hq']
          simp at h3
          rw [h3]
    · have h2 : k = a.length := by simp at h1; omega
      subst h2
      refine (decide_eq_true (List.ext_getElem? fun j => ?_)).symm
      rcases Nat.lt_or_ge j a.length with h4 | h4
      · exact he j h4
      · rw [List.getElem?_eq_none h4, List.getElem?_eq_none (by omega)]
theorem sequal_any (a b : List Int) (K : Bool → Prop) (h : K (decide (a = b))) : sequal_vc a b K := sequal_mono (fun _ e => by rw [e]; exact h) (sequal_ok a b)
theorem names_ok : names_vc (fun r => r = true) := by
  refine ⟨fun x => ∃ k : Nat, x = k ∧ k ≤ 15, fun x => (15 - x).toNat, ⟨0, rfl, by omega⟩, ?_⟩
  rintro _ ⟨k, rfl, hk⟩
  refine ⟨fun h1 => ?_, fun h1 => ?_⟩
  · have h2 : k < 15 := by have := of_decide_eq_true h1; omega
    refine ⟨by simp; omega, fun q hq => ⟨fun h3 => ?_, fun h3 => ?_⟩⟩
    · exfalso
      simp only [Int.toNat_natCast] at hq
      have : k = 0 ∨ k = 1 ∨ k = 2 ∨ k = 3 ∨ k = 4 ∨ k = 5 ∨ k = 6 ∨ k = 7 ∨ k = 8 ∨ k = 9 ∨ k = 10 ∨ k = 11 ∨ k = 12 ∨ k = 13 ∨ k = 14 := by omega
      rcases this with rfl | rfl | rfl | rfl | rfl | rfl | rfl | rfl | rfl | rfl | rfl | rfl | rfl | rfl | rfl <;> simp at hq <;> subst hq <;> simp at h3
    · rw [w64_succ k (by omega)]
      exact ⟨⟨k + 1, rfl, by omega⟩, by dsimp only; omega⟩
  · refine sequal_any _ _ _ ⟨fun _ => sequal_any _ _ _ ?_, fun h => ?_⟩
    · simp
    · simp at h

theorem wu64_eq (x : Int) (h : 0 ≤ x ∧ x ≤ 18446744073709551615) : wu64 x = x := IntWalk.u64_in x h
theorem bShr32 (a : Int) (h : 0 ≤ a ∧ a < 4294967296) : bShr .u64 a 32 = 0 := by
  have e : min (32 : Int).toNat IntKind.u64.bits = 32 := by decide
  unfold bShr
  rw [e]
  show a.fdiv 4294967296 = 0
  rw [Int.fdiv_eq_ediv_of_nonneg _ (by omega)]
  omega
theorem bAnd32 (a : Int) (h : 0 ≤ a ∧ a < 4294967296) : bAnd .u64 a 4294967295 = a := by
  obtain ⟨n, rfl⟩ : ∃ n : Nat, a = n := ⟨a.toNat, by omega⟩
  unfold bAnd
  have h1 : (BitVec.ofInt IntKind.u64.bits (n : Int) &&& BitVec.ofInt IntKind.u64.bits 4294967295).toNat = n := by
    have e1 : (BitVec.ofInt IntKind.u64.bits (n : Int)).toNat = n := by simp [IntKind.bits]; omega
    have e2 : (BitVec.ofInt IntKind.u64.bits 4294967295).toNat = 2 ^ 32 - 1 := by decide
    rw [BitVec.toNat_and, e1, e2, Nat.and_two_pow_sub_one_eq_mod]
    omega
  rw [h1]
  exact wu64_eq _ (by omega)
theorem mul64_small (a b : Int) (ha : 0 ≤ a ∧ a < 4294967296) (hb : 0 ≤ b ∧ b < 4294967296) : mul64 a b = (0, a * b) := by
  have hp : 0 ≤ a * b ∧ a * b ≤ 4294967295 * 4294967295 := ⟨Int.mul_nonneg ha.1 hb.1, Int.mul_le_mul (by omega) (by omega) hb.1 (by omega)⟩
  unfold mul64
  simp only [bShr32 a ha, bShr32 b hb, bAnd32 a ha, bAnd32 b hb, Int.zero_mul, Int.mul_zero, Int.zero_add, Int.add_zero]
  rw [wu64_eq (a * b) (by omega)]
  have z0 : wu64 0 = 0 := rfl
  have e : bShr .u64 (a * b) 32 = (a * b) / 4294967296 := by
    have e : min (32 : Int).toNat IntKind.u64.bits = 32 := by decide
    unfold bShr
    rw [e]
    show (a * b).fdiv 4294967296 = _
    rw [Int.fdiv_eq_ediv_of_nonneg _ (by omega)]
  have hq : 0 ≤ (a * b) / 4294967296 ∧ (a * b) / 4294967296 < 4294967296 := by omega
  simp only [z0, Int.zero_add, Int.add_zero, e, wu64_eq ((a * b) / 4294967296) (by omega), bShr32 _ hq, bAnd32 _ hq]
def srepS (x : List Int) (n : Int) : List Int := (List.replicate n.toNat x).flatten
theorem srepS_len (x : List Int) (n : Int) : (srepS x n).length = x.length * n.toNat := by
  simp [srepS, Nat.mul_comm]
theorem srepS_get (x : List Int) (n : Int) (j : Nat) (h : j < x.length * n.toNat) : (srepS x n)[j]? = x[j % x.length]? := by
  unfold srepS
  generalize n.toNat = m at *
  induction m generalizing j with
  | zero => simp at h
  | succ m ih =>
    rw [List.replicate_succ, List.flatten_cons]
    rcases Nat.lt_or_ge j x.length with hj | hj
    · rw [List.getElem?_append_left hj, Nat.mod_eq_of_lt hj]
    · rw [List.getElem?_append_right hj, ih _ (by rw [Nat.mul_succ] at h; omega), Nat.mod_eq_sub_mod hj]
theorem srep_ok (u0 : List Int) (u1 : Int) (hp : u0.length * u1.toNat ≤ 1000000 ∧ u0.length ≤ 1000000 ∧ 0 ≤ u1 ∧ u1 ≤ 1000000) : srep_vc u0 u1 (fun r => r = srepS u0 u1) := by
  intro _
  obtain ⟨n, rfl⟩ : ∃ n : Nat, u1 = n := ⟨u1.toNat, by omega⟩
  obtain ⟨hp1, hp2, hp3, hp4⟩ := hp
  simp only [Int.toNat_natCast] at hp1
  have hcast : (u0.length : Int) * (n : Int) = ((u0.length * n : Nat) : Int) := by rw [Int.natCast_mul]
  have hm : bmul (wu64 (u0.length : Int)) (wu64 (n : Int)) = (0, ((u0.length * n : Nat) : Int)) := by
    rw [wu64_eq _ (by omega), wu64_eq _ (by omega)]
    unfold bmul
    rw [mul64_small _ _ (by omega) (by omega), hcast]
  have hN : w64 ((u0.length * n : Nat) : Int) = ((u0.length * n : Nat) : Int) := w64_eq _ (by omega)
  rw [hm]
  simp only [hN, Int.toNat_natCast]
  refine ⟨fun h => by simp at h; omega, fun _ => ⟨fun h => ?_, fun _ => ⟨by omega, ?_⟩⟩⟩
  · simp at h; omega
  · have hrl : (List.replicate (u0.length * n) (0 : Int)).length = u0.length * n := by simp
    refine ⟨fun x y => ∃ k : Nat, x = k ∧ k ≤ u0.length * n ∧ y.length = u0.length * n ∧ (0 < u0.length * n → 0 < k ∧ u0.length ∣ k) ∧ ∀ j, j < k → y[j]? = u0[j % u0.length]?, fun x y => u0.length * n - x.toNat, ⟨min u0.length (u0.length * n), by rw [hrl], by omega, ?_, ?_, ?_⟩, ?_⟩
    · simp; omega
    · intro h
      have h1 : 0 < u0.length := Nat.pos_of_mul_pos_right h
      have h2 : u0.length ≤ u0.length * n := Nat.le_mul_of_pos_right _ (Nat.pos_of_mul_pos_left h)
      rw [Nat.min_eq_left h2]
      exact ⟨h1, Nat.dvd_refl _⟩
    · intro j hj
      have hj1 : j < u0.length := by omega
      rw [hrl, List.take_zero, List.nil_append, List.getElem?_append_left (by simp; omega), List.getElem?_take_of_lt (by omega), Nat.mod_eq_of_lt hj1]
    · rintro _ y ⟨k, rfl, hk, hy, hd, hg⟩
      refine ⟨fun h => ?_, fun h => ?_⟩
      · have h1 : k < u0.length * n := by simp at h; omega
        have hd' := hd (by omega)
        simp only [Int.toNat_natCast, List.drop_zero]
        have hl1 : (List.take k y).length = k := by rw [List.length_take]; omega
        rw [hl1, hy]
        generalize hm' : min k (u0.length * n - k) = m
        have hks : w64 ((k : Int) + ((m : Nat) : Int)) = ((k + m : Nat) : Int) := by rw [w64_eq _ (by omega)]; omega
        refine ⟨by omega, by omega, ?_⟩
        rw [hks]
        refine ⟨⟨k + m, rfl, by omega, ?_, fun _ => ⟨by omega, ?_⟩, fun j hj => ?_⟩, by simp only [Int.toNat_natCast]; omega⟩
        · simp [hl1, hy]; omega
        · have hdn : u0.length ∣ u0.length * n - k := Nat.dvd_sub (Nat.dvd_mul_right _ _) hd'.2
          rcases Nat.le_total k (u0.length * n - k) with h2 | h2
          · rw [Nat.min_eq_left h2] at hm'; subst hm'; exact Nat.dvd_add hd'.2 hd'.2
          · rw [Nat.min_eq_right h2] at hm'; subst hm'; exact Nat.dvd_add hd'.2 hdn
        · rcases Nat.lt_or_ge j k with h2 | h2
          · rw [List.append_assoc, List.getElem?_append_left (by rw [hl1]; exact h2), List.getElem?_take_of_lt h2]
            exact hg j h2
          · have h3 : ((List.take k y).take m).length = m := by rw [List.length_take, hl1]; omega
            rw [List.getElem?_append_left (by rw [List.length_append, hl1, h3]; omega), List.getElem?_append_right (by rw [hl1]; exact h2), hl1, List.getElem?_take_of_lt (by omega), List.getElem?_take_of_lt (by omega), hg _ (by omega)]
            congr 1
            obtain ⟨c, rfl⟩ := hd'.2
            conv => rhs; rw [show j = (j - u0.length * c) + u0.length * c by omega, Nat.add_mul_mod_self_left]
      · have h1 : k = u0.length * n := by simp at h; omega
        subst h1
        refine List.ext_getElem? fun j => ?_
        rcases Nat.lt_or_ge j (u0.length * n) with h2 | h2
        · rw [hg j h2, srepS_get _ _ _ (by simpa using h2)]
        · rw [List.getElem?_eq_none (by omega), List.getElem?_eq_none (by rw [srepS_len]; simpa using h2)]
def hrun (h : Health) (i : Int) : List Int → Health × Int × Int
  | [] => (h, 0, 0)
  | x :: l => if (hchange h x).2 ≠ 0 then (⟨0, 0, 0⟩, i, (hchange h x).2) else hrun (hchange h x).1 (i + 1) l
def hstepS (u0 : Health) (u1 : List Int) : Health × Int × Int :=
  if hcheck u0 ≠ 0 then (⟨0, 0, 0⟩, 0, hcheck u0) else if 1000 < u1.length then (⟨0, 0, 0⟩, 0, 2) else hrun u0 0 u1
theorem hstep_ok (u0 : Health) (u1 : List Int) : hstep_vc u0 u1 (fun r => r = hstepS u0 u1) := by
  intro _
  refine ⟨fun h => ?_, fun h => ⟨fun h1 => ?_, fun h1 => ?_⟩⟩
  · have : hcheck u0 ≠ 0 := by simpa using h
    simp [hstepS, this]
  · have : hcheck u0 = 0 := by simpa using h
    have h2 : 1000 < u1.length := by simp at h1; omega
    simp [hstepS, this, h2]
  · have h0 : hcheck u0 = 0 := by simpa using h
    have h2 : ¬ 1000 < u1.length := by simp at h1; omega
    have hs : hstepS u0 u1 = hrun u0 0 u1 := by simp [hstepS, h0, h2]
    rw [hs]
    refine ⟨fun x y => ∃ k : Nat, x = k ∧ k ≤ u1.length ∧ hrun y k (u1.drop k) = hrun u0 0 u1, fun x y => u1.length - x.toNat, ⟨0, rfl, by omega, by simp⟩, ?_⟩
    rintro _ y ⟨k, rfl, hk, he⟩
    refine ⟨fun h3 => ⟨by simp at h3; omega, fun q hq => ?_⟩, fun h3 => ?_⟩
    · have h4 : k < u1.length := by simpa using h3
      simp only [Int.toNat_natCast] at hq
      have hd : u1.drop k = q :: u1.drop (k + 1) := by
        rw [List.drop_eq_getElem_cons h4]
        rw [List.getElem?_eq_getElem h4] at hq
        simp at hq
        rw [hq]
      rw [hd] at he
      refine ⟨fun h5 => ?_, fun h5 => ?_⟩
      · have : (hchange y q).2 ≠ 0 := by simpa using h5
        rw [← he]
        simp [hrun, this]
      · have : (hchange y q).2 = 0 := by simpa using h5
        rw [w64_succ k (by omega)]
        refine ⟨⟨k + 1, rfl, by omega, ?_⟩, by simp only [Int.toNat_natCast]; omega⟩
        rw [← he]
        simp [hrun, this]
    · have h4 : k = u1.length := by simp at h3; omega
      subst h4
      rw [← he]
      simp [hrun]

end Go.Proofs.Ytodkadlfhlagpaa
