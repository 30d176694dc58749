/- Pure proofs: no program in sight. -/
import Derived.Test.YtinegicenfndkaaDoorVD
set_option linter.unusedVariables false
set_option linter.unusedSimpArgs false
namespace Go.Proofs.YtinegicenfndkaaDoor
open Go.Sy Go.RowKit
theorem csumS_zero {i : Int} {b : List UInt8} (h : (csumS i b).2 = 0) : isKind i = true ∧ b.length ≤ 1000 ∧ isRow b = true ∧ csumS i b = (sumR i b, 0) := by
  unfold csumS at h ⊢
  by_cases h1 : bcheckS b ≠ 0
  · rw [if_pos h1] at h; exact absurd h h1
  · rw [if_neg h1] at h ⊢
    by_cases h2 : isKind i = true
    · rw [if_pos h2]
      have := (bcheck_zero b).1 (by simpa using h1)
      exact ⟨h2, this.1, this.2, rfl⟩
    · rw [if_neg h2] at h; cases h
theorem csumS_row {i : Int} {b : List UInt8} (h1 : isKind i = true) (h2 : b.length ≤ 1000) (h3 : isRow b = true) : csumS i b = (sumR i b, 0) := by
  unfold csumS
  rw [if_neg (by rw [(bcheck_zero b).2 ⟨h2, h3⟩]; simp), if_pos h1]
theorem crcF_xor3 (S p r : Nat) {a b c : List UInt8} (ha : isRow a = true) (hab : a.length = b.length) (hbc : b.length = c.length) : crcF S p r (xorR (xorR a b) c) = crcF S p r a ^^^ crcF S p r b ^^^ crcF S p r c := by
  have h1 := crcF_xor S p (xorR a b) c (r ^^^ r) r (xorR_row ha b) (by rw [xorR_length]; omega)
  rw [crcF_xor S p a b r r ha hab] at h1
  rw [← h1]
  congr 1
  simp
theorem sumR_xor3 (i : Int) {a b c : List UInt8} (ha : isRow a = true) (hab : a.length = b.length) (hbc : b.length = c.length) : sumR i (xorR (xorR a b) c) = xorR (xorR (sumR i a) (sumR i b)) (sumR i c) := by
  unfold sumR
  rw [← wr_xor, ← wr_xor]
  congr 1
  unfold sumN
  rw [crcF_xor3 _ _ _ ha hab hbc]
  generalize crcF _ _ _ a = x
  generalize crcF _ _ _ b = y
  generalize crcF _ _ _ c = z
  generalize (kindS i).End.toNat = e
  apply Nat.eq_of_testBit_eq
  intro j
  simp only [Nat.testBit_xor]
  cases x.testBit j <;> cases y.testBit j <;> cases z.testBit j <;> cases e.testBit j <;> rfl
theorem sumR_length (i : Int) (b : List UInt8) : (sumR i b).length = sizeN i := wr_length _ _
theorem LAdds_ok (i : Int) (a b c : List UInt8) (hi : IntKind.i64.min ≤ i ∧ i ≤ IntKind.i64.max) (ha : a.length ≤ lim) (hb0 : b.length ≤ lim) (hc0 : c.length ≤ lim) : LAdds_vc i a b c (fun r => r = true) := by
  unfold LAdds_vc
  obtain ⟨n, hn⟩ : ∃ n : Nat, min (min (a.length : Int) (b.length : Int)) (c.length : Int) = n := ⟨(min (min (a.length : Int) (b.length : Int)) (c.length : Int)).toNat, by omega⟩
  rw [hn, Int.toNat_natCast]
  have ha : (a.take n).length = n := by rw [List.length_take]; omega
  have hb : (b.take n).length = n := by rw [List.length_take]; omega
  have hc : (c.take n).length = n := by rw [List.length_take]; omega
  generalize a.take n = a1 at *
  generalize b.take n = b1 at *
  generalize c.take n = c1 at *
  refine ⟨by omega, by omega, by omega, fun _ => rfl, fun h => ?_⟩
  have h : ((csumS i a1).2 = 0 ∧ (csumS i b1).2 = 0) ∧ (csumS i c1).2 = 0 := by simpa using h
  obtain ⟨k1, l1, r1, e1⟩ := csumS_zero h.1.1
  obtain ⟨_, l2, r2, e2⟩ := csumS_zero h.1.2
  obtain ⟨_, l3, r3, e3⟩ := csumS_zero h.2
  have hx : csumS i (xorS (xorS a1 b1) c1) = (sumR i (xorR (xorR a1 b1) c1), 0) := csumS_row k1 (by unfold xorS; rw [xorR_length, xorR_length]; omega) (xorR_row (xorR_row r1 _) _)
  rw [hx, e1, e2, e3]
  have hk := kind_size (isKind_iff.1 k1)
  have hsz : sizeN i ≤ 21 := by unfold sizeN; omega
  refine ⟨⟨by omega, by omega⟩, ⟨by unfold xorS; rw [xorR_length]; omega, by unfold xorS; rw [xorR_length]; omega⟩, fun _ => ⟨⟨?_, ?_⟩, ⟨?_, ?_⟩, ?_⟩, fun h9 => by cases h9⟩
  · dsimp only; rw [sumR_length, sumR_length]; exact Nat.le_refl _
  · dsimp only; rw [sumR_length]; omega
  · dsimp only; unfold xorS; rw [xorR_length, sumR_length, sumR_length]; exact Nat.le_refl _
  · dsimp only; unfold xorS; rw [xorR_length, sumR_length]; omega
  · dsimp only
    unfold xorS
    rw [sumR_xor3 i r1 (by omega) (by omega)]
    simp
def contS (s p : List UInt8) : Bool := s.contains (p.headD 0)
theorem contS_iff (s : List UInt8) : contS s [49] = true ↔ (49 : UInt8) ∈ s := List.contains_iff_mem

end Go.Proofs.YtinegicenfndkaaDoor
