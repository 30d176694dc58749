/- What must hold so that each function ends well: pure predicates, made by program. -/
import Derived.Test.YtfafpnacflcgmaaDoorPBe
set_option linter.unusedVariables false
set_option linter.unusedSimpArgs false
namespace Go.Proofs.YtfafpnacflcgmaaDoor
open Go.Sy Go.RowKit
def LNumber_vc (u0 : List UInt8) (u1 : Int) (u2 : Int) (K : Bool → Prop) : Prop :=
  ((u1 ≤ 9223372036854775807) ∧
    ((((bcheckS u0) != (bcheckS u0)) = true →
      (K false)) ∧
    (((bcheckS u0) != (bcheckS u0)) = false →
      (((((bcheckS u0) == 0) && (decide ((u0.length : Int) > 62))) = true →
        ((((((bnumberS u0).2) != 2) || (((bnumberS u0).1) != 0)) = true →
          (K false)) ∧
        (((((bnumberS u0).2) != 2) || (((bnumberS u0).1) != 0)) = false →
          ((((decide (u2 < 0)) || (decide (u2 > 62))) = true →
            (K ((((browS u1 u2).2) == 2) && (((browS u1 u2).1) == ([] : List UInt8))))) ∧
          (((decide (u2 < 0)) || (decide (u2 > 62))) = false →
            (((decide (u1 ≥ 0)) = true →
              ((u1 ≤ 9223372036854775807 ∧ u2 ≤ 1000000) ∧
              (((!((rrowS u1 u2).2)) = true →
                (K ((((browS u1 u2).2) == 3) && (((browS u1 u2).1) == ([] : List UInt8))))) ∧
              ((!((rrowS u1 u2).2)) = false →
                (K ((((browS u1 u2).2) == 0) && (((browS u1 u2).1) == ((rrowS u1 u2).1)))))))) ∧
            ((decide (u1 ≥ 0)) = false →
              (K ((((browS u1 u2).2) == 3) && (((browS u1 u2).1) == ([] : List UInt8))))))))))) ∧
      ((((bcheckS u0) == 0) && (decide ((u0.length : Int) > 62))) = false →
        ((((bcheckS u0) != 0) = true →
          ((((((bnumberS u0).2) != (bcheckS u0)) || (((bnumberS u0).1) != 0)) = true →
            (K false)) ∧
          (((((bnumberS u0).2) != (bcheckS u0)) || (((bnumberS u0).1) != 0)) = false →
            ((((decide (u2 < 0)) || (decide (u2 > 62))) = true →
              (K ((((browS u1 u2).2) == 2) && (((browS u1 u2).1) == ([] : List UInt8))))) ∧
            (((decide (u2 < 0)) || (decide (u2 > 62))) = false →
              (((decide (u1 ≥ 0)) = true →
                ((u1 ≤ 9223372036854775807 ∧ u2 ≤ 1000000) ∧
                (((!((rrowS u1 u2).2)) = true →
                  (K ((((browS u1 u2).2) == 3) && (((browS u1 u2).1) == ([] : List UInt8))))) ∧
                ((!((rrowS u1 u2).2)) = false →
                  (K ((((browS u1 u2).2) == 0) && (((browS u1 u2).1) == ((rrowS u1 u2).1)))))))) ∧
              ((decide (u1 ≥ 0)) = false →
                (K ((((browS u1 u2).2) == 3) && (((browS u1 u2).1) == ([] : List UInt8))))))))))) ∧
        (((bcheckS u0) != 0) = false →
          (((((bnumberS u0).2) != 0) = true →
            (K false)) ∧
          ((((bnumberS u0).2) != 0) = false →
            ((isRow u0 = true ∧ u0.length ≤ 1000) ∧
            (((rvalueS u0).neg = false ∧ wok (rvalueS u0).abs ∧ wv (rvalueS u0).abs < 9223372036854775808) ∧
            (∀ r482, (gint64S (rvalueS u0)) = r482 →
            (r482.2.abs.length ≤ 140737488355328 →
            (((r482.1 != ((bnumberS u0).1)) = true →
              (K false)) ∧
            ((r482.1 != ((bnumberS u0).1)) = false →
              ((((decide (u2 < 0)) || (decide (u2 > 62))) = true →
                (K ((((browS u1 u2).2) == 2) && (((browS u1 u2).1) == ([] : List UInt8))))) ∧
              (((decide (u2 < 0)) || (decide (u2 > 62))) = false →
                (((decide (u1 ≥ 0)) = true →
                  ((u1 ≤ 9223372036854775807 ∧ u2 ≤ 1000000) ∧
                  (((!((rrowS u1 u2).2)) = true →
                    (K ((((browS u1 u2).2) == 3) && (((browS u1 u2).1) == ([] : List UInt8))))) ∧
                  ((!((rrowS u1 u2).2)) = false →
                    (K ((((browS u1 u2).2) == 0) && (((browS u1 u2).1) == ((rrowS u1 u2).1)))))))) ∧
                ((decide (u1 ≥ 0)) = false →
                  (K ((((browS u1 u2).2) == 3) && (((browS u1 u2).1) == ([] : List UInt8)))))))))))))))))))))))

/-! Pure proofs: no program in sight. -/
/-- A number that doesn't fit. -/
theorem rrow_no {n size : Int} (h0 : 0 ≤ n) (hs : 0 ≤ size) (h : 2 ^ size.toNat ≤ n.toNat) : rrowS n size = ([], false) := by
  have hp : 0 < 2 ^ size.toNat := Nat.two_pow_pos _
  have hn : 0 < n := by omega
  have hl : size.toNat ≤ Nat.log2 n.toNat := (Nat.le_log2 (by omega)).2 h
  unfold rrowS
  rw [if_pos hn, binS_len, if_pos (by omega)]
/-- What is asked of the number that is told as a row. -/
theorem row_part (n m : Int) (hn : n ≤ 9223372036854775807) :
    (((decide (m < 0)) || (decide (m > 62))) = true →
      ((((browS n m).2) == 2) && (((browS n m).1) == ([] : List UInt8))) = true) ∧
    (((decide (m < 0)) || (decide (m > 62))) = false →
      (((decide (n ≥ 0)) = true →
        ((n ≤ 9223372036854775807 ∧ m ≤ 1000000) ∧
        (((!((rrowS n m).2)) = true →
          ((((browS n m).2) == 3) && (((browS n m).1) == ([] : List UInt8))) = true) ∧
        ((!((rrowS n m).2)) = false →
          ((((browS n m).2) == 0) && (((browS n m).1) == ((rrowS n m).1))) = true)))) ∧
      ((decide (n ≥ 0)) = false →
        ((((browS n m).2) == 3) && (((browS n m).1) == ([] : List UInt8))) = true))) := by
  refine ⟨fun h => ?_, fun h => ?_⟩
  · have h : m < 0 ∨ 62 < m := by simpa using h
    have hS : browS n m = ([], 2) := by unfold browS; rw [if_pos h]
    rw [hS]; rfl
  · have h : ¬ (m < 0 ∨ 62 < m) := by simp at h; omega
    refine ⟨fun h1 => ⟨⟨hn, by omega⟩, ?_⟩, fun h1 => ?_⟩
    · have h1 : 0 ≤ n := by simpa using h1
      by_cases h2 : 2 ^ m.toNat ≤ n.toNat
      · have hS : browS n m = ([], 3) := by unfold browS; rw [if_neg h, if_pos (Or.inr h2)]
        rw [rrow_no h1 (by omega) h2, hS]
        exact ⟨fun _ => rfl, fun h3 => by simp at h3⟩
      · have hS : browS n m = (wr m.toNat n.toNat, 0) := by unfold browS; rw [if_neg h, if_neg (by rintro (h3 | h3); omega; exact h2 h3)]
        rw [rrow_wr h1 (by omega) (by omega), hS]
        exact ⟨fun h3 => by simp at h3, fun _ => by simp⟩
    · have h1 : n < 0 := by simpa using h1
      have hS : browS n m = ([], 3) := by unfold browS; rw [if_neg h, if_pos (Or.inl h1)]
      rw [hS]; rfl
theorem LNumber_ok (b : List UInt8) (n m : Int) (k0 : b.length ≤ lim) (k1 : IntKind.i64.min ≤ n ∧ n ≤ IntKind.i64.max) (k2 : IntKind.i64.min ≤ m ∧ m ≤ IntKind.i64.max) : LNumber_vc b n m (fun r => r = true) := by
  have hn : n ≤ 9223372036854775807 := k1.2
  have hp := row_part n m hn
  refine ⟨hn, fun h => by simp at h, fun _ => ⟨fun h => ?_, fun h => ⟨fun h1 => ?_, fun h1 => ?_⟩⟩⟩
  · have h : bcheckS b = 0 ∧ 62 < b.length := by rw [Bool.and_eq_true, beq_iff_eq, decide_eq_true_eq] at h; exact ⟨h.1, by omega⟩
    have hS : bnumberS b = (0, 2) := by unfold bnumberS; rw [if_neg (by rw [h.1]; simp), if_pos h.2]
    rw [hS]
    exact ⟨fun h1 => by simp at h1, fun _ => hp⟩
  · have h1 : bcheckS b ≠ 0 := by simpa using h1
    have hS : bnumberS b = (0, bcheckS b) := by unfold bnumberS; rw [if_pos h1]
    rw [hS]
    exact ⟨fun h2 => by simp at h2, fun _ => hp⟩
  · have h1 : bcheckS b = 0 := by simpa using h1
    obtain ⟨hl, hr⟩ := (bcheck_zero b).1 h1
    have h62 : ¬ 62 < b.length := by
      intro h3
      rw [h1] at h
      simp at h
      omega
    have hS : bnumberS b = ((val b : Int), 0) := by unfold bnumberS; rw [if_neg (by rw [h1]; simp), if_neg h62]
    have hv := val_lt hr
    have hp2 : 2 ^ b.length ≤ 2 ^ 62 := Nat.pow_le_pow_right (by omega) (by omega)
    have p62 : (2 : Nat) ^ 62 = 4611686018427387904 := rfl
    have hw : wv (rvalueS b).abs = val b := wv_ws _
    rw [hS]
    refine ⟨fun h2 => by simp at h2, fun _ => ⟨⟨hr, hl⟩, ⟨rfl, ws_wok _, by rw [hw]; omega⟩, ?_⟩⟩
    rintro r rfl _
    have e : (gint64S (rvalueS b)).1 = (val b : Int) := by show ((wv (rvalueS b).abs : Nat) : Int) = _; rw [hw]
    rw [e]
    exact ⟨fun h2 => by simp at h2, fun _ => hp⟩

end Go.Proofs.YtfafpnacflcgmaaDoor
