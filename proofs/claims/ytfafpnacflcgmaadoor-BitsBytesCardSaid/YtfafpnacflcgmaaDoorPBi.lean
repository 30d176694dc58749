/- What must hold so that each function ends well: pure predicates, made by program. -/
import Derived.Test.YtfafpnacflcgmaaDoorPBh
set_option linter.unusedVariables false
set_option linter.unusedSimpArgs false
namespace Go.Proofs.YtfafpnacflcgmaaDoor
open Go.Sy Go.RowKit
def fint1_vc (u0 : Int) (K : (List UInt8) → Prop) : Prop :=
  ((0 ≤ u0 ∧ u0 ≤ 9223372036854775807) ∧
    (K (fintS u0)))

def rrow_vc (u0 : Int) (u1 : Int) (K : ((List UInt8) × Bool) → Prop) : Prop :=
  (((decide (u0 > 0)) = true →
      (fint1_vc u0 fun r19 =>
      (((decide ((r19.length : Int) > u1)) = true →
        (K ([], false))) ∧
      ((decide ((r19.length : Int) > u1)) = false →
        ((0 ≤ (w64 (u1 - (r19.length : Int))) ∧ (w64 (u1 - (r19.length : Int))) ≤ 1000000 ∧ (([48] : List UInt8).length : Int) * (w64 (u1 - (r19.length : Int))) ≤ 140737488355328) ∧
        ((((srepS ([48] : List UInt8) (w64 (u1 - (r19.length : Int)))).length : Int) + (r19.length : Int) ≤ 9223372036854775807) ∧
        (K ((srepS ([48] : List UInt8) (w64 (u1 - (r19.length : Int)))) ++ r19, true)))))))) ∧
    ((decide (u0 > 0)) = false →
      (((decide (0 > u1)) = true →
        (K ([], false))) ∧
      ((decide (0 > u1)) = false →
        ((0 ≤ (w64 (u1 - 0)) ∧ (w64 (u1 - 0)) ≤ 1000000 ∧ (([48] : List UInt8).length : Int) * (w64 (u1 - 0)) ≤ 140737488355328) ∧
        ((((srepS ([48] : List UInt8) (w64 (u1 - 0))).length : Int) + (([] : List UInt8).length : Int) ≤ 9223372036854775807) ∧
        (K ((srepS ([48] : List UInt8) (w64 (u1 - 0))) ++ ([] : List UInt8), true))))))))

/-! Pure proofs: no program in sight. -/
def rrowS (n size : Int) : List UInt8 × Bool := if (if 0 < n then binS n.toNat else []).length > size then ([], false) else (List.replicate (size.toNat - (if 0 < n then binS n.toNat else []).length) 48 ++ (if 0 < n then binS n.toNat else []), true)
theorem srep_zero (c : Nat) : srepS [48] (c : Int) = List.replicate c 48 := by
  unfold srepS
  rw [Int.toNat_natCast]
  induction c with
  | zero => rfl
  | succ c ih => rw [List.replicate_succ, List.flatten_cons, ih, List.replicate_succ]; rfl
theorem binS_len (n : Nat) : (binS n).length = Nat.log2 n + 1 := wr_length _ _
theorem log2_le {n : Nat} (h : n < 9223372036854775808) : Nat.log2 n ≤ 62 := by
  by_cases h0 : n = 0
  · subst h0; decide
  · have : Nat.log2 n < 63 := (Nat.log2_lt h0).2 h
    omega
theorem rrow_ok (u0 u1 : Int) (h : u0 ≤ 9223372036854775807 ∧ u1 ≤ 1000000) : rrow_vc u0 u1 (fun r => r = rrowS u0 u1) := by
  refine ⟨fun h1 => ?_, fun h1 => ?_⟩
  · have h1 := of_decide_eq_true h1
    have hb := log2_le (n := u0.toNat) (by omega)
    have hl : (fintS u0).length ≤ 63 := by unfold fintS; rw [binS_len]; omega
    have hS : rrowS u0 u1 = if ((fintS u0).length : Int) > u1 then ([], false) else (List.replicate (u1.toNat - (fintS u0).length) 48 ++ fintS u0, true) := by
      unfold rrowS
      rw [if_pos (show 0 < u0 by omega)]
      rfl
    refine ⟨⟨by omega, by omega⟩, fun h2 => ?_, fun h2 => ?_⟩
    · rw [hS, if_pos (of_decide_eq_true h2)]
    · have h2 := of_decide_eq_false h2
      rw [hS, if_neg h2]
      have ew : w64 (u1 - ((fintS u0).length : Int)) = ((u1.toNat - (fintS u0).length : Nat) : Int) := by rw [w64_eq _ (by omega)]; omega
      rw [ew, srep_zero]
      refine ⟨⟨by omega, by omega, by simp only [List.length_cons, List.length_nil]; omega⟩, by rw [List.length_replicate]; omega, rfl⟩
  · have h1 := of_decide_eq_false h1
    have hS : rrowS u0 u1 = if (0 : Int) > u1 then ([], false) else (List.replicate u1.toNat 48, true) := by
      unfold rrowS
      rw [if_neg (show ¬ 0 < u0 by omega)]
      simp
    refine ⟨fun h2 => ?_, fun h2 => ?_⟩
    · rw [hS, if_pos (of_decide_eq_true h2)]
    · have h2 := of_decide_eq_false h2
      have h2 : ¬ (0 : Int) > u1 := h2
      rw [hS, if_neg h2]
      have ew : w64 (u1 - 0) = ((u1.toNat : Nat) : Int) := by
        rw [w64_eq _ (by omega)]; omega
      rw [ew, srep_zero]
      refine ⟨⟨by omega, by omega, by simp only [List.length_cons, List.length_nil]; omega⟩, by rw [List.length_replicate, List.length_nil]; omega, ?_⟩
      rw [List.append_nil]
theorem wr_zeros (n k : Nat) (h : n < 2 ^ k) : ∀ j, wr (j + k) n = List.replicate j 48 ++ wr k n := by
  intro j
  induction j with
  | zero => simp
  | succ j ih =>
    have e : j + 1 + k = (j + k) + 1 := by omega
    rw [e, wr, ih, List.replicate_succ, List.cons_append]
    have : n / 2 ^ (j + k) = 0 := Nat.div_eq_of_lt (Nat.lt_of_lt_of_le h (Nat.pow_le_pow_right (by omega) (by omega)))
    rw [this]
    rfl
/-- A number that fits, in so many bits. -/
theorem rrow_wr {n size : Int} (h0 : 0 ≤ n) (hs : 0 ≤ size) (h : n.toNat < 2 ^ size.toNat) : rrowS n size = (wr size.toNat n.toNat, true) := by
  unfold rrowS
  by_cases hn : 0 < n
  · rw [if_pos hn, binS_len]
    have hl : Nat.log2 n.toNat < size.toNat := (Nat.log2_lt (by omega)).2 h
    rw [if_neg (by omega)]
    have hb : n.toNat < 2 ^ (Nat.log2 n.toNat + 1) := (Nat.log2_lt (by omega)).1 (by omega)
    have := wr_zeros n.toNat (Nat.log2 n.toNat + 1) hb (size.toNat - (Nat.log2 n.toNat + 1))
    have e : size.toNat - (Nat.log2 n.toNat + 1) + (Nat.log2 n.toNat + 1) = size.toNat := by omega
    rw [e] at this
    rw [this]
    rfl
  · rw [if_neg hn]
    have e : n = 0 := by omega
    subst e
    rw [if_neg (by simp; omega)]
    have := wr_zeros 0 0 (by decide) size.toNat
    rw [Nat.add_zero] at this
    show (List.replicate (size.toNat - 0) 48 ++ [], true) = (wr size.toNat 0, true)
    rw [this]
    rfl

end Go.Proofs.YtfafpnacflcgmaaDoor
