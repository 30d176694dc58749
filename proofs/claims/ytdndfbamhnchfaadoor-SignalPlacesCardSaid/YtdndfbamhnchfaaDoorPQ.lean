/- What must hold so that each function ends well: pure predicates, made by program. -/
import Derived.Test.YtdndfbamhnchfaaDoorPP
set_option linter.unusedVariables false
set_option linter.unusedSimpArgs false
namespace Go.Proofs.YtdndfbamhnchfaaDoor
open Go.Sy Go.RowKit
def risname_vc (u0 : List UInt8) (K : Bool → Prop) : Prop :=
  ((((u0 == ([] : List UInt8)) || (decide ((u0.length : Int) > 16))) = true →
      (K false)) ∧
    (((u0 == ([] : List UInt8)) || (decide ((u0.length : Int) > 16))) = false →
      ((0 ≤ (0 : Int) ∧ (0 : Int) < (u0.length : Int)) ∧
      (∀ c54, u0[(0 : Int).toNat]? = some c54 →
      (((decide ((c54.toNat : Int) ≥ 48)) = true →
        ((0 ≤ (0 : Int) ∧ (0 : Int) < (u0.length : Int)) ∧
        (∀ c72, u0[(0 : Int).toNat]? = some c72 →
        (((decide ((c72.toNat : Int) ≤ 57)) = true →
          (K false)) ∧
        ((decide ((c72.toNat : Int) ≤ 57)) = false →
          ((u0.length ≤ 9223372036854775807 ∧ ([97, 98, 99, 100, 101, 102, 103, 104, 105, 106, 107, 108, 109, 110, 111, 112, 113, 114, 115, 116, 117, 118, 119, 120, 121, 122, 65, 66, 67, 68, 69, 70, 71, 72, 73, 74, 75, 76, 77, 78, 79, 80, 81, 82, 83, 84, 85, 86, 87, 88, 89, 90, 48, 49, 50, 51, 52, 53, 54, 55, 56, 57] : List UInt8).length < 4294967281 ∧ ([97, 98, 99, 100, 101, 102, 103, 104, 105, 106, 107, 108, 109, 110, 111, 112, 113, 114, 115, 116, 117, 118, 119, 120, 121, 122, 65, 66, 67, 68, 69, 70, 71, 72, 73, 74, 75, 76, 77, 78, 79, 80, 81, 82, 83, 84, 85, 86, 87, 88, 89, 90, 48, 49, 50, 51, 52, 53, 54, 55, 56, 57] : List UInt8).all (fun b => decide (b.toNat < 128)) = true) ∧
          (K ((trimS u0 ([97, 98, 99, 100, 101, 102, 103, 104, 105, 106, 107, 108, 109, 110, 111, 112, 113, 114, 115, 116, 117, 118, 119, 120, 121, 122, 65, 66, 67, 68, 69, 70, 71, 72, 73, 74, 75, 76, 77, 78, 79, 80, 81, 82, 83, 84, 85, 86, 87, 88, 89, 90, 48, 49, 50, 51, 52, 53, 54, 55, 56, 57] : List UInt8)) == ([] : List UInt8))))))))) ∧
      ((decide ((c54.toNat : Int) ≥ 48)) = false →
        ((u0.length ≤ 9223372036854775807 ∧ ([97, 98, 99, 100, 101, 102, 103, 104, 105, 106, 107, 108, 109, 110, 111, 112, 113, 114, 115, 116, 117, 118, 119, 120, 121, 122, 65, 66, 67, 68, 69, 70, 71, 72, 73, 74, 75, 76, 77, 78, 79, 80, 81, 82, 83, 84, 85, 86, 87, 88, 89, 90, 48, 49, 50, 51, 52, 53, 54, 55, 56, 57] : List UInt8).length < 4294967281 ∧ ([97, 98, 99, 100, 101, 102, 103, 104, 105, 106, 107, 108, 109, 110, 111, 112, 113, 114, 115, 116, 117, 118, 119, 120, 121, 122, 65, 66, 67, 68, 69, 70, 71, 72, 73, 74, 75, 76, 77, 78, 79, 80, 81, 82, 83, 84, 85, 86, 87, 88, 89, 90, 48, 49, 50, 51, 52, 53, 54, 55, 56, 57] : List UInt8).all (fun b => decide (b.toNat < 128)) = true) ∧
        (K ((trimS u0 ([97, 98, 99, 100, 101, 102, 103, 104, 105, 106, 107, 108, 109, 110, 111, 112, 113, 114, 115, 116, 117, 118, 119, 120, 121, 122, 65, 66, 67, 68, 69, 70, 71, 72, 73, 74, 75, 76, 77, 78, 79, 80, 81, 82, 83, 84, 85, 86, 87, 88, 89, 90, 48, 49, 50, 51, 52, 53, 54, 55, 56, 57] : List UInt8)) == ([] : List UInt8))))))))))

def rov1_vc (u0 : Int) (u1 : List Int) (K : Bool → Prop) : Prop :=
  (K (scontainsS u1 u0))
def rov1 (u0 : Int) (u1 : List Int) : Bool :=
  (scontainsS u1 u0)
theorem rov1_ok (u0 : Int) (u1 : List Int) : rov1_vc u0 u1 (fun r => r = rov1 u0 u1) := (by rfl)

/-! Pure proofs: no program in sight. -/
def lds : List UInt8 := [97, 98, 99, 100, 101, 102, 103, 104, 105, 106, 107, 108, 109, 110, 111, 112, 113, 114, 115, 116, 117, 118, 119, 120, 121, 122, 65, 66, 67, 68, 69, 70, 71, 72, 73, 74, 75, 76, 77, 78, 79, 80, 81, 82, 83, 84, 85, 86, 87, 88, 89, 90, 48, 49, 50, 51, 52, 53, 54, 55, 56, 57]
theorem lds_at : ∀ n : Fin 256, lds.contains (UInt8.ofNat n.val) = isLD (UInt8.ofNat n.val) := by decide +kernel
theorem lds_eq (c : UInt8) : lds.contains c = isLD c := by
  have h := lds_at ⟨c.toNat, c.toNat_lt⟩
  have e : UInt8.ofNat c.toNat = c := UInt8.ofNat_toNat
  rw [e] at h
  exact h
theorem trim_all (l cs : List UInt8) : trimS l cs = [] ↔ l.all (fun x => cs.contains x) = true := by
  unfold trimS
  rw [dropWhile_nil]
  constructor
  · intro h
    rw [List.all_reverse] at h
    cases hd : l.reverse.dropWhile (cs.contains ·) with
    | nil => rw [dropWhile_nil, List.all_reverse] at hd; exact hd
    | cons x r =>
      have h1 := List.head?_dropWhile_not (fun x => cs.contains x) l.reverse
      rw [hd] at h h1
      rw [List.all_cons, Bool.and_eq_true] at h
      have h1 : cs.contains x = false := by simpa using h1
      rw [h.1] at h1
      cases h1
  · intro h
    have : l.reverse.dropWhile (cs.contains ·) = [] := by rw [dropWhile_nil, List.all_reverse]; exact h
    rw [this]
    rfl
theorem name_trim {c : UInt8} {r : List UInt8} (hl : r.length < 16) (hc : ¬ (48 ≤ c.toNat ∧ c.toNat ≤ 57)) : (trimS (c :: r) lds == ([] : List UInt8)) = nameS (c :: r) := by
  have e : nameS (c :: r) = (isLet c && r.all isLD) := by show (decide (r.length < 16) && isLet c && r.all isLD) = _; rw [decide_eq_true hl, Bool.true_and]
  have hcl : isLD c = isLet c := by
    unfold isLD
    have : (decide (48 ≤ c.toNat) && decide (c.toNat ≤ 57)) = false := by rw [Bool.and_eq_false_iff, decide_eq_false_iff_not, decide_eq_false_iff_not]; omega
    rw [this, Bool.or_false]
  rw [e, Bool.eq_iff_iff, beq_iff_eq, trim_all]
  have hf : (fun x => lds.contains x) = isLD := funext lds_eq
  rw [hf, List.all_cons, hcl]
theorem risname_ok (u : List UInt8) : risname_vc u (fun r => r = nameS u) := by
  refine ⟨fun h => ?_, fun h => ?_⟩
  · rw [Bool.or_eq_true, beq_iff_eq, decide_eq_true_eq] at h
    cases u with
    | nil => rfl
    | cons c r =>
      rcases h with h | h
      · cases h
      · rw [List.length_cons] at h
        show false = (decide (r.length < 16) && isLet c && r.all isLD)
        rw [decide_eq_false (by omega)]
        rfl
  · rw [Bool.or_eq_false_iff, decide_eq_false_iff_not] at h
    cases u with
    | nil => simp at h
    | cons c r =>
      have hl : r.length < 16 := by have := h.2; rw [List.length_cons] at this; omega
      have hlen : (0 : Int) ≤ 0 ∧ (0 : Int) < ((c :: r).length : Int) := ⟨by omega, by rw [List.length_cons]; omega⟩
      have hpre : (c :: r).length ≤ 9223372036854775807 ∧ lds.length < 4294967281 ∧ lds.all (fun b => decide (b.toNat < 128)) = true := ⟨by rw [List.length_cons]; omega, by decide, by decide⟩
      refine ⟨hlen, fun q hq => ⟨fun h1 => ⟨hlen, fun v hv => ⟨fun h2 => ?_, fun h2 => ⟨hpre, ?_⟩⟩⟩, fun h1 => ⟨hpre, ?_⟩⟩⟩
      all_goals
        have hq : c = q := by simpa using hq
        subst hq
      · have hv : c = v := by simpa using hv
        subst hv
        have h1 := of_decide_eq_true h1
        have h2 := of_decide_eq_true h2
        have : isLet c = false := by
          unfold isLet
          rw [Bool.or_eq_false_iff, Bool.and_eq_false_iff, Bool.and_eq_false_iff, decide_eq_false_iff_not, decide_eq_false_iff_not, decide_eq_false_iff_not, decide_eq_false_iff_not]
          omega
        show false = (decide (r.length < 16) && isLet c && r.all isLD)
        rw [this, Bool.and_false, Bool.false_and]
      · have hv : c = v := by simpa using hv
        subst hv
        have h2 := of_decide_eq_false h2
        exact name_trim hl (by omega)
      · have h1 := of_decide_eq_false h1
        exact name_trim hl (by omega)

end Go.Proofs.YtdndfbamhnchfaaDoor
