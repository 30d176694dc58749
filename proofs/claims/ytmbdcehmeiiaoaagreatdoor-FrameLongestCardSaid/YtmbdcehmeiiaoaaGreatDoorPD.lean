/- What must hold so that each function ends well: pure predicates, made by program. -/
import Derived.Test.YtmbdcehmeiiaoaaGreatDoorPC
set_option linter.unusedVariables false
set_option linter.unusedSimpArgs false
namespace Go.Proofs.YtmbdcehmeiiaoaaGreatDoor
open Go.Sy Go.RowKit
def rwant_vc (u0 : FReader) (u1 : List UInt8) (K : FReader → Prop) : Prop :=
  (u0.f.Data.length ≤ 140737488355328 →
    ((Rok u0.Reader ∧ (1 : Int) ≤ 9223372036854775807) ∧
    (∀ r19, (rtakeFS u0 1) = r19 →
    (r19.2.f.Data.length ≤ 140737488355328 →
    ((((r19.2.Reader.Code == 0) && (r19.1 != u1)) = true →
      (∀ r66, (rfailS r19.2 4) = r66 →
      (r66.f.Data.length ≤ 140737488355328 →
      (K r66)))) ∧
    (((r19.2.Reader.Code == 0) && (r19.1 != u1)) = false →
      (K r19.2)))))))

def rnumber_vc (u0 : FReader) (u1 : Int) (K : (Int × FReader) → Prop) : Prop :=
  (u0.f.Data.length ≤ 140737488355328 →
    ((Rok u0.Reader ∧ u1 ≤ 9223372036854775807) ∧
    (∀ r24, (rtakeFS u0 u1) = r24 →
    (r24.2.f.Data.length ≤ 140737488355328 →
    (((r24.2.Reader.Code != 0) = true →
      (K (0, r24.2))) ∧
    ((r24.2.Reader.Code != 0) = false →
      ((r24.1.length ≤ 62 ∧ isRow r24.1 = true) ∧
      (K (w64 (breadS r24.1), r24.2)))))))))

/-! Pure proofs: no program in sight. -/
def rwantS (r : FReader) (b : List UInt8) : FReader := if (rtakeFS r 1).2.Reader.Code = 0 ∧ (rtakeFS r 1).1 ≠ b then rfailS (rtakeFS r 1).2 4 else (rtakeFS r 1).2
theorem rwant_ok (r : FReader) (b : List UInt8) (h : Rok r.Reader) : rwant_vc r b (fun q => q = rwantS r b) := by
  intro hl
  refine ⟨⟨h, by decide⟩, ?_⟩
  rintro q rfl _
  refine ⟨fun h1 => ?_, fun h1 => ?_⟩
  · rintro s rfl _
    unfold rwantS
    rw [if_pos (by simpa using h1)]
  · unfold rwantS
    rw [if_neg]
    intro hc
    have : (((rtakeFS r 1).2.Reader.Code == 0) && ((rtakeFS r 1).1 != b)) = true := by simpa using hc
    rw [this] at h1
    cases h1
theorem rwantS_f (r : FReader) (b : List UInt8) : (rwantS r b).f = r.f := by
  unfold rwantS
  split
  · rw [rfailS_f]; rfl
  · rfl
theorem rwantS_Rok {r : FReader} {b : List UInt8} (h : Rok r.Reader) : Rok (rwantS r b).Reader := by
  have h1 := (rtakeS_Rok 1 h).1
  unfold rwantS
  split
  · exact rfailS_Rok h1
  · exact h1
def rnumberS (r : FReader) (n : Int) : Int × FReader := if (rtakeFS r n).2.Reader.Code ≠ 0 then (0, (rtakeFS r n).2) else ((val (rtakeFS r n).1 : Int), (rtakeFS r n).2)
theorem rnumber_ok (r : FReader) (n : Int) (h : Rok r.Reader ∧ 0 ≤ n ∧ n ≤ 62) : rnumber_vc r n (fun q => q = rnumberS r n) := by
  intro hl
  refine ⟨⟨h.1, by omega⟩, ?_⟩
  rintro q rfl _
  obtain ⟨k1, k2, _⟩ := rtakeS_row (n := n) h.1
  refine ⟨fun h1 => ?_, fun h1 => ⟨⟨by show (rtakeS r.Reader n).1.length ≤ 62; omega, k1⟩, ?_⟩⟩
  · unfold rnumberS
    rw [if_pos (by simpa using h1)]
  · unfold rnumberS
    rw [if_neg (by simpa using h1)]
    have hv := val_lt k1
    have hp : 2 ^ (rtakeS r.Reader n).1.length ≤ 2 ^ 62 := Nat.pow_le_pow_right (by omega) (by omega)
    have p62 : (2 : Nat) ^ 62 = 4611686018427387904 := rfl
    have e : breadS (rtakeFS r n).1 = ((val (rtakeS r.Reader n).1 : Nat) : Int) := rfl
    rw [e, w64_eq _ (by omega)]
    rfl
theorem rnumberS_f (r : FReader) (n : Int) : (rnumberS r n).2.f = r.f := by unfold rnumberS; split <;> rfl
theorem rnumberS_Rok {r : FReader} {n : Int} (h : Rok r.Reader) : Rok (rnumberS r n).2.Reader := by
  have h1 := (rtakeS_Rok n h).1
  unfold rnumberS
  split <;> exact h1
theorem rnumberS_bound {r : FReader} {n : Nat} (h : Rok r.Reader) : 0 ≤ (rnumberS r n).1 ∧ (rnumberS r n).1 < 2 ^ n := by
  obtain ⟨k1, k2, _⟩ := rtakeS_row (n := (n : Int)) h
  have hv := val_lt k1
  have hp : 2 ^ (rtakeS r.Reader n).1.length ≤ 2 ^ n := Nat.pow_le_pow_right (by omega) (by rw [Int.toNat_natCast] at k2; exact k2)
  unfold rnumberS
  split
  · exact ⟨Int.le_refl _, Int.pow_pos (by decide)⟩
  · have e : ((val (rtakeFS r n).1 : Nat) : Int) = ((val (rtakeS r.Reader n).1 : Nat) : Int) := rfl
    dsimp only
    rw [e]
    refine ⟨by omega, ?_⟩
    have : ((val (rtakeS r.Reader n).1 : Nat) : Int) < ((2 ^ n : Nat) : Int) := by omega
    exact_mod_cast this

end Go.Proofs.YtmbdcehmeiiaoaaGreatDoor
