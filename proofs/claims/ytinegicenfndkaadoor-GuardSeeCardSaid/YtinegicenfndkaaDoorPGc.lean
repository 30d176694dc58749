/- What must hold so that each function ends well: pure predicates, made by program. -/
import Derived.Test.YtinegicenfndkaaDoorPGb
set_option linter.unusedVariables false
set_option linter.unusedSimpArgs false
namespace Go.Proofs.YtinegicenfndkaaDoor
open Go.Sy Go.RowKit
def gput_vc (u0 : Int) (u1 : Int) (u2 : List Int) (K : ((List Int) × Int) → Prop) : Prop :=
  (u2.length ≤ 140737488355328 →
    ((((((decide (u0 < 0)) || (decide (u0 > 65535))) || (decide (u1 < 0))) || (decide (u1 ≥ 15))) = true →
      (K (([] : List Int), 3))) ∧
    (((((decide (u0 < 0)) || (decide (u0 > 65535))) || (decide (u1 < 0))) || (decide (u1 ≥ 15))) = false →
      (((decide ((u2.length : Int) < 2)) = true →
        (K (([] : List Int), 7))) ∧
      ((decide ((u2.length : Int) < 2)) = false →
        (((decide ((u2.length : Int) > 64)) = true →
          (K (([] : List Int), 2))) ∧
        ((decide ((u2.length : Int) > 64)) = false →
          ((u2.length ≤ 140737488355328) ∧
          ((bcloneS u2).length ≤ 140737488355328 →
          ((0 ≤ (1 : Int) ∧ (1 : Int) < ((bcloneS u2).length : Int)) ∧
          (∀ q115, (bcloneS u2)[(1 : Int).toNat]? = some q115 →
          ((0 ≤ (1 : Int) ∧ (1 : Int) < ((bcloneS u2).length : Int)) ∧
          (((∀ x ∈ ((bcloneS u2).set (1 : Int).toNat (bOr .u8 (bAnd .u8 q115 240) (w8 u1))), 0 ≤ x ∧ x ≤ 255) ∧ 1 ≤ ((bcloneS u2).set (1 : Int).toNat (bOr .u8 (bAnd .u8 q115 240) (w8 u1))).length ∧ ((bcloneS u2).set (1 : Int).toNat (bOr .u8 (bAnd .u8 q115 240) (w8 u1))).length ≤ 1000000) ∧
          ((0 ≤ (0 : Int) ∧ (0 : Int) < (((bcloneS u2).set (1 : Int).toNat (bOr .u8 (bAnd .u8 q115 240) (w8 u1))).length : Int)) ∧
          (K (((bcloneS u2).set (1 : Int).toNat (bOr .u8 (bAnd .u8 q115 240) (w8 u1))).set (0 : Int).toNat (gsumS u0 ((bcloneS u2).set (1 : Int).toNat (bOr .u8 (bAnd .u8 q115 240) (w8 u1)))), 0))))))))))))))))

def gbad_vc (u0 : Guard) (K : (Guard × Int × Guard) → Prop) : Prop :=
  (K ((⟨u0.Key, u0.Last, min (w64 (u0.Bad + 1)) 1000000, 4⟩ : Guard), 0, (⟨u0.Key, u0.Last, min (w64 (u0.Bad + 1)) 1000000, 4⟩ : Guard)))

/-! Pure proofs: no program in sight. -/
def gbadS (g : Guard) : Guard × Int × Guard := (⟨g.Key, g.Last, min (w64 (g.Bad + 1)) 1000000, 4⟩, 0, ⟨g.Key, g.Last, min (w64 (g.Bad + 1)) 1000000, 4⟩)
theorem gbad_ok (g : Guard) : gbad_vc g (fun r => r = gbadS g) := rfl
def gcnt (d : List Int) (c : Int) : List Int := d.set 1 (bOr .u8 (bAnd .u8 (d.getD 1 0) 240) (w8 c))
def gputS (key c : Int) (d : List Int) : List Int × Int :=
  if key < 0 ∨ 65535 < key ∨ c < 0 ∨ 15 ≤ c then ([], 3) else if d.length < 2 then ([], 7) else if 64 < d.length then ([], 2) else ((gcnt d c).set 0 (gsumS key (gcnt d c)), 0)
theorem orand : ∀ (x : Fin 256) (c : Fin 16), 0 ≤ bOr .u8 (bAnd .u8 ((x.val : Nat) : Int) 240) ((c.val : Nat) : Int) ∧ bOr .u8 (bAnd .u8 ((x.val : Nat) : Int) 240) ((c.val : Nat) : Int) ≤ 255 ∧ bAnd .u8 (bOr .u8 (bAnd .u8 ((x.val : Nat) : Int) 240) ((c.val : Nat) : Int)) 15 = ((c.val : Nat) : Int) := by decide +kernel
theorem gcnt_bytes (d : List Int) (c : Int) (h : ∀ x ∈ d, 0 ≤ x ∧ x ≤ 255) (hc : 0 ≤ c ∧ c < 15) (hl : 2 ≤ d.length) : (∀ x ∈ gcnt d c, 0 ≤ x ∧ x ≤ 255) ∧ (gcnt d c).length = d.length ∧ bAnd .u8 ((gcnt d c).getD 1 0) 15 = c := by
  have h1 : ∃ x : Nat, d.getD 1 0 = x ∧ x < 256 := by
    have : d[1]? = some d[1] := List.getElem?_eq_getElem (by omega)
    have hm := h d[1] (List.mem_of_getElem? this)
    refine ⟨d[1].toNat, ?_, by omega⟩
    rw [List.getD_eq_getElem?_getD, this]
    simp
    omega
  obtain ⟨x, hx, hx2⟩ := h1
  obtain ⟨m, rfl⟩ : ∃ m : Nat, c = m := ⟨c.toNat, by omega⟩
  have hm : m < 16 := by omega
  have key := orand ⟨x, hx2⟩ ⟨m, hm⟩
  have e8 : w8 ((m : Nat) : Int) = m := w8_eq _ (by omega)
  unfold gcnt
  rw [hx, e8]
  refine ⟨fun y hy => ?_, by simp, ?_⟩
  · rcases List.mem_or_eq_of_mem_set hy with hy | rfl
    · exact h y hy
    · exact ⟨key.1, key.2.1⟩
  · rw [List.getD_eq_getElem?_getD, List.getElem?_set]
    simp only [if_true, show 1 < d.length by omega, Option.getD_some]
    exact key.2.2
theorem gput_ok (key c : Int) (d : List Int) (h : ∀ x ∈ d, 0 ≤ x ∧ x ≤ 255) : gput_vc key c d (fun r => r = gputS key c d) := by
  intro hl
  refine ⟨fun h1 => ?_, fun h1 => ⟨fun h2 => ?_, fun h2 => ⟨fun h3 => ?_, fun h3 => ?_⟩⟩⟩
  · have h1 : key < 0 ∨ 65535 < key ∨ c < 0 ∨ 15 ≤ c := by simpa [or_assoc] using h1
    unfold gputS
    rw [if_pos h1]
  all_goals
    have h1' : ¬ (key < 0 ∨ 65535 < key ∨ c < 0 ∨ 15 ≤ c) := by
      simp only [Bool.or_eq_false_iff, decide_eq_false_iff_not] at h1
      omega
  · unfold gputS
    rw [if_neg h1', if_pos (by simp at h2; omega)]
  · unfold gputS
    rw [if_neg h1', if_neg (by simp at h2; omega), if_pos (by simp at h3; omega)]
  · have hS : gputS key c d = ((gcnt d c).set 0 (gsumS key (gcnt d c)), 0) := by
      unfold gputS
      rw [if_neg h1', if_neg (by simp at h2; omega), if_neg (by simp at h3; omega)]
    rw [hS]
    have hl2 : 2 ≤ d.length ∧ d.length ≤ 64 := by simp at h2 h3; omega
    refine ⟨by omega, fun _ => ⟨by unfold bcloneS; omega, fun q hq => ?_⟩⟩
    have hg : (bcloneS d).set (1 : Int).toNat (bOr .u8 (bAnd .u8 q 240) (w8 c)) = gcnt d c := by
      unfold gcnt bcloneS
      have e : d.getD 1 0 = q := by
        rw [List.getD_eq_getElem?_getD]
        have hq : d[1]? = some q := hq
        rw [hq]; rfl
      rw [e]
      rfl
    rw [hg]
    obtain ⟨b1, b2, b3⟩ := gcnt_bytes d c h (by omega) hl2.1
    refine ⟨by unfold bcloneS; omega, ⟨b1, by omega, by omega⟩, by omega, rfl⟩

end Go.Proofs.YtinegicenfndkaaDoor
