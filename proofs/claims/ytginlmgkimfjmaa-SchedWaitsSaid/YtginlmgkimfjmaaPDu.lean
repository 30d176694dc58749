/- What must hold so that each function ends well: pure predicates, made by program. -/
import Derived.Test.YtginlmgkimfjmaaPDt
set_option linter.unusedVariables false
set_option linter.unusedSimpArgs false
namespace Go.Proofs.Ytginlmgkimfjmaa
open Go.Sy Go.RowKit
def LWaits_vc (u0 : List Task) (u1 : List Slot) (K : Bool → Prop) : Prop :=
  (u0.length ≤ 140737488355328 →
    (u1.length ≤ 140737488355328 →
    ((u0.length * 8 ≤ 140737488355328) ∧
    (((swaitsS u0 u1).1).length ≤ 140737488355328 →
    ((0 ≤ (u0.length : Int) ∧ (u0.length : Int) ≤ (u0.length : Int) ∧ (u0.length : Int) * 8 ≤ 140737488355328) ∧
    (∃ inv72 : Int → Int → (List Int) → Prop, ∃ mu72 : Int → Int → (List Int) → Nat, inv72 (dcheckS u0) 0 (List.replicate (u0.length : Int).toNat (0 : Int)) ∧
    (∀ (x7 : Int) (x24 : Int) (zg550 : List Int), inv72 x7 x24 zg550 →
    (((decide (x24 < (u1.length : Int))) = true →
      (∃ inv91 : Int → (List Int) → Prop,
      ((0 ≤ x24 ∧ x24 < (u1.length : Int)) ∧
      (∀ q115, u1[x24.toNat]? = some q115 →
      ((((x7 == 0) && ((((decide (q115.Task < 0)) || (decide (q115.Task ≥ (u0.length : Int)))) || (decide (q115.Asked < 0))) || (decide (q115.End > 10000000)))) = true →
        (inv91 3 zg550)) ∧
      (((x7 == 0) && ((((decide (q115.Task < 0)) || (decide (q115.Task ≥ (u0.length : Int)))) || (decide (q115.Asked < 0))) || (decide (q115.End > 10000000)))) = false →
        (((x7 == 0) = true →
          ((0 ≤ q115.Task ∧ q115.Task < (zg550.length : Int)) ∧
          (∀ qd7_0, zg550[q115.Task.toNat]? = some qd7_0 →
          ((0 ≤ q115.Task ∧ q115.Task < (zg550.length : Int)) ∧
          (inv91 x7 (zg550.set q115.Task.toNat (max qd7_0 (w64 (q115.End - q115.Asked))))))))) ∧
        ((x7 == 0) = false →
          (inv91 x7 zg550))))))) ∧
      (∀ (x7v : Int) (zg550v : List Int), inv91 x7v zg550v →
        (inv72 x7v (w64 (x24 + 1)) zg550v ∧ mu72 x7v (w64 (x24 + 1)) zg550v < mu72 x7 x24 zg550)))) ∧
    ((decide (x24 < (u1.length : Int))) = false →
      (((x7 != 0) = true →
        (K ((((swaitsS u0 u1).2) == x7) && ((((swaitsS u0 u1).1).length : Int) == 0)))) ∧
      ((x7 != 0) = false →
        (K ((((swaitsS u0 u1).2) == 0) && (ieqS ((swaitsS u0 u1).1) zg550))))))))))))))

/-! Pure proofs: no program in sight. -/
theorem LWaits_ok (l : List Task) (s : List Slot) (k0 : (∀ y0 ∈ l, okTask y0) ∧ l.length * 40 ≤ lim) (k1 : (∀ y0 ∈ s, okSlot y0) ∧ s.length * 32 ≤ lim) : LWaits_vc l s (fun r => r = true) := by
  have hb : l.length * 40 ≤ 140737488355328 := k0.2
  intro _ _
  refine ⟨by omega, fun _ => ⟨by omega, ?_⟩⟩
  rw [Int.toNat_natCast]
  refine ⟨fun x i z => ∃ k : Nat, i = k ∧ k ≤ s.length ∧ z.length = l.length ∧ ((dcheckS l ≠ 0 ∧ x = dcheckS l) ∨ (dcheckS l = 0 ∧ ((x = 0 ∧ waitF (l.length : Int) (s.drop k) z = waitF (l.length : Int) s (List.replicate l.length 0)) ∨ (x = 3 ∧ waitF (l.length : Int) s (List.replicate l.length 0) = none)))), fun _ i _ => s.length - i.toNat, ⟨0, rfl, by omega, by simp, ?_⟩, ?_⟩
  · by_cases e : dcheckS l = 0
    · exact .inr ⟨e, .inl ⟨e, rfl⟩⟩
    · exact .inl ⟨e, rfl⟩
  rintro x _ z ⟨k, rfl, hk, hz, hx⟩
  refine ⟨fun h1 => ?_, fun h1 => ?_⟩
  · have hks : k < s.length := by have := of_decide_eq_true h1; omega
    refine ⟨fun x' z' => z'.length = l.length ∧ ((dcheckS l ≠ 0 ∧ x' = dcheckS l) ∨ (dcheckS l = 0 ∧ ((x' = 0 ∧ waitF (l.length : Int) (s.drop (k + 1)) z' = waitF (l.length : Int) s (List.replicate l.length 0)) ∨ (x' = 3 ∧ waitF (l.length : Int) s (List.replicate l.length 0) = none)))), ⟨by omega, fun q hq => ?_⟩, ?_⟩
    · rw [Int.toNat_natCast] at hq
      rw [drop_this s k q hq, waitF] at hx
      refine ⟨fun h2 => ?_, fun h2 => ⟨fun h3 => ?_, fun h3 => ?_⟩⟩
      · rw [Bool.and_eq_true, beq_iff_eq] at h2
        obtain ⟨rfl, h2⟩ := h2
        have h2 : sbad (l.length : Int) q = true := h2
        rcases hx with ⟨e1, e2⟩ | ⟨e1, ⟨_, e2⟩ | ⟨e2, _⟩⟩
        · exact absurd e2.symm e1
        · rw [if_pos h2] at e2
          exact ⟨hz, .inr ⟨e1, .inr ⟨rfl, e2.symm⟩⟩⟩
        · cases e2
      · have hx0 : x = 0 := by simpa using h3
        subst hx0
        have h2 : sbad (l.length : Int) q = false := h2
        obtain ⟨b1, b2, b3, b4⟩ := sbad_false h2
        refine ⟨by omega, fun v hv => ⟨by omega, ?_⟩⟩
        refine ⟨by rw [List.length_set]; exact hz, ?_⟩
        rcases hx with ⟨e1, e2⟩ | ⟨e1, ⟨_, e2⟩ | ⟨e2, _⟩⟩
        · exact absurd e2.symm e1
        · rw [if_neg (by rw [h2]; simp), hv, Option.getD_some] at e2
          exact .inr ⟨e1, .inl ⟨rfl, e2⟩⟩
        · cases e2
      · have hx0 : x ≠ 0 := by simpa using h3
        refine ⟨hz, ?_⟩
        rcases hx with h | ⟨e1, ⟨e2, _⟩ | e2⟩
        · exact .inl h
        · exact absurd e2 hx0
        · exact .inr ⟨e1, .inr e2⟩
    · rintro x' z' ⟨h2, h3⟩
      rw [w64_succ k (by omega)]
      exact ⟨⟨k + 1, rfl, by omega, h2, h3⟩, by (try dsimp only); omega⟩
  · have hks : k = s.length := by have := of_decide_eq_false h1; omega
    subst hks
    rw [List.drop_eq_nil_of_le (Nat.le_refl _), waitF] at hx
    unfold swaitsS
    refine ⟨fun h2 => ?_, fun h2 => ?_⟩
    · have h2 : x ≠ 0 := by simpa using h2
      rcases hx with ⟨e1, e2⟩ | ⟨e1, ⟨e2, _⟩ | ⟨e2, e3⟩⟩
      · rw [if_pos e1, e2]
        simp
      · exact absurd e2 h2
      · rw [if_neg (fun h => h e1), e3, e2]
        rfl
    · have h2 : x = 0 := by simpa using h2
      rcases hx with ⟨e1, e2⟩ | ⟨e1, ⟨_, e2⟩ | ⟨e2, _⟩⟩
      · rw [h2] at e2
        exact absurd e2.symm e1
      · rw [if_neg (fun h => h e1), ← e2]
        show ((0 : Int) == 0 && ieqS z z) = true
        simp [ieqS]
      · rw [h2] at e2
        cases e2

end Go.Proofs.Ytginlmgkimfjmaa
