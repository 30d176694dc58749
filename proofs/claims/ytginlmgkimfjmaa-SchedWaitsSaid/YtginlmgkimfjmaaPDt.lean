/- What must hold so that each function ends well: pure predicates, made by program. -/
import Derived.Test.YtginlmgkimfjmaaPDs
set_option linter.unusedVariables false
set_option linter.unusedSimpArgs false
namespace Go.Proofs.Ytginlmgkimfjmaa
open Go.Sy Go.RowKit
def chkT_vc (u0 : List Task) (K : Int → Prop) : Prop :=
  (u0.length ≤ 140737488355328 →
    (((decide ((u0.length : Int) > 20)) = true →
      (K 2)) ∧
    ((decide ((u0.length : Int) > 20)) = false →
      (∃ inv32 : Int → Prop, ∃ mu32 : Int → Nat, inv32 0 ∧
      (∀ (x11 : Int), inv32 x11 →
      (((decide (x11 < (u0.length : Int))) = true →
        (∃ inv51 : Prop,
        ((0 ≤ x11 ∧ x11 < (u0.length : Int)) ∧
        (∀ q77, u0[x11.toNat]? = some q77 →
        (((((((!(ctin q77.ID 0 2047)) || (!(ctin q77.Every 1 1000000))) || (!(ctin q77.Late 0 1000000))) || (!(ctin q77.Jitter 0 (w64 (q77.Every - 1))))) || (!(ctin q77.Bytes 0 8))) = true →
          (K 3)) ∧
        ((((((!(ctin q77.ID 0 2047)) || (!(ctin q77.Every 1 1000000))) || (!(ctin q77.Late 0 1000000))) || (!(ctin q77.Jitter 0 (w64 (q77.Every - 1))))) || (!(ctin q77.Bytes 0 8))) = false →
          (((decide (x11 > 0)) = true →
            ((0 ≤ w64 (x11 - 1) ∧ w64 (x11 - 1) < (u0.length : Int)) ∧
            (∀ q226, u0[(w64 (x11 - 1)).toNat]? = some q226 →
            (((decide (q77.ID ≤ q226.ID)) = true →
              (K 4)) ∧
            ((decide (q77.ID ≤ q226.ID)) = false →
              inv51))))) ∧
          ((decide (x11 > 0)) = false →
            inv51)))))) ∧
        (inv51 →
          (inv32 (w64 (x11 + 1)) ∧ mu32 (w64 (x11 + 1)) < mu32 x11)))) ∧
      ((decide (x11 < (u0.length : Int))) = false →
        (K 0))))))))

def played_vc  (K : Bool → Prop) : Prop :=
  (tasksS.length ≤ 140737488355328 →
    (((playS tasksS ([5, 5] : List Int) [] 100).1).length ≤ 140737488355328 →
    (((((playS tasksS ([5, 5] : List Int) [] 100).2) == 0) = true →
      (K (sleqS ((playS tasksS ([5, 5] : List Int) [] 100).1) ([(⟨0, 5, 5, 140⟩ : Slot), (⟨1, 5, 140, 275⟩ : Slot)] : List Slot)))) ∧
    ((((playS tasksS ([5, 5] : List Int) [] 100).2) == 0) = false →
      (K false)))))

/-! Pure proofs: no program in sight. -/
theorem played_ok : played_vc (fun r => r = true) := by
  intro _ _
  refine ⟨fun _ => ?_, fun h => ?_⟩
  · show sleqS _ _ = true
    decide +kernel
  · have e : ((playS tasksS ([5, 5] : List Int) [] 100).2 == 0) = true := by decide +kernel
    rw [e] at h
    cases h
theorem tok_in (q : Task) (h : ((((((!(ctin q.ID 0 2047)) || (!(ctin q.Every 1 1000000))) || (!(ctin q.Late 0 1000000))) || (!(ctin q.Jitter 0 (w64 (q.Every - 1))))) || (!(ctin q.Bytes 0 8))) = false)) : tok q = true := by
  simp only [ctin, Bool.or_eq_false_iff, Bool.not_eq_false', Bool.and_eq_true, decide_eq_true_eq] at h
  obtain ⟨⟨⟨⟨h1, h2⟩, h3⟩, h4⟩, h5⟩ := h
  rw [w64_eq _ (by omega)] at h4
  simp only [tok, Bool.and_eq_true, decide_eq_true_eq]
  omega
theorem tok_out (q : Task) (h : ((((((!(ctin q.ID 0 2047)) || (!(ctin q.Every 1 1000000))) || (!(ctin q.Late 0 1000000))) || (!(ctin q.Jitter 0 (w64 (q.Every - 1))))) || (!(ctin q.Bytes 0 8))) = true)) : tok q = false := by
  cases ht : tok q
  · rfl
  · have hs := tok_spec ht
    have e : w64 (q.Every - 1) = q.Every - 1 := w64_eq _ (by omega)
    have : ((((((!(ctin q.ID 0 2047)) || (!(ctin q.Every 1 1000000))) || (!(ctin q.Late 0 1000000))) || (!(ctin q.Jitter 0 (w64 (q.Every - 1))))) || (!(ctin q.Bytes 0 8))) = false) := by
      rw [e]
      simp only [ctin, Bool.or_eq_false_iff, Bool.not_eq_false', Bool.and_eq_true, decide_eq_true_eq]
      omega
    rw [h] at this
    cases this
theorem chkT_ok (l : List Task) : chkT_vc l (fun r => r = dcheckS l) := by
  intro _
  refine ⟨fun h => ?_, fun h => ?_⟩
  · unfold dcheckS
    rw [if_pos (by have := of_decide_eq_true h; omega)]
  · have hn : ¬ 20 < l.length := by have := of_decide_eq_false h; omega
    have hS : dcheckS l = dchk (-1) l := by unfold dcheckS; rw [if_neg hn]
    rw [hS]
    refine ⟨fun i => ∃ (k : Nat) (last : Int), i = k ∧ k ≤ l.length ∧ (k = 0 → last = -1) ∧ (∀ p, 0 < k → l[k - 1]? = some p → last = p.ID) ∧ dchk last (l.drop k) = dchk (-1) l, fun i => l.length - i.toNat, ⟨0, -1, rfl, by omega, fun _ => rfl, fun _ h => absurd h (Nat.lt_irrefl _), rfl⟩, ?_⟩
    rintro _ ⟨k, last, rfl, hk, h0, hp, hd⟩
    refine ⟨fun h1 => ?_, fun h1 => ?_⟩
    · have hkl : k < l.length := by have := of_decide_eq_true h1; omega
      refine ⟨∃ last : Int, (∀ p, l[k]? = some p → last = p.ID) ∧ dchk last (l.drop (k + 1)) = dchk (-1) l, ⟨by omega, fun q hq => ?_⟩, ?_⟩
      · rw [Int.toNat_natCast] at hq
        rw [drop_this l k q hq, dchk] at hd
        refine ⟨fun h2 => ?_, fun h2 => ?_⟩
        · rw [if_pos (tok_out q h2)] at hd
          exact hd
        · have ht := tok_in q h2
          rw [if_neg (by rw [ht]; simp)] at hd
          have hs := tok_spec ht
          have hfin : ¬ q.ID ≤ last → ∃ last : Int, (∀ p, l[k]? = some p → last = p.ID) ∧ dchk last (l.drop (k + 1)) = dchk (-1) l := fun hc => by
            rw [if_neg hc] at hd
            exact ⟨q.ID, fun p hp => by rw [hq] at hp; cases hp; rfl, hd⟩
          refine ⟨fun h3 => ?_, fun h3 => ?_⟩
          · have h3 : 0 < k := by have := of_decide_eq_true h3; omega
            rw [w64_eq _ (by omega)]
            refine ⟨by omega, fun p hpp => ?_⟩
            have e : ((k : Int) - 1).toNat = k - 1 := by omega
            rw [e] at hpp
            have hl := hp p h3 hpp
            refine ⟨fun h4 => ?_, fun h4 => ?_⟩
            · rw [if_pos (by have := of_decide_eq_true h4; omega)] at hd
              exact hd
            · exact hfin (by have := of_decide_eq_false h4; omega)
          · have h3 : k = 0 := by have := of_decide_eq_false h3; omega
            have hl := h0 h3
            exact hfin (by omega)
      · rintro ⟨last2, h2, h3⟩
        rw [w64_succ k (by omega)]
        exact ⟨⟨k + 1, last2, rfl, by omega, fun h => by omega, fun p _ hp => h2 p hp, h3⟩, by (try dsimp only); omega⟩
    · have hkl : k = l.length := by have := of_decide_eq_false h1; omega
      subst hkl
      rw [List.drop_eq_nil_of_le (Nat.le_refl _), dchk] at hd
      exact hd

end Go.Proofs.Ytginlmgkimfjmaa
