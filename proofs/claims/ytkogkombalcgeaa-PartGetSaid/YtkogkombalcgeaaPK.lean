/- Pure proofs: no program in sight. -/
import Derived.Test.YtkogkombalcgeaaVK
set_option linter.unusedVariables false
set_option linter.unusedSimpArgs false
namespace Go.Proofs.Ytkogkombalcgeaa
open Go.Sy Go.RowKit
theorem eq_rows {α : Type} [DecidableEq α] (a b : List α) (hl : a.length = b.length) (h : ∀ j, j < a.length → a[j]? = b[j]?) : a = b := by
  refine List.ext_getElem? fun j => ?_
  rcases Nat.lt_or_ge j a.length with h1 | h1
  · exact h j h1
  · rw [List.getElem?_eq_none h1, List.getElem?_eq_none (by omega)]
theorem take_next {α : Type} (l : List α) (k : Nat) (q : α) (hq : l[k]? = some q) : l.take (k + 1) = l.take k ++ [q] := by rw [List.take_add_one, hq]; rfl
def beqS (a b : List Int) : Bool := decide (a = b)
theorem beq_ok (a b : List Int) : beq_vc a b (fun r => r = beqS a b) := by
  intro ha hb
  refine ⟨fun h => ?_, fun h => ?_⟩
  · have : a.length ≠ b.length := by simp at h; omega
    exact (decide_eq_false (fun e => this (by rw [e]))).symm
  · have hl : a.length = b.length := by simp at h; omega
    refine rg0 ha (fun k => ∀ j, j < k → a[j]? = b[j]?) (fun j h => absurd h (Nat.not_lt_zero _)) ?_ ?_
    · intro k q hk hq hj inv mu hn
      refine ⟨by omega, fun q2 hq2 => ⟨fun h1 => ?_, fun h1 => hn fun j hj1 => ?_⟩⟩
      · simp only [Int.toNat_natCast] at hq2
        refine (decide_eq_false fun e => ?_).symm
        subst e
        rw [hq] at hq2
        simp_all
      · simp only [Int.toNat_natCast] at hq2
        rcases Nat.lt_or_ge j k with h2 | h2
        · exact hj j h2
        · have : j = k := by omega
          subst this
          rw [hq, hq2]
          simp at h1
          rw [h1]
    · intro hj
      exact (decide_eq_true (eq_rows a b hl hj)).symm
def bcloneS (l : List Int) : List Int := l
theorem bclone_ok (l : List Int) (h : l.length ≤ 1000000) : bclone_vc l (fun r => r = bcloneS l) := by
  intro _ nb hnb
  refine ⟨fun h1 => ?_, fun _ => ⟨by simp; omega, by simp [bcloneS]⟩⟩
  by_cases e : l = []
  · rw [e]; rfl
  · rw [hnb e] at h1; cases h1
def prowS (rest first : List Int) : List Int := first ++ rest
theorem prow_ok (rest first : List Int) (h : rest.length ≤ 1000000 ∧ first.length ≤ 1000000) : prow_vc rest first (fun r => r = prowS rest first) := fun _ _ => ⟨by omega, rfl⟩
def bgrowS (_n : Int) : List Int := []
theorem bgrow_ok (u1 : Int) (h : 0 ≤ u1 ∧ u1 ≤ 4000000) : bgrow_vc u1 (fun r => r = bgrowS u1) := by
  have e : w64 (u1 - 0) = u1 := by rw [w64_eq _ (by omega)]; omega
  refine ⟨fun h1 => by simp at h1; omega, fun _ => ?_⟩
  rw [e]
  refine ⟨fun h2 => ⟨by omega, ⟨by omega, by omega⟩, rfl⟩, fun _ => rfl⟩
theorem tmod_nn (a b : Int) (h : 0 ≤ a) : a.tmod b = a % b := Int.tmod_eq_emod_of_nonneg h
theorem tdiv_nn (a b : Int) (h : 0 ≤ a) : a.tdiv b = a / b := Int.tdiv_eq_ediv_of_nonneg h
/-- The range test of a sender. -/
def SRange (s : Sender) : Prop := s.Data.length = 0 ∨ s.At < 0 ∨ s.At > s.Data.length ∨ s.Left < -1 ∨ s.Left > 255 ∨ s.Next < 0 ∨ s.Next > 15
theorem srange_iff (s : Sender) : (((((((((s.Data.length : Int) == 0) || (decide (s.At < 0))) || (decide (s.At > (s.Data.length : Int)))) || (decide (s.Left < (-1)))) || (decide (s.Left > 255))) || (decide (s.Next < 0))) || (decide (s.Next > 15))) = true) ↔ SRange s := by
  unfold SRange
  simp only [Bool.or_eq_true, decide_eq_true_eq, beq_iff_eq]
  omega
theorem pchecks_long (s : Sender) (h1 : s.Data.length ≤ 300) (h2 : ¬ SRange s) (h7 : 7 < s.Data.length) :
    pchecks s = if s.Done ≠ decide (s.At = s.Data.length) ∨ (s.Done = true ∧ s.Left ≠ 0) then 4 else if s.At < 6 ∨ (s.Done = false ∧ (s.At - 6) % 7 ≠ 0) then 4 else if s.Next ≠ (s.At / 7 + 1) % 16 then 4 else 0 := by
  have hr : (((((((((s.Data.length : Int) == 0) || (decide (s.At < 0))) || (decide (s.At > (s.Data.length : Int)))) || (decide (s.Left < (-1)))) || (decide (s.Left > 255))) || (decide (s.Next < 0))) || (decide (s.Next > 15))) = false) := by
    rw [Bool.eq_false_iff]
    exact fun h => h2 ((srange_iff s).1 h)
  unfold SRange at h2
  unfold pchecks
  rw [hr]
  have e0 : decide ((s.Data.length : Int) > 300) = false := by simp; omega
  have e7 : decide ((s.Data.length : Int) > 7) = true := by simp; omega
  have e8 : decide ((s.Data.length : Int) ≤ 7) = false := by simp; omega
  rw [e0, e7, e8]
  simp only [cond_false, Bool.true_and, Bool.false_and, Bool.or_false]
  have ea : (s.At == (s.Data.length : Int)) = decide (s.At = s.Data.length) := by rw [Bool.eq_iff_iff]; simp
  rw [ea, w64_eq (s.At - 6) (by omega)]
  have eb : w64 (s.At - 6 + 6) = s.At := by rw [w64_eq _ (by omega)]; omega
  rw [eb, tdiv_nn _ _ (by omega)]
  have ec : w64 (w64 (s.At / 7) + 1) = s.At / 7 + 1 := by rw [w64_eq (s.At / 7) (by omega), w64_eq _ (by omega)]
  rw [ec, tmod_nn (s.At / 7 + 1) _ (by omega)]
  by_cases hA : s.At < 6
  · have hA2 : decide (s.At < 6) = true := by simpa using hA
    rw [hA2]
    simp only [Bool.true_or, cond_true, hA, true_or, if_true]
    generalize decide (s.At = (s.Data.length : Int)) = d
    cases s.Done <;> cases d <;> simp [cond_eq_ite]
  · have hA2 : decide (s.At < 6) = false := by simpa using hA
    rw [hA2, tmod_nn _ _ (by omega)]
    simp only [Bool.false_or, hA, false_or, cond_eq_ite]
    generalize decide (s.At = (s.Data.length : Int)) = d
    cases s.Done <;> cases d <;> simp
theorem pchecks_short (s : Sender) (h2 : ¬ SRange s) (h7 : s.Data.length ≤ 7) :
    pchecks s = if s.Done ≠ decide (s.At = s.Data.length) ∨ (s.Done = true ∧ s.Left ≠ 0) then 4 else if s.Done = false then 4 else if s.Next ≠ 1 then 4 else 0 := by
  have hr : (((((((((s.Data.length : Int) == 0) || (decide (s.At < 0))) || (decide (s.At > (s.Data.length : Int)))) || (decide (s.Left < (-1)))) || (decide (s.Left > 255))) || (decide (s.Next < 0))) || (decide (s.Next > 15))) = false) := by
    rw [Bool.eq_false_iff]
    exact fun h => h2 ((srange_iff s).1 h)
  unfold pchecks
  rw [hr]
  have e0 : decide ((s.Data.length : Int) > 300) = false := by simp; omega
  have e7 : decide ((s.Data.length : Int) > 7) = false := by simp; omega
  have e8 : decide ((s.Data.length : Int) ≤ 7) = true := by simp; omega
  rw [e0, e7, e8]
  have ea : (s.At == (s.Data.length : Int)) = decide (s.At = s.Data.length) := by rw [Bool.eq_iff_iff]; simp
  rw [ea]
  simp only [cond_false, Bool.true_and, Bool.false_and, Bool.false_or, cond_eq_ite]
  generalize decide (s.At = (s.Data.length : Int)) = d
  cases s.Done <;> cases d <;> simp
theorem pchecks_many (s : Sender) (h : 300 < s.Data.length) : pchecks s = 2 := by
  unfold pchecks
  have e0 : decide ((s.Data.length : Int) > 300) = true := by simp; omega
  rw [e0]; rfl
theorem pchecks_range (s : Sender) (h : s.Data.length ≤ 300) (h2 : SRange s) : pchecks s = 3 := by
  unfold pchecks
  have e0 : decide ((s.Data.length : Int) > 300) = false := by simp; omega
  rw [e0, (srange_iff s).2 h2]; rfl
theorem rchecks_ok (s : Sender) : rchecks_vc s (fun r => r = pchecks s) := by
  intro _
  refine ⟨fun h => ?_, fun h => ⟨fun h1 => ?_, fun h1 => ⟨fun h2 => ?_, fun h2 => ⟨fun h3 => ?_, fun h3 => ?_⟩⟩⟩⟩
  · rw [pchecks_many s (by simp at h; omega)]
  · rw [pchecks_range s (by simp at h; omega) ((srange_iff s).1 h1)]
  all_goals
    have hl : s.Data.length ≤ 300 := by simp at h; omega
    have hR : ¬ SRange s := fun hc => by rw [(srange_iff s).2 hc] at h1; cases h1
    have ea : (s.At == (s.Data.length : Int)) = decide (s.At = s.Data.length) := by rw [Bool.eq_iff_iff]; simp
    rw [ea] at h2
  · rcases Nat.lt_or_ge 7 s.Data.length with h7 | h7
    · rw [pchecks_long s hl hR h7, if_pos]
      simpa using h2
    · rw [pchecks_short s hR h7, if_pos]
      simpa using h2
  · have h7 : s.Data.length ≤ 7 := by simp at h3; omega
    have hn : ¬ (s.Done ≠ decide (s.At = s.Data.length) ∨ (s.Done = true ∧ s.Left ≠ 0)) := by
      rw [Bool.or_eq_false_iff] at h2
      rintro (hc | hc)
      · simp [hc] at h2
      · simp [hc.1, hc.2] at h2
    rw [pchecks_short s hR h7, if_neg hn]
    refine ⟨fun h4 => ?_, fun h4 => ?_⟩
    · simp only [Bool.or_eq_true, Bool.not_eq_true', bne_iff_ne, ne_eq] at h4
      by_cases hd : s.Done = false
      · rw [if_pos hd]
      · rw [if_neg hd, if_pos (h4.resolve_left hd)]
    · simp only [Bool.or_eq_false_iff, Bool.not_eq_false', bne_eq_false_iff_eq] at h4
      rw [if_neg (by rw [h4.1]; decide), if_neg (by rw [h4.2]; exact fun h => h rfl)]
  · have h7 : 7 < s.Data.length := by simp at h3; omega
    have hn : ¬ (s.Done ≠ decide (s.At = s.Data.length) ∨ (s.Done = true ∧ s.Left ≠ 0)) := by
      rw [Bool.or_eq_false_iff] at h2
      rintro (hc | hc)
      · simp [hc] at h2
      · simp [hc.1, hc.2] at h2
    have hd : s.Done = decide (s.At = s.Data.length) := Classical.byContradiction fun hc => hn (.inl hc)
    rw [pchecks_long s hl hR h7, if_neg hn]
    unfold SRange at hR
    refine ⟨fun x => ∃ k : Nat, x = k ∧ k ≤ 50 ∧ (k = 0 ∨ 6 + 7 * ((k : Int) - 1) < s.Data.length) ∧ ∀ j : Nat, j < k → 6 + 7 * (j : Int) ≠ s.At, fun x => 60 - x.toNat, ⟨0, rfl, by omega, .inl rfl, fun j hj => absurd hj (Nat.not_lt_zero _)⟩, ?_⟩
    rintro _ ⟨k, rfl, hk, hk1, hk2⟩
    have e1 : w64 (6 + w64 (7 * (k : Int))) = 6 + 7 * k := by rw [w64_eq (7 * (k : Int)) (by omega), w64_eq _ (by omega)]
    have e2 : w64 ((k : Int) + 1) = ((k + 1 : Nat) : Int) := w64_succ k (by omega)
    rw [e1, e2, tmod_nn _ _ (by omega)]
    refine ⟨fun h4 => ?_, fun h4 => ⟨fun h5 => ?_, fun h5 => ?_⟩⟩
    · have h4 : min (6 + 7 * (k : Int)) s.Data.length = s.At := by simpa using h4
      have hq : s.At / 7 + 1 = ((k + 1 : Nat) : Int) := by omega
      have hc : ¬ (s.At < 6 ∨ (s.Done = false ∧ (s.At - 6) % 7 ≠ 0)) := by
        rintro (hc | ⟨hc, hc2⟩)
        · omega
        · rw [hc] at hd
          have : ¬ s.At = s.Data.length := by simpa using hd.symm
          omega
      rw [if_neg hc, hq]
      refine ⟨fun h6 => ?_, fun h6 => ?_⟩
      · rw [if_pos (by simpa using h6)]
      · rw [if_neg (by simpa using h6)]
    · have h4 : ¬ min (6 + 7 * (k : Int)) s.Data.length = s.At := by simpa using h4
      have h5 : min (6 + 7 * (k : Int)) s.Data.length = s.Data.length := by simpa using h5
      rw [if_pos]
      have hA : ¬ s.At = s.Data.length := by omega
      have hf : s.Done = false := by rw [hd]; simpa using hA
      by_cases h6 : s.At < 6
      · exact .inl h6
      · refine .inr ⟨hf, fun hc => ?_⟩
        have h8 : 6 + 7 * ((((s.At - 6) / 7).toNat : Nat) : Int) = s.At := by omega
        rcases Nat.lt_or_ge ((s.At - 6) / 7).toNat k with h9 | h9
        · exact hk2 _ h9 h8
        · omega
    · have h4 : ¬ min (6 + 7 * (k : Int)) s.Data.length = s.At := by simpa using h4
      have h5 : ¬ min (6 + 7 * (k : Int)) s.Data.length = s.Data.length := by simpa using h5
      refine ⟨⟨k + 1, rfl, by omega, .inr (by omega), fun j hj hc => ?_⟩, by simp only [Int.toNat_natCast]; omega⟩
      rcases Nat.lt_or_ge j k with h9 | h9
      · exact hk2 j h9 hc
      · have : j = k := by omega
        subst this
        omega
theorem pchecks_len (s : Sender) (h : pchecks s = 0) : s.Data.length ≤ 300 ∧ ¬ SRange s := by
  have h1 : s.Data.length ≤ 300 := by
    refine Classical.byContradiction fun hc => ?_
    rw [pchecks_many s (by omega)] at h
    cases h
  refine ⟨h1, fun hc => ?_⟩
  rw [pchecks_range s h1 hc] at h
  cases h

end Go.Proofs.Ytkogkombalcgeaa
