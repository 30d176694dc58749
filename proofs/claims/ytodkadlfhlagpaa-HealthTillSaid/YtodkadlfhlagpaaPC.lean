/- Pure proofs: no program in sight. -/
import Derived.Test.YtodkadlfhlagpaaVC
set_option linter.unusedVariables false
set_option linter.unusedSimpArgs false
namespace Go.Proofs.Ytodkadlfhlagpaa
open Go.Sy Go.RowKit
/-- Right counters. -/
def Good (h : Health) : Prop := 0 ≤ h.Sent ∧ h.Sent ≤ 256 ∧ 0 ≤ h.Got ∧ h.Got ≤ 255 ∧ 0 ≤ h.Rest ∧ h.Rest ≤ 127 ∧ (h.Rest = 0 ∨ h.Sent = 256)
instance (h : Health) : Decidable (Good h) := by unfold Good; infer_instance
theorem hcheck_iff (h : Health) : hcheck h = if Good h then 0 else 3 := by
  by_cases g : Good h
  · rw [if_pos g]
    unfold Good at g
    unfold hcheck
    simp only [cond_eq_ite, Bool.or_eq_true, Bool.and_eq_true, decide_eq_true_eq]
    split <;> omega
  · rw [if_neg g]
    unfold Good at g
    unfold hcheck
    simp only [cond_eq_ite, Bool.or_eq_true, Bool.and_eq_true, decide_eq_true_eq]
    split <;> omega
theorem rcheckh_eq (h : Health) : rcheckh h = hcheck h := by
  unfold rcheckh hcheck chin
  simp only [cond_eq_ite, Bool.or_eq_true, Bool.and_eq_true, decide_eq_true_eq, Bool.not_eq_true', Bool.and_eq_false_iff, decide_eq_false_iff_not, bne_iff_ne, ne_eq]
  split <;> split <;> omega
theorem hstate_eq (h : Health) (g : Good h) : hstate h = rstate h := by
  obtain ⟨g1, g2, g3, g4, g5, g6, g7⟩ := g
  unfold hstate rstate
  simp only [cond_eq_ite, beq_iff_eq, decide_eq_true_eq, Bool.or_eq_true]
  repeat' split
  all_goals omega
theorem hstate_two (h : Health) (g : Good h) : hstate h = 2 ↔ h.Sent = 256 := by
  rw [hstate_eq h g]
  unfold rstate
  simp only [cond_eq_ite, beq_iff_eq, decide_eq_true_eq]
  repeat' split
  all_goals omega
/-- What the counters become. -/
def hnext (h : Health) (x : Int) : Health :=
  if h.Sent = 256 then (if x = 6 then (if h.Rest = 127 then ⟨0, 0, 0⟩ else ⟨h.Sent, h.Got, h.Rest + 1⟩) else h)
  else if x = 1 then ⟨max (h.Sent - 1) 0, h.Got, h.Rest⟩
  else if x = 2 then ⟨h.Sent, if h.Got > 127 then 126 else max (h.Got - 1) 0, h.Rest⟩
  else if x = 3 then ⟨min (h.Sent + 8) 256, h.Got, h.Rest⟩
  else if x = 4 then ⟨h.Sent, min (h.Got + 1) 255, h.Rest⟩
  else if x = 5 then ⟨h.Sent, min (h.Got + 8) 255, h.Rest⟩
  else h
theorem hchange_eq (h : Health) (g : Good h) (x : Int) : hchange h x = if 1 ≤ x ∧ x ≤ 6 then (hnext h x, 0) else (⟨0, 0, 0⟩, 8) := by
  have hs := hstate_two h g
  obtain ⟨S, G, R⟩ := h
  obtain ⟨g1, g2, g3, g4, g5, g6, g7⟩ := g
  dsimp only at *
  have hx : x < 1 ∨ x = 1 ∨ x = 2 ∨ x = 3 ∨ x = 4 ∨ x = 5 ∨ x = 6 ∨ 6 < x := by omega
  unfold hchange hnext
  dsimp only
  by_cases h1 : S = 256
  · have e : hstate ⟨S, G, R⟩ = 2 := hs.2 h1
    rw [e]
    have w1 : w64 (R + 1) = R + 1 := w64_eq _ (by omega)
    rw [w1]
    rcases hx with hx | rfl | rfl | rfl | rfl | rfl | rfl | hx
    · have n1 : (x == 6) = false := by simp; omega
      have n2 : (x == 1) = false := by simp; omega
      have n3 : (x == 2) = false := by simp; omega
      have n4 : (x == 3) = false := by simp; omega
      have n5 : (x == 4) = false := by simp; omega
      have n6 : (x == 5) = false := by simp; omega
      rw [if_neg (by omega)]
      simp [cond_eq_ite, n1, n2, n3, n4, n5, n6]
    · simp [cond_eq_ite, h1]
    · simp [cond_eq_ite, h1]
    · simp [cond_eq_ite, h1]
    · simp [cond_eq_ite, h1]
    · simp [cond_eq_ite, h1]
    · by_cases h2 : R = 127
      · simp [cond_eq_ite, h1, h2]
      · have : ¬ R + 1 = 128 := by omega
        simp [cond_eq_ite, h1, h2, this]
    · have n1 : (x == 6) = false := by simp; omega
      have n2 : (x == 1) = false := by simp; omega
      have n3 : (x == 2) = false := by simp; omega
      have n4 : (x == 3) = false := by simp; omega
      have n5 : (x == 4) = false := by simp; omega
      have n6 : (x == 5) = false := by simp; omega
      rw [if_neg (by omega)]
      simp [cond_eq_ite, n1, n2, n3, n4, n5, n6]
  · have e : (hstate ⟨S, G, R⟩ == 2) = false := by simp [cond_eq_ite, hs, h1]
    rw [e]
    rcases hx with hx | rfl | rfl | rfl | rfl | rfl | rfl | hx
    · rw [if_neg (by omega)]
      have : (decide (x < 1) || decide (x > 6)) = true := by simp; omega
      simp [cond_eq_ite, this]
    · simp [cond_eq_ite, h1]
      rw [w64_eq _ (by omega), w64_eq _ (by omega)]
      constructor <;> omega
    · simp [cond_eq_ite, h1]
      rw [w64_eq _ (by omega), w64_eq _ (by omega)]
      refine ⟨by omega, ?_⟩
      split <;> omega
    · simp [cond_eq_ite, h1]
      rw [w64_eq _ (by omega), w64_eq _ (by omega)]
      constructor <;> omega
    · simp [cond_eq_ite, h1]
      rw [w64_eq _ (by omega), w64_eq _ (by omega)]
      constructor <;> omega
    · simp [cond_eq_ite, h1]
      rw [w64_eq _ (by omega), w64_eq _ (by omega)]
      constructor <;> omega
    · simp [cond_eq_ite, h1]
      rw [w64_eq _ (by omega), w64_eq _ (by omega)]
      constructor <;> omega
    · rw [if_neg (by omega)]
      have : (decide (x < 1) || decide (x > 6)) = true := by simp; omega
      simp [cond_eq_ite, this]
theorem rstep_eq (h : Health) (g : Good h) (x : Int) : rstep h x = if 1 ≤ x ∧ x ≤ 6 then (hnext h x, true) else (⟨0, 0, 0⟩, false) := by
  obtain ⟨S, G, R⟩ := h
  obtain ⟨g1, g2, g3, g4, g5, g6, g7⟩ := g
  dsimp only at *
  have hx : x < 1 ∨ x = 1 ∨ x = 2 ∨ x = 3 ∨ x = 4 ∨ x = 5 ∨ x = 6 ∨ 6 < x := by omega
  unfold rstep hnext
  dsimp only
  rcases hx with hx | rfl | rfl | rfl | rfl | rfl | rfl | hx
  · rw [if_neg (by omega)]
    have : (decide (x < 1) || decide (x > 6)) = true := by simp; omega
    simp [cond_eq_ite, this]
  · by_cases h1 : S = 256
    · have : ¬ R = 128 := by omega
      simp [cond_eq_ite, h1, this]
    · by_cases h2 : S > 0
      · simp [cond_eq_ite, h1, h2]; rw [w64_eq _ (by omega)]; omega
      · simp [cond_eq_ite, h1, h2]; omega
  · by_cases h1 : S = 256
    · have : ¬ R = 128 := by omega
      simp [cond_eq_ite, h1, this]
    · by_cases h2 : G > 127
      · simp [cond_eq_ite, h1, h2]
      · by_cases h3 : G > 0
        · simp [cond_eq_ite, h1, h2, h3]; rw [w64_eq _ (by omega)]; omega
        · simp [cond_eq_ite, h1, h2, h3]; omega
  · by_cases h1 : S = 256
    · have : ¬ R = 128 := by omega
      simp [cond_eq_ite, h1, this]
    · have w1 : w64 (S + 8) = S + 8 := w64_eq _ (by omega)
      by_cases h2 : S + 8 > 256
      · simp [cond_eq_ite, h1, w1, h2]; omega
      · simp [cond_eq_ite, h1, w1, h2]; omega
  · by_cases h1 : S = 256
    · have : ¬ R = 128 := by omega
      simp [cond_eq_ite, h1, this]
    · by_cases h2 : G < 255
      · simp [cond_eq_ite, h1, h2]; rw [w64_eq _ (by omega)]; omega
      · simp [cond_eq_ite, h1, h2]; omega
  · by_cases h1 : S = 256
    · have : ¬ R = 128 := by omega
      simp [cond_eq_ite, h1, this]
    · have w1 : w64 (G + 8) = G + 8 := w64_eq _ (by omega)
      by_cases h2 : G + 8 > 255
      · simp [cond_eq_ite, h1, w1, h2]; omega
      · simp [cond_eq_ite, h1, w1, h2]; omega
  · by_cases h1 : S = 256
    · have w1 : w64 (R + 1) = R + 1 := w64_eq _ (by omega)
      by_cases h2 : R = 127
      · subst h2; subst h1; simp [cond_eq_ite, w1]; decide
      · have : ¬ R + 1 = 128 := by omega
        simp [cond_eq_ite, h1, w1, h2, this]
    · simp [cond_eq_ite, h1]
  · rw [if_neg (by omega)]
    have : (decide (x < 1) || decide (x > 6)) = true := by simp; omega
    simp [cond_eq_ite, this]
theorem hnext_good (h : Health) (g : Good h) (x : Int) : Good (hnext h x) := by
  obtain ⟨S, G, R⟩ := h
  obtain ⟨g1, g2, g3, g4, g5, g6, g7⟩ := g
  dsimp only at *
  unfold hnext Good
  dsimp only
  repeat' split
  all_goals simp_all
  all_goals omega
theorem Good_zero : Good ⟨0, 0, 0⟩ := by unfold Good; decide
theorem hnext_off (h : Health) (hs : h.Sent = 256) (x : Int) (hx : x ≠ 6) : hnext h x = h := by
  unfold hnext; simp [hs, hx]
theorem HStep_ok (u0 : Health) (u1 : List Int) (k0 : okHealth u0) (k1 : (∀ x ∈ u1, IntKind.i64.min ≤ x ∧ x ≤ IntKind.i64.max) ∧ u1.length * 8 ≤ lim) : HStep_vc u0 u1 (fun r => r = true) := by
  intro _
  rw [rcheckh_eq]
  by_cases g : Good u0
  · have hc : hcheck u0 = 0 := by rw [hcheck_iff, if_pos g]
    have hS : hState u0 = (rstate u0, 0) := by simp [hState, hc, hstate_eq u0 g]
    rw [hc, hS]
    refine ⟨fun h => by simp at h, fun _ => ⟨fun h => by simp at h, fun _ => ⟨fun h => by simp at h, fun _ => ⟨fun h => ?_, fun h => ?_⟩⟩⟩⟩
    · have h2 : 1000 < u1.length := by simp at h; omega
      simp [hstepS, hc, h2]
    · have h2 : ¬ 1000 < u1.length := by simp at h; omega
      have hs : hstepS u0 u1 = hrun u0 0 u1 := by simp [hstepS, hc, h2]
      rw [hs]
      refine ⟨fun x y => ∃ k : Nat, x = k ∧ k ≤ u1.length ∧ Good y ∧ hrun y k (u1.drop k) = hrun u0 0 u1, fun x y => u1.length - x.toNat, ⟨0, rfl, by omega, g, by simp⟩, ?_⟩
      rintro _ y ⟨k, rfl, hk, hg, he⟩
      refine ⟨fun h3 => ⟨by simp at h3; omega, fun q hq => ?_⟩, fun h3 => ?_⟩
      · have h4 : k < u1.length := by simpa using h3
        simp only [Int.toNat_natCast] at hq
        have hd : u1.drop k = q :: u1.drop (k + 1) := by
          rw [List.drop_eq_getElem_cons h4]
          rw [List.getElem?_eq_getElem h4] at hq
          simp at hq
          rw [hq]
        rw [hd] at he
        rw [rstep_eq y hg]
        by_cases hx : 1 ≤ q ∧ q ≤ 6
        · rw [if_pos hx]
          refine ⟨fun h => by simp at h, fun _ => ?_⟩
          rw [w64_succ k (by omega)]
          refine ⟨⟨k + 1, rfl, by omega, hnext_good y hg q, ?_⟩, by simp only [Int.toNat_natCast]; omega⟩
          rw [← he, hrun, hchange_eq y hg, if_pos hx]
          simp
        · rw [if_neg hx]
          refine ⟨fun _ => ?_, fun h => by simp at h⟩
          rw [← he, hrun, hchange_eq y hg, if_neg hx]
          simp
      · have h4 : k = u1.length := by simp at h3; omega
        subst h4
        rw [← he]
        simp [hrun]
  · have hc : hcheck u0 = 3 := by rw [hcheck_iff, if_neg g]
    have hS : hState u0 = (0, 3) := by simp [hState, hc]
    have hs : hstepS u0 u1 = (⟨0, 0, 0⟩, 0, 3) := by simp [hstepS, hc]
    rw [hc, hS, hs]
    refine ⟨fun h => by simp at h, fun _ => ⟨fun h => by simp, fun h => by simp at h⟩⟩
theorem hTill_eq (u0 : Health) (g : Good u0) : hTill u0 = ((263 - u0.Sent) / 8, 0) := by
  have hc : hcheck u0 = 0 := by rw [hcheck_iff, if_pos g]
  obtain ⟨g1, g2, g3, g4, g5, g6, g7⟩ := g
  unfold hTill
  rw [hc]
  simp only [bne_self_eq_false, cond_false]
  rw [w64_eq (256 - u0.Sent) (by omega), w64_eq (256 - u0.Sent + 7) (by omega), Int.tdiv_eq_ediv_of_nonneg (by omega), w64_eq _ (by omega)]
  congr 2
  omega
theorem HTill_ok (u0 : Health) (k0 : okHealth u0) : HTill_vc u0 (fun r => r = true) := by
  unfold HTill_vc
  rw [rcheckh_eq]
  by_cases g : Good u0
  · have hc : hcheck u0 = 0 := by rw [hcheck_iff, if_pos g]
    have ht := hTill_eq u0 g
    have g' := g
    obtain ⟨g1, g2, g3, g4, g5, g6, g7⟩ := g'
    have hst : (rstate u0 == 2) = decide (u0.Sent = 256) := by
      have := hstate_two u0 g
      rw [hstate_eq u0 g] at this
      rw [Bool.eq_iff_iff]
      simp [this]
    rw [hc, ht]
    dsimp only
    refine ⟨fun h => by simp at h, fun _ => ⟨fun h => ?_, fun _ => ?_⟩⟩
    · exfalso
      have hz : (((263 - u0.Sent) / 8) == 0) = decide (u0.Sent = 256) := by
        rw [Bool.eq_iff_iff, beq_iff_eq, decide_eq_true_eq]
        omega
      rw [hst, hz] at h
      simp at h
      omega
    · refine ⟨fun x y => ∃ k : Nat, x = k ∧ (k : Int) ≤ (263 - u0.Sent) / 8 ∧ Good y ∧ y.Sent = min (u0.Sent + 8 * k) 256, fun x y => 40 - x.toNat, ⟨0, rfl, by omega, g, by omega⟩, ?_⟩
      rintro _ y ⟨k, rfl, hk, hg, he⟩
      have hsy : (rstate y == 2) = decide (y.Sent = 256) := by
        have := hstate_two y hg
        rw [hstate_eq y hg] at this
        rw [Bool.eq_iff_iff]
        simp [this]
      rw [hsy]
      refine ⟨fun h1 => ⟨fun h2 => ?_, fun h2 => ?_⟩, fun h1 => ?_⟩
      · exfalso
        simp at h1 h2
        omega
      · simp at h1 h2
        rw [w64_succ k (by omega), rstep_eq y hg, if_pos (by decide)]
        refine ⟨⟨k + 1, rfl, by omega, hnext_good y hg 3, ?_⟩, by simp only [Int.toNat_natCast]; omega⟩
        simp [hnext, h2]
        omega
      · simp at h1 ⊢
        omega
  · have hc : hcheck u0 = 3 := by rw [hcheck_iff, if_neg g]
    have ht : hTill u0 = (0, 3) := by simp [hTill, hc]
    rw [hc, ht]
    exact ⟨fun _ => by simp, fun h => by simp at h⟩
/-- What a row of happenings, all known, makes. -/
def hall (h : Health) (l : List Int) : Health := l.foldl hnext h
theorem hall_good (h : Health) (g : Good h) (l : List Int) : Good (hall h l) := by
  induction l generalizing h with
  | nil => exact g
  | cons x l ih => exact ih _ (hnext_good h g x)
theorem hrun_all (h : Health) (g : Good h) (i : Int) (l : List Int) (hl : ∀ x ∈ l, 1 ≤ x ∧ x ≤ 6) : hrun h i l = (hall h l, 0, 0) := by
  induction l generalizing h i with
  | nil => rfl
  | cons x l ih =>
    rw [hrun, hchange_eq h g, if_pos (hl x (by simp))]
    simp only [ne_eq, not_true_eq_false, if_false]
    exact ih _ (hnext_good h g x) _ (fun y hy => hl y (by simp [hy]))
theorem hrun_known (h : Health) (g : Good h) (i : Int) (l : List Int) (he : (hrun h i l).2.2 = 0) : ∀ x ∈ l, 1 ≤ x ∧ x ≤ 6 := by
  induction l generalizing h i with
  | nil => simp
  | cons x l ih =>
    rw [hrun, hchange_eq h g] at he
    by_cases hx : 1 ≤ x ∧ x ≤ 6
    · rw [if_pos hx] at he
      simp only [ne_eq, not_true_eq_false, if_false] at he
      intro y hy
      rcases List.mem_cons.1 hy with rfl | hy
      · exact hx
      · exact ih _ (hnext_good h g x) _ he y hy
    · rw [if_neg hx] at he
      simp at he
theorem hstepS_all (h : Health) (g : Good h) (l : List Int) (hn : l.length ≤ 1000) (hl : ∀ x ∈ l, 1 ≤ x ∧ x ≤ 6) : hstepS h l = (hall h l, 0, 0) := by
  have hc : hcheck h = 0 := by rw [hcheck_iff, if_pos g]
  have h2 : ¬ 1000 < l.length := by omega
  simp only [hstepS, hc, h2, ne_eq, not_true_eq_false, if_false]
  exact hrun_all h g 0 l hl
theorem mem_srepS (x : Int) (n : Int) (y : Int) (h : y ∈ srepS [x] n) : y = x := by
  unfold srepS at h
  rw [List.mem_flatten] at h
  obtain ⟨l, h1, h2⟩ := h
  rw [List.mem_replicate] at h1
  rw [h1.2] at h2
  simpa using h2
theorem hall_off (h : Health) (hs : h.Sent = 256) (l : List Int) (hl : ∀ x ∈ l, x ≠ 6) : hall h l = h := by
  induction l generalizing h with
  | nil => rfl
  | cons x l ih =>
    show hall (hnext h x) l = h
    rw [hnext_off h hs x (hl x (by simp))]
    exact ih h hs (fun y hy => hl y (by simp [hy]))
theorem hall_bad (h : Health) (g : Good h) (n : Nat) (hn : 256 ≤ h.Sent + 8 * n) : (hall h (List.replicate n 3)).Sent = 256 := by
  induction n generalizing h with
  | zero =>
    obtain ⟨g1, g2, _⟩ := g
    show h.Sent = 256
    omega
  | succ n ih =>
    rw [List.replicate_succ]
    show (hall (hnext h 3) (List.replicate n 3)).Sent = 256
    refine ih _ (hnext_good h g 3) ?_
    obtain ⟨g1, g2, _⟩ := g
    unfold hnext
    by_cases h1 : h.Sent = 256
    · simp [h1]; omega
    · simp [h1]; omega
theorem hall_rest (h : Health) (hs : h.Sent = 256) (g : Good h) (n : Nat) (hn : h.Rest + n = 128) : hall h (List.replicate n 6) = ⟨0, 0, 0⟩ := by
  induction n generalizing h with
  | zero =>
    obtain ⟨g1, g2, g3, g4, g5, g6, g7⟩ := g
    omega
  | succ n ih =>
    rw [List.replicate_succ]
    show hall (hnext h 6) (List.replicate n 6) = _
    by_cases h1 : h.Rest = 127
    · have : n = 0 := by omega
      subst this
      simp [hnext, hs, h1, hall]
    · have e : hnext h 6 = ⟨h.Sent, h.Got, h.Rest + 1⟩ := by simp [hnext, hs, h1]
      rw [e]
      have := hnext_good h g 6
      rw [e] at this
      exact ih _ hs this (by dsimp only; omega)
theorem srepS_one (x n : Int) : srepS [x] n = List.replicate n.toNat x := by
  unfold srepS
  generalize n.toNat = m
  induction m with
  | zero => rfl
  | succ m ih => rw [List.replicate_succ, List.replicate_succ, List.flatten_cons, ih]; rfl
theorem HRests_ok (u0 : Health) (u1 : List Int) (k0 : okHealth u0) (k1 : (∀ x ∈ u1, IntKind.i64.min ≤ x ∧ x ≤ IntKind.i64.max) ∧ u1.length * 8 ≤ lim) : HRests_vc u0 u1 (fun r => r = true) := by
  intro _
  refine ⟨fun h => rfl, fun h => ?_⟩
  have he : (hstepS u0 u1).2.2 = 0 := by simpa using h
  have g : Good u0 := by
    refine Classical.byContradiction fun g => ?_
    have hc : hcheck u0 = 3 := by rw [hcheck_iff, if_neg g]
    simp [hstepS, hc] at he
  have hc : hcheck u0 = 0 := by rw [hcheck_iff, if_pos g]
  have hn : u1.length ≤ 1000 := by
    refine Classical.byContradiction fun hn => ?_
    have : 1000 < u1.length := by omega
    simp [hstepS, hc, this] at he
  have hk : ∀ x ∈ u1, 1 ≤ x ∧ x ≤ 6 := by
    have h2 : ¬ 1000 < u1.length := by omega
    have : hstepS u0 u1 = hrun u0 0 u1 := by simp [hstepS, hc, h2]
    rw [this] at he
    exact hrun_known u0 g 0 u1 he
  have e1 := hstepS_all u0 g u1 hn hk
  have e2 := hstepS_all u0 g (srepS [3] 32) (by rw [srepS_len]; decide) (fun x hx => by rw [mem_srepS _ _ _ hx]; decide)
  rw [e1, e2]
  dsimp only
  have g1 := hall_good u0 g u1
  have hc1 : hcheck (hall u0 u1) = 0 := by rw [hcheck_iff, if_pos g1]
  rw [hc1]
  refine ⟨fun h => by simp at h, fun _ => ⟨by decide, fun h => by simp at h, fun _ => ?_⟩⟩
  have g2 := hall_good u0 g (srepS [3] 32)
  have hoff : (hall u0 (srepS [3] 32)).Sent = 256 := by
    rw [srepS_one]
    exact hall_bad u0 g 32 (by obtain ⟨g1, _⟩ := g; omega)
  generalize hall u0 (srepS [3] 32) = y at *
  refine ⟨fun x i => ∃ k : Nat, i = k ∧ k ≤ u1.length ∧ x = (u1.take k).filter (fun z => z != 6), fun x i => u1.length - i.toNat, ⟨0, rfl, by omega, by simp⟩, ?_⟩
  rintro x _ ⟨k, rfl, hk1, rfl⟩
  refine ⟨fun h3 => ⟨by simp at h3; omega, fun q hq => ?_⟩, fun h3 => ?_⟩
  · have h4 : k < u1.length := by simpa using h3
    simp only [Int.toNat_natCast] at hq
    have ht : u1.take (k + 1) = u1.take k ++ [q] := by rw [List.take_add_one, hq]; rfl
    rw [w64_succ k (by omega)]
    have hlen : ((u1.take k).filter (fun z => z != 6)).length ≤ k := Nat.le_trans (List.length_filter_le _ _) (by simp; omega)
    refine ⟨fun h5 => ⟨by omega, ⟨k + 1, rfl, by omega, ?_⟩, by simp only [Int.toNat_natCast]; omega⟩, fun h5 => ⟨⟨k + 1, rfl, by omega, ?_⟩, by simp only [Int.toNat_natCast]; omega⟩⟩
    · rw [ht, List.filter_append]; simp [h5]
    · rw [ht, List.filter_append]; simp [h5]
  · have h4 : k = u1.length := by simp at h3; omega
    subst h4
    rw [List.take_length]
    obtain ⟨b1, b2, b3, b4, b5, b6, b7⟩ := id g2
    have w1 : w64 (128 - y.Rest) = 128 - y.Rest := w64_eq _ (by omega)
    rw [w1]
    refine ⟨by simp; omega, ?_⟩
    have e3 := hstepS_all y g2 (u1.filter (fun z => z != 6)) (Nat.le_trans (List.length_filter_le _ _) hn) (fun x hx => hk x (List.mem_filter.1 hx).1)
    have e4 := hstepS_all y g2 (srepS [6] (128 - y.Rest)) (by rw [srepS_len]; simp; omega) (fun x hx => by rw [mem_srepS _ _ _ hx]; decide)
    rw [e3, e4, hall_off y hoff _ (fun x hx => by have := (List.mem_filter.1 hx).2; simpa using this), srepS_one, hall_rest y hoff g2 _ (by omega)]
    simp

end Go.Proofs.Ytodkadlfhlagpaa
