/- Pure proofs: no program in sight. -/
import Derived.Test.YtginlmgkimfjmaaVDk
set_option linter.unusedVariables false
set_option linter.unusedSimpArgs false
namespace Go.Proofs.Ytginlmgkimfjmaa
open Go.Sy Go.RowKit
theorem WorstS_zero {l : List Task} (h : (WorstS l).2 = 0) : dcheckS l = 0 ∧ WorstS l = (worstL l, 0) := by
  unfold WorstS at h ⊢
  by_cases h1 : dcheckS l ≠ 0
  · rw [if_pos h1] at h; exact absurd h h1
  · rw [if_neg h1]
    exact ⟨by simpa using h1, rfl⟩
theorem worstL_at {l : List Task} {k : Nat} {q : Stop} (h : (worstL l)[k]? = some q) : q = stopAt l k ∧ k < l.length := by
  unfold worstL at h
  rw [List.getElem?_map] at h
  have hk : k < l.length := by
    rcases Nat.lt_or_ge k l.length with hk | hk
    · exact hk
    · rw [List.getElem?_eq_none (by simpa using hk)] at h; cases h
  rw [List.getElem?_range hk] at h
  exact ⟨(Option.some.inj h).symm, hk⟩
theorem worstS_more (l : List Task) (t : Task) (h1 : dcheckS l = 0) (h2 : dcheckS (l ++ [t]) = 0) (k : Nat) (hk : k < l.length) (hw : 0 ≤ worstS (l ++ [t]) k) : 0 ≤ worstS l k ∧ worstS l k ≤ worstS (l ++ [t]) k := by
  obtain ⟨a1, a2⟩ := dcheckS_zero h1
  obtain ⟨b1, b2⟩ := dcheckS_zero h2
  have hq : l[k]? = some l[k] := List.getElem?_eq_getElem hk
  generalize l[k] = q at hq
  have hq' : (l ++ [t])[k]? = some q := by rw [List.getElem?_append_left hk]; exact hq
  have R : Rt l k q := ⟨a1, a2, by omega, by rw [Int.toNat_natCast]; exact hq⟩
  have R' : Rt (l ++ [t]) k q := ⟨b1, b2, by omega, by rw [Int.toNat_natCast]; exact hq'⟩
  have e : worstS l k = worstB (blockS l k) l k q := by unfold worstS; rw [Int.toNat_natCast, hq]; rfl
  have e' : worstS (l ++ [t]) k = worstB (blockS (l ++ [t]) k) (l ++ [t]) k q := by unfold worstS; rw [Int.toNat_natCast, hq']; rfl
  have hb := blockS_bound l a2 k
  have hb' := blockS_bound (l ++ [t]) b2 k
  have hbb : blockS l k ≤ blockS (l ++ [t]) k := by
    unfold blockS
    rw [List.drop_append, List.foldl_append]
    have : ((k : Int) + 1).toNat - l.length = 0 := by omega
    rw [this]
    show _ ≤ max _ (dlongS t)
    omega
  rw [e'] at hw
  rw [e, e']
  exact worst_mono R R' (by rw [Int.toNat_natCast, List.take_append_of_le_length (by omega)]) hb.1 hbb hb'.2 hw
theorem LMore_ok (l : List Task) (t : Task) (hl : (∀ y0 ∈ l, okTask y0) ∧ l.length * 40 ≤ lim) (ht : okTask t) (hb : l.length ≤ 1048576) : LMore_vc l t (fun r => r = true) := by
  intro _ _
  have ec : tcloneS l = l := rfl
  rw [ec]
  refine ⟨by omega, by omega, fun _ => rfl, fun h => ?_⟩
  have h : (WorstS l).2 = 0 ∧ (WorstS (l ++ [t])).2 = 0 := by simpa using h
  obtain ⟨a1, a2⟩ := WorstS_zero h.1
  obtain ⟨b1, b2⟩ := WorstS_zero h.2
  rw [a2, b2]
  dsimp only
  have hlen : (worstL l).length = l.length := by simp [worstL]
  have hlen' : (worstL (l ++ [t])).length = l.length + 1 := by simp [worstL]
  refine ⟨fun x => ∃ k : Nat, x = k ∧ k ≤ l.length, fun x => l.length - x.toNat, ⟨0, rfl, by omega⟩, ?_⟩
  rintro _ ⟨k, rfl, hk⟩
  refine ⟨fun h1 => ?_, fun _ => rfl⟩
  have hkl : k < l.length := by simp at h1; omega
  rw [Int.toNat_natCast]
  refine ⟨by omega, fun q1 hq1 => ⟨by omega, fun q2 hq2 => ⟨by omega, fun q3 hq3 => ⟨by omega, fun q4 hq4 => ⟨fun h2 => ?_, fun h2 => ?_⟩⟩⟩⟩⟩
  · exfalso
    obtain rfl := (worstL_at hq1).1
    obtain rfl := (worstL_at hq2).1
    obtain rfl := (worstL_at hq3).1
    obtain rfl := (worstL_at hq4).1
    simp only [Bool.and_eq_true, Bool.or_eq_true, decide_eq_true_eq] at h2
    have h3 : 0 ≤ worstS (l ++ [t]) k := h2.1
    have h4 : worstS l k < 0 ∨ worstS l k > worstS (l ++ [t]) k := h2.2
    have := worstS_more l t a1 b1 k hkl h3
    omega
  · rw [w64_succ k (by omega)]
    exact ⟨⟨k + 1, rfl, by omega⟩, by (try dsimp only); omega⟩

end Go.Proofs.Ytginlmgkimfjmaa
