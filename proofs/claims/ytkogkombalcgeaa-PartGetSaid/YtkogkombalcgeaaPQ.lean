/- Pure proofs: no program in sight. -/
import Derived.Test.YtkogkombalcgeaaVQ
set_option linter.unusedVariables false
set_option linter.unusedSimpArgs false
namespace Go.Proofs.Ytkogkombalcgeaa
open Go.Sy Go.RowKit
/-! ### The laws -/
def zS : Sender := ⟨[], 0, 0, 0, false⟩
def zG : Getter := ⟨0, [], 0, 0, 0⟩
theorem beqS_iff (a b : List Int) : beqS a b = true ↔ a = b := by unfold beqS; rw [decide_eq_true_eq]
theorem psames_iff (a b : Sender) : psames a b = true ↔ a = b := by
  unfold psames
  simp only [Bool.and_eq_true, beq_iff_eq, beqS_iff]
  constructor
  · rintro ⟨⟨⟨⟨h1, h2⟩, h3⟩, h4⟩, h5⟩
    cases a; cases b; simp_all
  · rintro rfl; simp
theorem psameg_iff (a b : Getter) : psameg a b = true ↔ a = b := by
  unfold psameg
  simp only [Bool.and_eq_true, beq_iff_eq, beqS_iff]
  constructor
  · rintro ⟨⟨⟨⟨h1, h2⟩, h3⟩, h4⟩, h5⟩
    cases a; cases b; simp_all
  · rintro rfl; simp
theorem pbad_eq (l : List Int) : pbad l = (psplitS l).2 := by
  unfold pbad psplitS
  by_cases h1 : l.length = 0
  · simp [h1]
  · have e1 : ((l.length : Int) == 0) = false := by simp; intro hc; exact h1 (by rw [hc]; rfl)
    rw [e1, cond_false, if_neg h1]
    by_cases h2 : 300 < l.length
    · rw [if_pos h2]
      have : decide ((l.length : Int) > 300) = true := by simp; omega
      rw [this, cond_true]
    · rw [if_neg h2]
      have : decide ((l.length : Int) > 300) = false := by simp; omega
      rw [this, cond_false]
theorem split_bad (l : List Int) (h : (psplitS l).2 ≠ 0) : psplitS l = ([], (psplitS l).2) := by
  unfold psplitS at h ⊢
  split
  · rfl
  · rename_i h1
    rw [if_neg h1] at h
    split
    · rfl
    · rename_i h2
      rw [if_neg h2] at h
      exact absurd rfl h
theorem LPSplit_ok (l : List Int) (k0 : (∀ y0 ∈ l, IntKind.u8.min ≤ y0 ∧ y0 ≤ IntKind.u8.max) ∧ l.length * 1 ≤ lim) : LPSplit_vc l (fun r => r = true) := by
  intro hl h1 h2 h3
  rw [pbad_eq]
  refine ⟨fun h => ?_, fun h => ?_⟩
  · have hb : (psplitS l).2 ≠ 0 := by simpa using h
    have hB : pbeginS l = (⟨[], 0, 0, 0, false⟩, [], (psplitS l).2) := by unfold pbeginS; rw [if_pos hb]
    rw [hB, split_bad l hb]
    simp
    exact (psames_iff _ _).2 rfl
  · have h0 : (psplitS l).2 = 0 := by simpa using h
    obtain ⟨a1, a2, a3⟩ := psplit_zero l h0
    obtain ⟨p1, p2⟩ := parts_len l
    have hB : pbeginS l = (if l.length ≤ 7 then ⟨l, l.length, 1, 0, true⟩ else ⟨l, 6, 1, -1, false⟩, (partsS l).headD [], 0) := by unfold pbeginS; rw [if_neg (fun hx => hx h0)]
    rw [hB, a3]
    have hp : ppartsofS l = partsS l := rfl
    rw [hp]
    have hs : psamep (partsS l) (partsS l) = true := by rw [psamep_eq]; simp
    refine ⟨a2, fun _ => ⟨fun h5 => ⟨fun _ => ⟨by omega, fun q hq _ => ?_⟩, fun h6 => ?_⟩, fun h5 => ⟨fun _ => ⟨by omega, fun q hq _ => ?_⟩, fun h6 => ?_⟩⟩⟩
    · have : l.length ≤ 7 := p1.1 (by have := beq_iff_eq.1 h5; omega)
      rw [if_pos this, head_get _ _ hq]
      simp only [Bool.and_eq_true]
      exact ⟨(beqS_iff _ _).2 rfl, (psames_iff _ _).2 rfl⟩
    · dsimp only at h6; rw [hs] at h6; simp at h6
    · have : ¬ l.length ≤ 7 := fun hc => by rw [p1.2 hc] at h5; simp at h5
      rw [if_neg this, head_get _ _ hq]
      simp only [Bool.and_eq_true]
      exact ⟨(beqS_iff _ _).2 rfl, (psames_iff _ _).2 rfl⟩
    · dsimp only at h6; rw [hs] at h6; simp at h6
theorem LPSend_ok (l : List Int) (b : Int) (k0 : (∀ y0 ∈ l, IntKind.u8.min ≤ y0 ∧ y0 ≤ IntKind.u8.max) ∧ l.length * 1 ≤ lim) (k1 : IntKind.i64.min ≤ b ∧ b ≤ IntKind.i64.max) : LPSend_vc l b (fun r => r = true) := by
  intro hl
  refine ⟨k0.1, fun _ => ?_⟩
  rw [pbad_eq]
  refine ⟨fun h => ?_, fun h => ?_⟩
  · have hb : b < 0 ∨ 255 < b := by simpa using h
    have : psendS l b = ([], 0, 3) := by unfold psendS; rw [if_pos hb]
    rw [this]; rfl
  · have hb : ¬ (b < 0 ∨ 255 < b) := by simp at h; omega
    refine ⟨fun h1 => ?_, fun h1 => ?_⟩
    · have h2 : (psplitS l).2 ≠ 0 := by simpa using h1
      have : psendS l b = ([], 0, (psplitS l).2) := by unfold psendS; rw [if_neg hb, if_pos h2]
      rw [this]
      simp
    · have h0 : (psplitS l).2 = 0 := by simpa using h1
      obtain ⟨a1, a2, a3⟩ := psplit_zero l h0
      have : psendS l b = (l, pcount l b, 0) := by unfold psendS; rw [if_neg hb, if_neg (fun hx => hx h0)]
      rw [this]
      have hp : ppartsofS l = partsS l := rfl
      rw [hp]
      have hq : beqS l l = true := (beqS_iff _ _).2 rfl
      refine ⟨a2, fun _ => ⟨fun h3 => ?_, fun h3 => ?_⟩⟩
      · have h4 : 7 < l.length := by
          refine Classical.byContradiction fun hc => ?_
          rw [parts_single l (by omega)] at h3
          cases h3
        have hc := parts_count l h4
        have hP : pcount l b = ((l.length / 7 : Nat) : Int) + 2 + (if 0 < b then (((l.length / 7 : Nat) : Int) - 1) / b else 0) := by unfold pcount; rw [if_neg (by omega)]
        rw [hc]
        have e1 : w64 (((1 + l.length / 7 : Nat) : Int) + 1) = ((l.length / 7 : Nat) : Int) + 2 := by rw [w64_eq _ (by omega)]; omega
        have e2 : w64 (((1 + l.length / 7 : Nat) : Int) - 2) = ((l.length / 7 : Nat) : Int) - 1 := by rw [w64_eq _ (by omega)]; omega
        rw [e1, e2]
        refine ⟨fun h5 => ⟨by simp at h5; omega, ?_⟩, fun h5 => ?_⟩
        · have hb0 : 0 < b := by simpa using h5
          have hd : 0 ≤ (((l.length / 7 : Nat) : Int) - 1) / b := Int.ediv_nonneg (by omega) (by omega)
          have hd2 : (((l.length / 7 : Nat) : Int) - 1) / b ≤ ((l.length / 7 : Nat) : Int) - 1 := Int.ediv_le_self _ (by omega)
          rw [hP, if_pos hb0, tdiv_nn _ _ (by omega), w64_eq ((((l.length / 7 : Nat) : Int) - 1) / b) (by omega), w64_eq _ (by omega), hq]
          simp
        · have hb0 : ¬ 0 < b := by simpa using h5
          rw [hP, if_neg hb0, hq]
          simp
      · have h4 : l.length ≤ 7 := by
          refine Classical.byContradiction fun hc => ?_
          rw [parts_count l (by omega)] at h3
          have := of_decide_eq_false h3
          omega
        have hP : pcount l b = 1 := by unfold pcount; rw [if_pos h4]
        rw [hP, hq, parts_single l h4]
        rfl
theorem kbytes {l : List Int} (k0 : (∀ y0 ∈ l, IntKind.u8.min ≤ y0 ∧ y0 ≤ IntKind.u8.max) ∧ l.length * 1 ≤ lim) : ∀ x ∈ l, 0 ≤ x ∧ x ≤ 255 := fun x hx => k0.1 x hx
theorem split_bytes (l : List Int) (hb : ∀ x ∈ l, 0 ≤ x ∧ x ≤ 255) (h7 : 7 < l.length) (h300 : l.length ≤ 300) (k : Nat) (q : List Int) (hq : (partsS l)[k]? = some q) : ∀ x ∈ q, 0 ≤ x ∧ x ≤ 255 := by
  cases k with
  | zero =>
    rw [parts_first l h7] at hq
    cases hq
    exact fst_bytes l h300 hb
  | succ j =>
    have hj : 6 + 7 * j < l.length := by
      have := (List.getElem?_eq_some_iff.1 hq).1
      rw [parts_count l h7] at this
      omega
    rw [parts_next l h7 j hj] at hq
    cases hq
    exact nxt_bytes l j hb
theorem lost_wrong (l : List Int) (j : Nat) (h7 : 7 < l.length) (h300 : l.length ≤ 300) (hj : 6 + 7 * (j + 1) < l.length) (hg : pcheckg (gj l 0 j 0) = 0) : pgetS (gj l 0 j 0) (nxtP l (j + 1)) = gerr 14 := by
  have hr : ((l.drop (6 + 7 * (j + 1))).take 7).length = min 7 (l.length - (6 + 7 * (j + 1))) := by rw [List.length_take, List.length_drop]
  have hw : (gj l 0 j 0).Want = l.length := rfl
  have hn : (gj l 0 j 0).Next = (((j + 1) % 16 : Nat) : Int) := rfl
  unfold pgetS nxtP
  rw [if_neg (fun hc => hc hg)]
  dsimp only
  rw [hw, hn]
  rw [if_neg (by rw [List.length_cons]; omega), if_neg (by omega), if_neg (by omega), if_pos (by omega), if_neg (by omega), if_pos (by omega)]
theorem lost_core (l : List Int) (u1 m : Int) (hm : m = u1 ∨ m = 1) (lost : Nat) (hlost : m = lost) (hby : ∀ x ∈ l, 0 ≤ x ∧ x ≤ 255) (h7 : 7 < l.length) (h300 : l.length ≤ 300) (h1 : 1 ≤ lost) (h2 : lost < l.length / 7) (t : Int) (ht : t = ((lost + 1 : Nat) : Int)) :
    (∃ inv114 : Int → Getter → Prop, ∃ mu114 : Int → Getter → Nat, inv114 0 (⟨0, [], 0, 0, 0⟩ : Getter) ∧
        (∀ (x43 : Int) (yb98 : Getter), inv114 x43 yb98 →
        (((decide (x43 < ((partsS l).length : Int))) = true →
          ((0 ≤ x43 ∧ x43 < ((partsS l).length : Int)) ∧
          (∀ q147, (partsS l)[x43.toNat]? = some q147 →
          (q147.length ≤ 140737488355328 →
          (((x43 == m) = true →
            (inv114 (w64 (x43 + 1)) yb98 ∧ mu114 (w64 (x43 + 1)) yb98 < mu114 x43 yb98)) ∧
          ((x43 == m) = false →
            ((∀ x ∈ q147, 0 ≤ x ∧ x ≤ 255) ∧
            (((pgetS yb98 q147).2.1).length ≤ 140737488355328 →
            (((pgetS yb98 q147).2.2.1).length ≤ 140737488355328 →
            ((((pgetS yb98 q147).1).Data).length ≤ 140737488355328 →
            (((!((pgetS yb98 q147).2.2.2.2.2)) = true →
              (false = true)) ∧
            ((!((pgetS yb98 q147).2.2.2.2.2)) = false →
              (((((pgetS yb98 q147).2.2.2.1) != 0) = true →
                (((((pgetS yb98 q147).2.2.2.1) == 14) && (x43 == t)) = true)) ∧
              ((((pgetS yb98 q147).2.2.2.1) != 0) = false →
                (inv114 (w64 (x43 + 1)) ((pgetS yb98 q147).1) ∧ mu114 (w64 (x43 + 1)) ((pgetS yb98 q147).1) < mu114 x43 yb98))))))))))))))) ∧
        ((decide (x43 < ((partsS l).length : Int))) = false →
          (false = true))))) := by
  subst hlost ht
  have hc := parts_count l h7
  have hz : pcheckg (⟨0, [], 0, 0, 0⟩ : Getter) = 0 := by decide +kernel
  refine ⟨fun x g => ∃ i : Nat, x = i ∧ i ≤ lost + 1 ∧ (i = 0 → g = ⟨0, [], 0, 0, 0⟩) ∧ (0 < i → i ≤ lost → g = gj l 0 (i - 1) 0) ∧ (i = lost + 1 → g = gj l 0 (lost - 1) 0), fun x g => lost + 2 - x.toNat, ⟨0, rfl, by omega, fun _ => rfl, fun h => by omega, fun h => by omega⟩, ?_⟩
  rintro _ g ⟨i, rfl, hi, g0, g1, g2⟩
  refine ⟨fun h => ⟨by simp at h; omega, fun q hq _ => ?_⟩, fun h => ?_⟩
  · rw [Int.toNat_natCast] at hq
    have hsb := split_bytes l hby h7 h300 i q hq
    have ew : w64 ((i : Int) + 1) = ((i + 1 : Nat) : Int) := w64_succ i (by omega)
    rw [ew]
    refine ⟨fun h3 => ?_, fun h3 => ⟨hsb, fun _ _ _ => ?_⟩⟩
    · have h4 : i = lost := by have := beq_iff_eq.1 h3; omega
      subst h4
      refine ⟨⟨i + 1, rfl, by omega, fun h => by omega, fun _ h => by omega, fun _ => g1 (by omega) (by omega)⟩, ?_⟩
      show i + 2 - ((i + 1 : Nat) : Int).toNat < i + 2 - (i : Int).toNat
      omega
    · have h4 : i ≠ lost := fun hc => by subst hc; simp at h3
      by_cases hi0 : i = 0
      · subst hi0
        rw [g0 rfl]
        rw [parts_first l h7] at hq
        cases hq
        rw [get_first _ l hz h7 h300]
        refine ⟨fun h => (by cases h), fun _ => ⟨fun h => (by cases h), fun _ => ⟨⟨1, rfl, by omega, fun h => by omega, fun _ _ => ?_, fun h => by omega⟩, ?_⟩⟩⟩
        · unfold gj; simp
        · show lost + 2 - ((0 + 1 : Nat) : Int).toNat < lost + 2 - ((0 : Nat) : Int).toNat
          omega
      · obtain ⟨j, rfl⟩ : ∃ j, i = j + 1 := ⟨i - 1, by omega⟩
        rcases Nat.lt_or_ge j lost with hjl | hjl
        · rw [g1 (by omega) (by omega)]
          rw [Nat.add_sub_cancel]
          have hj : 6 + 7 * j < l.length := by omega
          rw [parts_next l h7 j hj] at hq
          cases hq
          have hgo := gj_ok l 0 j 0 h7 h300 hj (by omega) (by omega) (by omega)
          rw [get_next l 0 j 0 hgo h7 h300 hj, if_neg (by omega), if_neg (by omega)]
          refine ⟨fun h => (by cases h), fun _ => ⟨fun h => (by cases h), fun _ => ⟨⟨j + 2, rfl, by omega, fun h => by omega, fun _ _ => ?_, fun h => by omega⟩, ?_⟩⟩⟩
          · rfl
          · show lost + 2 - ((j + 1 + 1 : Nat) : Int).toNat < lost + 2 - ((j + 1 : Nat) : Int).toNat
            omega
        · have hj : j = lost := by omega
          subst hj
          rw [g2 rfl]
          obtain ⟨k, rfl⟩ : ∃ k, j = k + 1 := ⟨j - 1, by omega⟩
          rw [Nat.add_sub_cancel]
          have hj : 6 + 7 * (k + 1) < l.length := by omega
          rw [parts_next l h7 (k + 1) hj] at hq
          cases hq
          have hgo := gj_ok l 0 k 0 h7 h300 (by omega) (by omega) (by omega) (by omega)
          rw [lost_wrong l k h7 h300 hj hgo]
          refine ⟨fun h => (by cases h), fun _ => ⟨fun _ => ?_, fun h => (by cases h)⟩⟩
          simp [gerr]
  · exfalso
    have := of_decide_eq_false h
    rw [hc] at this
    omega
theorem LPLost_ok (l : List Int) (u1 : Int) (k0 : (∀ y0 ∈ l, IntKind.u8.min ≤ y0 ∧ y0 ≤ IntKind.u8.max) ∧ l.length * 1 ≤ lim) (k1 : IntKind.i64.min ≤ u1 ∧ u1 ≤ IntKind.i64.max) : LPLost_vc l u1 (fun r => r = true) := by
  intro hl _
  refine ⟨fun _ => rfl, fun h => ?_⟩
  have h0 : (psplitS l).2 = 0 := by
    refine Classical.byContradiction fun hc => ?_
    simp [hc] at h
  obtain ⟨a1, a2, a3⟩ := psplit_zero l h0
  rw [a3] at h ⊢
  dsimp only at h ⊢
  have h7 : 7 < l.length := by
    refine Classical.byContradiction fun hc => ?_
    rw [parts_single l (by omega)] at h
    simp at h
  have hc := parts_count l h7
  have h3 : 3 ≤ (partsS l).length := by simp at h; omega
  have hw : w64 (((partsS l).length : Int) - 1) = ((l.length / 7 : Nat) : Int) := by rw [hc, w64_eq _ (by omega)]; omega
  rw [hw]
  refine ⟨fun h4 => lost_core l u1 1 (.inr rfl) 1 rfl (kbytes k0) h7 a2 (by omega) (by omega) 2 rfl, fun h4 => ?_⟩
  have h5 : 1 ≤ u1 ∧ u1 < ((l.length / 7 : Nat) : Int) := by
    simp only [Bool.or_eq_false_iff, decide_eq_false_iff_not] at h4
    omega
  exact lost_core l u1 u1 (.inl rfl) u1.toNat (by omega) (kbytes k0) h7 a2 (by omega) (by omega) (w64 (u1 + 1)) (by rw [w64_eq _ (by omega)]; omega)
theorem LPAnew_ok (g : Getter) (l : List Int) (k0 : okGetter g) (k1 : (∀ y0 ∈ l, IntKind.u8.min ≤ y0 ∧ y0 ≤ IntKind.u8.max) ∧ l.length * 1 ≤ lim) : LPAnew_vc g l (fun r => r = true) := by
  intro _ hl _
  refine ⟨fun _ => rfl, fun h => ?_⟩
  have h0 : (psplitS l).2 = 0 := by
    refine Classical.byContradiction fun hc => ?_
    simp [hc] at h
  have hg : pcheckg g = 0 := by
    refine Classical.byContradiction fun hc => ?_
    simp [hc] at h
  obtain ⟨g1, g2, g3, g4, g5, g6, g7, g8, _, _⟩ := pcheckg_zero g hg
  obtain ⟨a1, a2, a3⟩ := psplit_zero l h0
  rw [a3]
  dsimp only
  have hqq : beqS l l = true := (beqS_iff _ _).2 rfl
  by_cases h7 : l.length ≤ 7
  · rw [parts_single l h7]
    refine ⟨fun x y => x = 0 ∧ y = g, fun _ _ => 0, ⟨rfl, rfl⟩, ?_⟩
    rintro _ _ ⟨rfl, rfl⟩
    refine ⟨fun _ => ⟨by simp, fun q hq _ => ?_⟩, fun h => by simp at h⟩
    have hq : (l.length : Int) :: l = q := by simpa using hq
    subst hq
    rw [get_single _ l hg a1 h7]
    refine ⟨fun x hx => ?_, fun _ _ _ => ⟨fun h => (by cases h), fun _ => ⟨fun h => ?_, fun _ => ⟨fun _ => ?_, fun h => (by cases h)⟩⟩⟩⟩
    · simp only [List.mem_cons] at hx
      rcases hx with rfl | hx
      · omega
      · exact kbytes k1 x hx
    · exact absurd h (by show ¬ ((true != ((0 : Int) == w64 (1 - 1))) = true); decide)
    · rw [hqq]; rfl
  · have h7 : 7 < l.length := by omega
    have hc := parts_count l h7
    have hw : w64 (((partsS l).length : Int) - 1) = ((l.length / 7 : Nat) : Int) := by rw [hc, w64_eq _ (by omega)]; omega
    rw [hw]
    refine ⟨fun x y => ∃ i : Nat, x = i ∧ i ≤ l.length / 7 ∧ (i = 0 → y = g) ∧ (0 < i → ∃ lf, y = gj l g.Block (i - 1) lf ∧ 0 ≤ lf ∧ lf ≤ g.Block ∧ (0 < g.Block → lf ≠ 0)), fun x _ => 100 - x.toNat, ⟨0, rfl, by omega, fun _ => rfl, fun h => by omega⟩, ?_⟩
    rintro _ y ⟨i, rfl, hi, y0, y1⟩
    refine ⟨fun h => ⟨by omega, fun q hq _ => ?_⟩, fun h => ?_⟩
    · rw [Int.toNat_natCast] at hq
      have hsb := split_bytes l (kbytes k1) h7 a2 i q hq
      refine ⟨hsb, fun _ _ _ => ?_⟩
      have ew : w64 ((i : Int) + 1) = ((i + 1 : Nat) : Int) := w64_succ i (by omega)
      rw [ew]
      by_cases hi0 : i = 0
      · subst hi0
        rw [y0 rfl]
        rw [parts_first l h7] at hq
        cases hq
        rw [get_first _ l hg h7 a2]
        have e0 : (((0 : Nat) : Int) == ((l.length / 7 : Nat) : Int)) = false := by simp; omega
        rw [e0]
        refine ⟨fun h => (by cases h), fun _ => ⟨fun h => (by cases h), fun _ => ⟨fun h => (by cases h), fun _ => ⟨⟨1, rfl, by omega, fun h => by omega, fun _ => ⟨g.Block, ?_, by omega, by omega, by omega⟩⟩, ?_⟩⟩⟩⟩
        · unfold gj; simp
        · show 100 - ((0 + 1 : Nat) : Int).toNat < 100 - ((0 : Nat) : Int).toNat
          omega
      · obtain ⟨j, rfl⟩ : ∃ j, i = j + 1 := ⟨i - 1, by omega⟩
        obtain ⟨lf, rfl, l1, l2, l3⟩ := y1 (by omega)
        rw [Nat.add_sub_cancel]
        have hj : 6 + 7 * j < l.length := by omega
        rw [parts_next l h7 j hj] at hq
        cases hq
        have hgo := gj_ok l g.Block j lf h7 a2 hj (by omega) (by omega) l3
        rw [get_next l g.Block j lf hgo h7 a2 hj]
        have hmu : 100 - ((j + 1 + 1 : Nat) : Int).toNat < 100 - ((j + 1 : Nat) : Int).toNat := by omega
        by_cases he : l.length ≤ 6 + 7 * (j + 1)
        · rw [if_pos he]
          have e0 : (((j + 1 : Nat) : Int) == ((l.length / 7 : Nat) : Int)) = true := by simp; omega
          rw [e0]
          refine ⟨fun h => (by cases h), fun _ => ⟨fun h => (by cases h), fun _ => ⟨fun _ => ?_, fun h => (by cases h)⟩⟩⟩
          dsimp only
          rw [hqq]; rfl
        · rw [if_neg he]
          have e0 : (((j + 1 : Nat) : Int) == ((l.length / 7 : Nat) : Int)) = false := by simp; omega
          rw [e0]
          by_cases hb : 0 < g.Block
          · rw [if_pos hb]
            by_cases h1 : lf - 1 = 0
            · rw [if_pos h1]
              exact ⟨fun h => (by cases h), fun _ => ⟨fun h => (by cases h), fun _ => ⟨fun h => (by cases h), fun _ => ⟨⟨j + 2, rfl, by omega, fun h => by omega, fun _ => ⟨g.Block, rfl, by omega, by omega, by omega⟩⟩, hmu⟩⟩⟩⟩
            · rw [if_neg h1]
              exact ⟨fun h => (by cases h), fun _ => ⟨fun h => (by cases h), fun _ => ⟨fun h => (by cases h), fun _ => ⟨⟨j + 2, rfl, by omega, fun h => by omega, fun _ => ⟨lf - 1, rfl, by omega, by omega, by omega⟩⟩, hmu⟩⟩⟩⟩
          · rw [if_neg hb]
            exact ⟨fun h => (by cases h), fun _ => ⟨fun h => (by cases h), fun _ => ⟨fun h => (by cases h), fun _ => ⟨⟨j + 2, rfl, by omega, fun h => by omega, fun _ => ⟨lf, rfl, by omega, by omega, by omega⟩⟩, hmu⟩⟩⟩⟩
    · exfalso
      have := of_decide_eq_false h
      omega

theorem rcheckg_eq (g : Getter) : rcheckg g = pcheckg g := by
  have e1 : ((((!(pin g.Want 300)) || (!(pin g.Block 255))) || (!(pin g.Left g.Block))) || (!(pin g.Next 15))) = ((((((((decide (g.Want < 0)) || (decide (g.Want > 300))) || (decide (g.Block < 0))) || (decide (g.Block > 255))) || (decide (g.Left < 0))) || (decide (g.Left > g.Block))) || (decide (g.Next < 0))) || (decide (g.Next > 15))) := by
    rw [Bool.eq_iff_iff]
    unfold pin
    simp only [Bool.or_eq_true, Bool.not_eq_true', Bool.and_eq_false_iff, decide_eq_true_eq, decide_eq_false_iff_not]
    omega
  unfold rcheckg pcheckg
  rw [e1]
  generalize hX : ((((((((decide (g.Want < 0)) || (decide (g.Want > 300))) || (decide (g.Block < 0))) || (decide (g.Block > 255))) || (decide (g.Left < 0))) || (decide (g.Left > g.Block))) || (decide (g.Next < 0))) || (decide (g.Next > 15))) = X
  cases X with
  | true => rfl
  | false =>
    simp only [Bool.or_eq_false_iff, decide_eq_false_iff_not] at hX
    rw [cond_false, cond_false]
    by_cases h : g.Want = 0
    · have e2 : (g.Want == 0) = true := by simpa using h
      have e3 : decide (g.Want > 0) = false := by simp; omega
      have e4 : decide ((g.Data.length : Int) > 0) = ((g.Data.length : Int) != 0) := by
        generalize g.Data.length = n
        rw [Bool.eq_iff_iff]; simp
        omega
      rw [e2, e3, e4]
      simp only [Bool.true_and, Bool.false_and, cond_true, cond_false]
    · have e2 : (g.Want == 0) = false := by simpa using h
      have e3 : decide (g.Want > 0) = true := by simp; omega
      have e5 : ((g.Left == 0) && (g.Block != 0)) = ((decide (g.Block > 0)) && (g.Left == 0)) := by
        rw [Bool.eq_iff_iff]; simp
        omega
      rw [e2, e3, e5]
      simp only [Bool.true_and, Bool.false_and, cond_false]
theorem LPGet_ok (g : Getter) (p : List Int) (k0 : okGetter g) (k1 : (∀ y0 ∈ p, IntKind.u8.min ≤ y0 ∧ y0 ≤ IntKind.u8.max) ∧ p.length * 1 ≤ lim) : LPGet_vc g p (fun r => r = true) := by
  intro _ hl
  refine ⟨k1.1, fun _ _ _ => ?_⟩
  rw [rcheckg_eq]
  refine ⟨fun h => by simp at h, fun _ => ⟨fun e say all want => (e ≠ 0 ∧ ((((((pgetS g p).2.2.2.1) == e) && (psameg ((pgetS g p).1) (⟨0, [], 0, 0, 0⟩ : Getter))) && ((((pgetS g p).2.1).length : Int) == 0)) && ((((pgetS g p).2.2.1).length : Int) == 0)) = true) ∨
    (e = 0 ∧ ((((((pgetS g p).2.2.2.1) == 0) && (psameg ((pgetS g p).1) want)) && (beqS ((pgetS g p).2.1) say)) && (beqS ((pgetS g p).2.2.1) all)) = true), ⟨fun h => ?_, fun h => ?_⟩, ?_⟩⟩
  · have hg : pcheckg g ≠ 0 := by simpa using h
    have : pgetS g p = gerr (pcheckg g) := by unfold pgetS; rw [if_pos hg]
    rw [this]
    refine .inl ⟨hg, ?_⟩
    simp [gerr]
    exact (psameg_iff _ _).2 rfl
  · have hg : pcheckg g = 0 := by simpa using h
    have hG : ¬ pcheckg g ≠ 0 := fun hc => hc hg
    obtain ⟨g1, g2, g3, g4, g5, g6, g7, g8, g9, g10⟩ := pcheckg_zero g hg
    refine ⟨fun h1 => ?_, fun h1 => ⟨fun h2 => ?_, fun h2 => ?_⟩⟩
    · have : p = [] := List.eq_nil_of_length_eq_zero (by simpa using h1)
      subst this
      have : pgetS g [] = gerr 7 := by unfold pgetS; rw [if_neg hG]
      rw [this]
      refine .inl ⟨by decide, ?_⟩
      simp [gerr]
      exact (psameg_iff _ _).2 rfl
    · cases p with
      | nil => simp at h1
      | cons c r =>
        have h3 : 8 < (c :: r).length := by have := of_decide_eq_true h2; omega
        have : pgetS g (c :: r) = gerr 2 := by unfold pgetS; rw [if_neg hG]; dsimp only; rw [if_pos h3]
        rw [this]
        refine .inl ⟨by decide, ?_⟩
        simp [gerr]
        exact (psameg_iff _ _).2 rfl
    · cases p with
      | nil => simp at h1
      | cons c r =>
        have h3 : ¬ 8 < (c :: r).length := by have := of_decide_eq_false h2; omega
        have hS : pgetS g (c :: r) = if c / 16 = 0 then (if c % 16 = 0 ∨ 7 < c % 16 ∨ (r.length : Int) ≠ c % 16 then gerr 4 else (⟨0, [], 0, g.Block, 0⟩, [], r, 0, true, false))
            else if c / 16 = 1 then (if r.length ≠ 7 then gerr 4 else
              if c % 16 * 256 + r.headD 0 < 8 then gerr 4
              else if 300 < c % 16 * 256 + r.headD 0 then (⟨0, [], 0, g.Block, 0⟩, [50, 0, 0], [], 0, false, true)
              else (⟨c % 16 * 256 + r.headD 0, r.drop 1, 1, g.Block, g.Block⟩, pflow g.Block, [], 0, false, true))
            else if c / 16 = 2 then (if g.Want = 0 then gerr 12 else if c % 16 ≠ g.Next then gerr 14
              else if (r.length : Int) ≠ min 7 (g.Want - g.Data.length) then gerr 4
              else if ((g.Data ++ r).length : Int) = g.Want then (⟨0, [], 0, g.Block, 0⟩, [], g.Data ++ r, 0, true, false)
              else if 0 < g.Block then (if g.Left - 1 = 0 then (⟨g.Want, g.Data ++ r, (g.Next + 1) % 16, g.Block, g.Block⟩, pflow g.Block, [], 0, false, true)
                else (⟨g.Want, g.Data ++ r, (g.Next + 1) % 16, g.Block, g.Left - 1⟩, [], [], 0, true, true))
              else (⟨g.Want, g.Data ++ r, (g.Next + 1) % 16, g.Block, g.Left⟩, [], [], 0, true, true))
            else gerr 8 := by
          conv => lhs; unfold pgetS
          rw [if_neg hG]
          dsimp only
          rw [if_neg h3]
        rw [hS]
        have hc : 0 ≤ c ∧ c ≤ 255 := k1.1 c (by simp)
        have hll : (c :: r).length = r.length + 1 := rfl
        have hr8 : r.length ≤ 7 := by have h9 := h3; rw [hll] at h9; omega
        have hE : ∀ (x : Int), (((((gerr x).2.2.2.1 == x) && psameg (gerr x).1 (⟨0, [], 0, 0, 0⟩ : Getter)) && (((gerr x).2.1.length : Int) == 0)) && (((gerr x).2.2.1.length : Int) == 0)) = true := by
          intro x
          have := (psameg_iff (gerr x).1 ⟨0, [], 0, 0, 0⟩).2 rfl
          rw [this]
          simp [gerr]
        have d1 : (c :: r).drop (1 : Int).toNat = r := rfl
        have d2 : (c :: r).drop (2 : Int).toNat = r.drop 1 := rfl
        rw [d1, d2]
        have q0 : ∀ q, (c :: r)[(0 : Int).toNat]? = some q → c = q := fun q hq => by simpa using hq
        rw [hll] at *
        have hlen : (0 ≤ (0 : Int) ∧ (0 : Int) < ((r.length + 1 : Nat) : Int)) := by omega
        have hok : ∀ (a b : Getter) (x y z t : List Int) (u v : Bool), a = b → x = y → z = t → (((((((a, x, z, (0 : Int), u, v) : Getter × List Int × List Int × Int × Bool × Bool).2.2.2.1 == 0) && psameg ((a, x, z, (0 : Int), u, v) : Getter × List Int × List Int × Int × Bool × Bool).1 b) && beqS ((a, x, z, (0 : Int), u, v) : Getter × List Int × List Int × Int × Bool × Bool).2.1 y) && beqS ((a, x, z, (0 : Int), u, v) : Getter × List Int × List Int × Int × Bool × Bool).2.2.1 t)) = true := by
          rintro a b x y z t u v rfl rfl rfl
          simp only [Bool.and_eq_true]
          exact ⟨⟨⟨rfl, (psameg_iff _ _).2 rfl⟩, (beqS_iff _ _).2 rfl⟩, (beqS_iff _ _).2 rfl⟩
        refine ⟨hlen, fun q hq => ?_⟩
        obtain rfl := q0 q hq
        refine ⟨fun h4 => ?_, fun h4 => ⟨hlen, fun q hq => ?_⟩⟩
        · have h4 := of_decide_eq_true h4
          have hm : c % 16 = c := by omega
          have ew : w64 (w64 c + 1) = c + 1 := by rw [w64_eq c (by omega), w64_eq _ (by omega)]
          rw [if_pos (show c / 16 = 0 by omega), hm]
          refine ⟨by omega, hlen, fun q hq => ?_⟩
          obtain rfl := q0 q hq
          refine ⟨fun h5 => ?_, fun h5 => ⟨hlen, fun q hq => ?_⟩⟩
          · rw [if_pos (.inl (by simpa using h5))]
            exact .inl ⟨by decide, hE 4⟩
          · obtain rfl := q0 q hq
            refine ⟨fun h6 => ?_, fun h6 => ⟨hlen, fun q hq => ?_⟩⟩
            · rw [if_pos (.inr (.inl (by simpa using h6)))]
              exact .inl ⟨by decide, hE 4⟩
            · obtain rfl := q0 q hq
              rw [ew]
              have h5 : c ≠ 0 := by simpa using h5
              have h6 := of_decide_eq_false h6
              refine ⟨fun h7 => ?_, fun h7 => ?_⟩
              · have h7 : ¬ ((r.length + 1 : Nat) : Int) = c + 1 := by simpa using h7
                rw [if_pos (.inr (.inr (by omega)))]
                exact .inl ⟨by decide, hE 4⟩
              · have h7 : ((r.length + 1 : Nat) : Int) = c + 1 := by simpa using h7
                rw [if_neg (by omega)]
                exact .inr ⟨hg, hok _ _ _ _ _ _ _ _ rfl rfl rfl⟩
        · obtain rfl := q0 q hq
          have h4 := of_decide_eq_false h4
          rw [if_neg (show ¬ c / 16 = 0 by omega)]
          refine ⟨fun h5 => ?_, fun h5 => ⟨hlen, fun q hq => ?_⟩⟩
          · have h5 := of_decide_eq_true h5
            rw [if_pos (show c / 16 = 1 by omega)]
            refine ⟨fun h6 => ⟨hlen, fun q hq => ?_⟩, fun h6 => ⟨fun h7 => ?_, fun h7 => by simp at h7⟩⟩
            · obtain rfl := q0 q hq
              cases r with
              | nil => simp at h6
              | cons b r =>
                have hb : 0 ≤ b ∧ b ≤ 255 := k1.1 b (by simp)
                refine ⟨by simp; omega, fun q hq => ?_⟩
                obtain rfl : b = q := by simpa using hq
                have hd : (b :: r).headD 0 = b := rfl
                have en : w64 (w64 (w64 (w8 (c - 16)) * 256) + w64 b) = c % 16 * 256 + b := by
                  rw [w8_eq _ (by omega), w64_eq (c - 16) (by omega), w64_eq ((c - 16) * 256) (by omega), w64_eq b (by omega), w64_eq _ (by omega)]
                  omega
                rw [en, hd]
                refine ⟨fun h7 => ?_, fun h7 => ⟨fun h8 => ?_, fun h8 => ⟨by simp; omega, ?_⟩⟩⟩
                · simp only [Bool.or_eq_true, bne_iff_ne, ne_eq, decide_eq_true_eq] at h7
                  by_cases h9 : (b :: r).length = 7
                  · rw [if_neg (by omega), if_pos (by omega)]
                    exact .inl ⟨by decide, hE 4⟩
                  · rw [if_pos h9]
                    exact .inl ⟨by decide, hE 4⟩
                · simp only [Bool.or_eq_false_iff, bne_eq_false_iff_eq, decide_eq_false_iff_not] at h7
                  have h8 := of_decide_eq_true h8
                  rw [if_neg (by omega), if_neg (by omega), if_pos (by omega)]
                  exact .inr ⟨hg, hok _ _ _ _ _ _ _ _ rfl rfl rfl⟩
                · simp only [Bool.or_eq_false_iff, bne_eq_false_iff_eq, decide_eq_false_iff_not] at h7
                  have h8 := of_decide_eq_false h8
                  rw [if_neg (by omega), if_neg (by omega), if_neg (by omega)]
                  exact .inr ⟨hg, hok _ _ _ _ _ _ _ _ rfl rfl rfl⟩
            · have h6 := of_decide_eq_false h6
              rw [if_pos (by omega)]
              exact .inl ⟨by decide, hE 4⟩
          · obtain rfl := q0 q hq
            have h5 := of_decide_eq_false h5
            rw [if_neg (show ¬ c / 16 = 1 by omega)]
            refine ⟨fun h6 => ?_, fun h6 => ?_⟩
            · have h6 := of_decide_eq_true h6
              rw [if_pos (show c / 16 = 2 by omega)]
              refine ⟨fun h7 => ?_, fun h7 => ⟨hlen, fun q hq => ?_⟩⟩
              · rw [if_pos (by simpa using h7)]
                exact .inl ⟨by decide, hE 12⟩
              · obtain rfl := q0 q hq
                have h7 : ¬ g.Want = 0 := by simpa using h7
                obtain ⟨k1', k2, k3, k4, k5, k6⟩ := g10 (by omega)
                have ew : w64 (w8 (c - 32)) = c % 16 := by rw [w8_eq _ (by omega), w64_eq _ (by omega)]; omega
                have e2 : w64 (g.Want - (g.Data.length : Int)) = g.Want - (g.Data.length : Int) := w64_eq _ (by omega)
                have e3 : w64 (1 + min 7 (g.Want - (g.Data.length : Int))) = 1 + min 7 (g.Want - (g.Data.length : Int)) := w64_eq _ (by omega)
                have e4 : w64 (w64 ((g.Data.length : Int) + ((r.length + 1 : Nat) : Int)) - 1) = (g.Data.length : Int) + r.length := by rw [w64_eq ((g.Data.length : Int) + ((r.length + 1 : Nat) : Int)) (by omega), w64_eq _ (by omega)]; omega
                have e5 : w64 (g.Left - 1) = g.Left - 1 := w64_eq _ (by omega)
                have e6 : (w64 (g.Next + 1)).tmod 16 = (g.Next + 1) % 16 := by rw [w64_eq _ (by omega), tmod_nn _ _ (by omega)]
                have e7 : bconcatS [g.Data, r] = g.Data ++ r := by simp [bconcatS]
                rw [ew, e2, e3, e4, e5, e6, e7, if_neg h7]
                have hpre : (∀ l ∈ ([g.Data, r] : List (List Int)), l.length ≤ 1048576) ∧ ([g.Data, r] : List (List Int)).length ≤ 2 := by
                  refine ⟨fun l hl => ?_, by simp⟩
                  simp only [List.mem_cons, List.not_mem_nil, or_false] at hl
                  rcases hl with rfl | rfl <;> omega
                refine ⟨fun h8 => ?_, fun h8 => ⟨fun h9 => ?_, fun h9 => ?_⟩⟩
                · rw [if_pos (by simpa using h8)]
                  exact .inl ⟨by decide, hE 14⟩
                · have h8 : c % 16 = g.Next := by simpa using h8
                  rw [if_neg (fun hc => hc h8), if_pos (by simp only [bne_iff_ne, ne_eq] at h9; omega)]
                  exact .inl ⟨by decide, hE 4⟩
                · have h8 : c % 16 = g.Next := by simpa using h8
                  rw [if_neg (fun hc => hc h8), if_neg (by simp only [bne_eq_false_iff_eq] at h9; omega), List.length_append]
                  refine ⟨fun ha => ⟨by omega, hpre, ?_⟩, fun ha => ⟨by omega, hpre, fun hb => ⟨fun hd => ?_, fun hd => ?_⟩, fun hb => ?_⟩⟩
                  · rw [if_pos (by have := beq_iff_eq.1 ha; omega)]
                    exact .inr ⟨hg, hok _ _ _ _ _ _ _ _ rfl rfl rfl⟩
                  · have ha := beq_eq_false_iff_ne.1 ha
                    rw [if_neg (by omega), if_pos (by simpa using hb), if_pos (by simpa using hd)]
                    exact .inr ⟨hg, hok _ _ _ _ _ _ _ _ rfl rfl rfl⟩
                  · have ha := beq_eq_false_iff_ne.1 ha
                    rw [if_neg (by omega), if_pos (by simpa using hb), if_neg (by simpa using hd)]
                    exact .inr ⟨hg, hok _ _ _ _ _ _ _ _ rfl rfl rfl⟩
                  · have ha := beq_eq_false_iff_ne.1 ha
                    rw [if_neg (by omega), if_neg (by have := of_decide_eq_false hb; omega)]
                    exact .inr ⟨hg, hok _ _ _ _ _ _ _ _ rfl rfl rfl⟩
            · have h6 := of_decide_eq_false h6
              rw [if_neg (show ¬ c / 16 = 2 by omega)]
              exact .inl ⟨by decide, hE 8⟩
  · rintro e say all want (⟨h1, h2⟩ | ⟨h1, h2⟩)
    · exact ⟨fun _ => h2, fun h => absurd (by simpa using h) h1⟩
    · exact ⟨fun h => absurd h1 (by simpa using h), fun _ => h2⟩
theorem told_eq (s : Sender) (a b c : Int) (h0 : pchecks s = 0) (ha : 0 ≤ a ∧ a ≤ 255) : ptold s [a, b, c] = if a < 48 ∨ 50 < a then (zS, 4) else if s.Done = true ∨ s.Left ≠ -1 then (zS, 12) else if a = 48 then (⟨s.Data, s.At, s.Next, w64 b, s.Done⟩, 0) else if a = 50 then (zS, 11) else (s, 0) := by
  have hR := (pchecks_len s h0).2
  unfold SRange at hR
  have hs := byte_shr a ha
  have hn := byte_and a ha
  have e0 : ((([a, b, c] : List Int)[(0 : Int).toNat]?).getD default) = a := rfl
  have e1 : ((([a, b, c] : List Int)[(1 : Int).toNat]?).getD default) = b := rfl
  have e2 : ((([a, b, c] : List Int).length : Int) != 3) = false := rfl
  unfold ptold
  simp only [h0, e0, e1, e2, hs, hn]
  have eb : (((0 : Int) != 0) = false) := rfl
  rw [eb]
  simp only [cond_false, bcloneS]
  by_cases h1 : a < 48 ∨ 50 < a
  · rw [if_pos h1]
    by_cases h2 : a / 16 = 3
    · have : decide (a % 16 > 2) = true := by simp; omega
      have h3 : (a / 16 != 3) = false := by simpa using h2
      rw [h3, this]; rfl
    · have h3 : (a / 16 != 3) = true := by simpa using h2
      rw [h3]; rfl
  · rw [if_neg h1]
    have h3 : (a / 16 != 3) = false := by simp; omega
    have h4 : decide (a % 16 > 2) = false := by simp; omega
    rw [h3, h4]
    simp only [cond_false]
    have h5 : (s.Done || decide (s.Left ≥ 0)) = decide (s.Done = true ∨ s.Left ≠ -1) := by
      rw [Bool.eq_iff_iff]
      simp only [Bool.or_eq_true, decide_eq_true_eq]
      cases s.Done
      · simp; omega
      · simp
    rw [h5]
    by_cases h6 : s.Done = true ∨ s.Left ≠ -1
    · rw [if_pos h6, decide_eq_true h6]; rfl
    · rw [if_neg h6, decide_eq_false h6]
      simp only [cond_false]
      have h7 : a = 48 ∨ a = 49 ∨ a = 50 := by omega
      rcases h7 with rfl | rfl | rfl <;> rfl
theorem sj_form (s : Sender) (h0 : pchecks s = 0) (hd : s.Done = false) : 7 < s.Data.length ∧ s.Data.length ≤ 300 ∧ ∃ j : Nat, 6 + 7 * j < s.Data.length ∧ s = sj s.Data j s.Left := by
  obtain ⟨hl, hR⟩ := pchecks_len s h0
  have hR' := hR
  unfold SRange at hR'
  have h7 : 7 < s.Data.length := by
    refine Classical.byContradiction fun hc => ?_
    rw [pchecks_short s hR (by omega), hd] at h0
    split at h0
    · cases h0
    · rw [if_pos rfl] at h0; cases h0
  refine ⟨h7, hl, ((s.At - 6) / 7).toNat, ?_⟩
  rw [pchecks_long s hl hR h7, hd] at h0
  by_cases h1 : (false : Bool) ≠ decide (s.At = s.Data.length) ∨ ((false : Bool) = true ∧ s.Left ≠ 0)
  · rw [if_pos h1] at h0; cases h0
  · rw [if_neg h1] at h0
    by_cases h2 : s.At < 6 ∨ ((false : Bool) = false ∧ (s.At - 6) % 7 ≠ 0)
    · rw [if_pos h2] at h0; cases h0
    · rw [if_neg h2] at h0
      by_cases h3 : s.Next ≠ (s.At / 7 + 1) % 16
      · rw [if_pos h3] at h0; cases h0
      · have h4 : ¬ s.At = s.Data.length := fun hc => h1 (.inl (by rw [decide_eq_true hc]; decide))
        have h5 : (s.At - 6) % 7 = 0 := Classical.byContradiction fun hc => h2 (.inr ⟨rfl, hc⟩)
        have h6 : ¬ s.At < 6 := fun hc => h2 (.inl hc)
        have h8 : s.Next = (s.At / 7 + 1) % 16 := Classical.byContradiction h3
        have hj : 6 + 7 * ((s.At - 6) / 7).toNat < s.Data.length := by omega
        refine ⟨hj, ?_⟩
        unfold sj
        have e1 : ((min (6 + 7 * ((s.At - 6) / 7).toNat) s.Data.length : Nat) : Int) = s.At := by omega
        have e2 : ((((((s.At - 6) / 7).toNat + 1) % 16 : Nat)) : Int) = s.Next := by omega
        have e3 : decide (s.Data.length ≤ 6 + 7 * ((s.At - 6) / 7).toNat) = s.Done := by rw [hd]; simp; omega
        rw [e1, e2, e3]
theorem told_tail (s : Sender) (h0 : pchecks s = 0) :
    (((s.Done || (s.Left == (-1))) = true →
      (((((pnext s).2.2) == 12) && (psames ((pnext s).1) (⟨[], 0, 0, 0, false⟩ : Sender))) && ((((pnext s).2.1).length : Int) == 0)) = true) ∧
    ((s.Done || (s.Left == (-1))) = false →
      ((s.Data.length ≤ 300) ∧
      ((ppartsofS s.Data).length ≤ 140737488355328 →
      ((((min (w64 (s.At + 7)) (s.Data.length : Int)) == (s.Data.length : Int)) = true →
        (((((pnext s).2.2) == 0) = true →
          ((0 ≤ w64 ((w64 ((w64 (s.At - 6)).tdiv 7)) + 1) ∧ w64 ((w64 ((w64 (s.At - 6)).tdiv 7)) + 1) < ((ppartsofS s.Data).length : Int)) ∧
          (∀ q490, (ppartsofS s.Data)[(w64 ((w64 ((w64 (s.At - 6)).tdiv 7)) + 1)).toNat]? = some q490 →
          (q490.length ≤ 140737488355328 →
          (((beqS ((pnext s).2.1) q490) && (psames ((pnext s).1) (⟨s.Data, min (w64 (s.At + 7)) (s.Data.length : Int), (w64 (s.Next + 1)).tmod 16, 0, (min (w64 (s.At + 7)) (s.Data.length : Int)) == (s.Data.length : Int)⟩ : Sender))) = true))))) ∧
        ((((pnext s).2.2) == 0) = false →
          (false = true)))) ∧
      (((min (w64 (s.At + 7)) (s.Data.length : Int)) == (s.Data.length : Int)) = false →
        (((s.Left == 1) = true →
          (((((pnext s).2.2) == 0) = true →
            ((0 ≤ w64 ((w64 ((w64 (s.At - 6)).tdiv 7)) + 1) ∧ w64 ((w64 ((w64 (s.At - 6)).tdiv 7)) + 1) < ((ppartsofS s.Data).length : Int)) ∧
            (∀ q598, (ppartsofS s.Data)[(w64 ((w64 ((w64 (s.At - 6)).tdiv 7)) + 1)).toNat]? = some q598 →
            (q598.length ≤ 140737488355328 →
            (((beqS ((pnext s).2.1) q598) && (psames ((pnext s).1) (⟨s.Data, min (w64 (s.At + 7)) (s.Data.length : Int), (w64 (s.Next + 1)).tmod 16, -1, (min (w64 (s.At + 7)) (s.Data.length : Int)) == (s.Data.length : Int)⟩ : Sender))) = true))))) ∧
          ((((pnext s).2.2) == 0) = false →
            (false = true)))) ∧
        ((s.Left == 1) = false →
          (((decide (s.Left > 1)) = true →
            (((((pnext s).2.2) == 0) = true →
              ((0 ≤ w64 ((w64 ((w64 (s.At - 6)).tdiv 7)) + 1) ∧ w64 ((w64 ((w64 (s.At - 6)).tdiv 7)) + 1) < ((ppartsofS s.Data).length : Int)) ∧
              (∀ q711, (ppartsofS s.Data)[(w64 ((w64 ((w64 (s.At - 6)).tdiv 7)) + 1)).toNat]? = some q711 →
              (q711.length ≤ 140737488355328 →
              (((beqS ((pnext s).2.1) q711) && (psames ((pnext s).1) (⟨s.Data, min (w64 (s.At + 7)) (s.Data.length : Int), (w64 (s.Next + 1)).tmod 16, w64 (s.Left - 1), (min (w64 (s.At + 7)) (s.Data.length : Int)) == (s.Data.length : Int)⟩ : Sender))) = true))))) ∧
            ((((pnext s).2.2) == 0) = false →
              (false = true)))) ∧
          ((decide (s.Left > 1)) = false →
            (((((pnext s).2.2) == 0) = true →
              ((0 ≤ w64 ((w64 ((w64 (s.At - 6)).tdiv 7)) + 1) ∧ w64 ((w64 ((w64 (s.At - 6)).tdiv 7)) + 1) < ((ppartsofS s.Data).length : Int)) ∧
              (∀ q803, (ppartsofS s.Data)[(w64 ((w64 ((w64 (s.At - 6)).tdiv 7)) + 1)).toNat]? = some q803 →
              (q803.length ≤ 140737488355328 →
              (((beqS ((pnext s).2.1) q803) && (psames ((pnext s).1) (⟨s.Data, min (w64 (s.At + 7)) (s.Data.length : Int), (w64 (s.Next + 1)).tmod 16, s.Left, (min (w64 (s.At + 7)) (s.Data.length : Int)) == (s.Data.length : Int)⟩ : Sender))) = true))))) ∧
            ((((pnext s).2.2) == 0) = false →
              (false = true))))))))))))) := by
  obtain ⟨hl, hR⟩ := pchecks_len s h0
  have hR' := hR
  unfold SRange at hR'
  refine ⟨fun h => ?_, fun h => ⟨hl, fun _ => ?_⟩⟩
  · have h2 : (s.Done || decide (s.Left < 0)) = true := by
      simp only [Bool.or_eq_true, beq_iff_eq, decide_eq_true_eq] at h ⊢
      exact h.imp id (by omega)
    have : pnext s = (⟨[], 0, 0, 0, false⟩, [], 12) := by
      unfold pnext
      rw [h0, h2]
      rfl
    rw [this]
    simp
    exact (psames_iff _ _).2 rfl
  · simp only [Bool.or_eq_false_iff, beq_eq_false_iff_ne] at h
    obtain ⟨h7, _, j, hj, hs⟩ := sj_form s h0 h.1
    have hA : s.At = ((6 + 7 * j : Nat) : Int) := by rw [hs]; show ((min (6 + 7 * j) s.Data.length : Nat) : Int) = _; omega
    have hN : s.Next = (((j + 1) % 16 : Nat) : Int) := by rw [hs]; rfl
    have hn := next_sent s.Data j s.Left h7 hl hj (by omega)
    rw [← hs] at hn
    have hp : ppartsofS s.Data = partsS s.Data := rfl
    have hpc := parts_count s.Data h7
    have w1 : w64 (s.At + 7) = ((6 + 7 * (j + 1) : Nat) : Int) := by rw [w64_eq _ (by omega)]; omega
    have w2 : w64 ((w64 ((w64 (s.At - 6)).tdiv 7)) + 1) = ((j + 1 : Nat) : Int) := by
      rw [w64_eq (s.At - 6) (by omega), tdiv_nn _ _ (by omega), w64_eq ((s.At - 6) / 7) (by omega), w64_eq _ (by omega)]
      omega
    have w3 : (w64 (s.Next + 1)).tmod 16 = (((j + 1 + 1) % 16 : Nat) : Int) := by rw [hN, w64_eq _ (by omega), tmod_nn _ _ (by omega)]; omega
    have w4 : w64 (s.Left - 1) = s.Left - 1 := w64_eq _ (by omega)
    have hidx : 0 ≤ ((j + 1 : Nat) : Int) ∧ ((j + 1 : Nat) : Int) < ((partsS s.Data).length : Int) := by omega
    rw [hn, hp, w1, w2, w3, w4]
    have hq : ∀ q, (partsS s.Data)[((j + 1 : Nat) : Int).toNat]? = some q → nxtP s.Data j = q := by
      intro q hq
      rw [Int.toNat_natCast, parts_next s.Data h7 j hj] at hq
      exact Option.some.inj hq
    have hmn : min ((6 + 7 * (j + 1) : Nat) : Int) (s.Data.length : Int) = ((min (6 + 7 * (j + 1)) s.Data.length : Nat) : Int) := by omega
    rw [hmn]
    have key : ∀ (lf : Int) (d : Bool), d = decide (s.Data.length ≤ 6 + 7 * (j + 1)) → ∀ (x : Int), x = lf →
        (psames (sj s.Data (j + 1) lf) (⟨s.Data, ((min (6 + 7 * (j + 1)) s.Data.length : Nat) : Int), (((j + 1 + 1) % 16 : Nat) : Int), x, d⟩ : Sender)) = true := by
      rintro lf d rfl x rfl
      exact (psames_iff _ _).2 rfl
    have hdec : ((((min (6 + 7 * (j + 1)) s.Data.length : Nat) : Int) == (s.Data.length : Int))) = decide (s.Data.length ≤ 6 + 7 * (j + 1)) := by
      rw [Bool.eq_iff_iff]; simp only [beq_iff_eq, decide_eq_true_eq]; omega
    rw [hdec]
    have hz : ∀ q, (partsS s.Data)[((j + 1 : Nat) : Int).toNat]? = some q → beqS (nxtP s.Data j) q = true := fun q hq' => (beqS_iff _ _).2 (hq q hq')
    refine ⟨fun h1 => ⟨fun _ => ⟨hidx, fun q hq' _ => ?_⟩, fun h2 => by cases h2⟩, fun h1 => ⟨fun h2 => ⟨fun _ => ⟨hidx, fun q hq' _ => ?_⟩, fun h2 => by cases h2⟩, fun h2 => ⟨fun h3 => ⟨fun _ => ⟨hidx, fun q hq' _ => ?_⟩, fun h2 => by cases h2⟩, fun h3 => ⟨fun _ => ⟨hidx, fun q hq' _ => ?_⟩, fun h2 => by cases h2⟩⟩⟩⟩
    all_goals
      dsimp only
      rw [hz q hq', Bool.true_and]
    · rw [if_pos (of_decide_eq_true h1)]
      exact key _ _ rfl _ rfl
    · rw [if_neg (of_decide_eq_false h1), if_pos (by simpa using h2)]
      exact key _ _ rfl _ rfl
    · rw [if_neg (of_decide_eq_false h1), if_neg (by simpa using h2), if_pos (by simpa using h3)]
      exact key _ _ rfl _ rfl
    · rw [if_neg (of_decide_eq_false h1), if_neg (by simpa using h2), if_neg (by simpa using h3)]
      exact key _ _ rfl _ rfl
theorem LPTold_ok (s : Sender) (p : List Int) (k0 : okSender s) (k1 : (∀ y0 ∈ p, IntKind.u8.min ≤ y0 ∧ y0 ≤ IntKind.u8.max) ∧ p.length * 1 ≤ lim) : LPTold_vc s p (fun r => r = true) := by
  intro _ hl _ _ _
  refine ⟨fun h => by simp at h, fun _ => ⟨fun h => ?_, fun h => ?_⟩⟩
  · have h1 : (pchecks s != 0) = true := h
    have e1 : ptold s p = (⟨[], 0, 0, 0, false⟩, pchecks s) := by unfold ptold; rw [h1]; rfl
    have e2 : pnext s = (⟨[], 0, 0, 0, false⟩, [], pchecks s) := by unfold pnext; rw [h1]; rfl
    rw [e1, e2]
    simp
    exact (psames_iff _ _).2 rfl
  · have h0 : pchecks s = 0 := by simpa using h
    have hz : ∀ x : Int, ((((zS, x) : Sender × Int).2 != x) || (!(psames ((zS, x) : Sender × Int).1 (⟨[], 0, 0, 0, false⟩ : Sender)))) = false := by
      intro x
      have : psames zS (⟨[], 0, 0, 0, false⟩ : Sender) = true := (psames_iff _ _).2 rfl
      rw [this]; simp
    have hno : ∀ (x : Int) (y : Sender), x ≠ 0 → ptold s p = (zS, x) → ((((((ptold s p).2) != x) || ((x != 0) && (!(psames ((ptold s p).1) (⟨[], 0, 0, 0, false⟩ : Sender))))) || ((x == 0) && (!(psames ((ptold s p).1) y))))) = false := by
      intro x y hx0 hx
      have e1 : (x != 0) = true := by simpa using hx0
      have e2 : (x == 0) = false := by simpa using hx0
      rw [hx, e1, e2, Bool.false_and, Bool.or_false, Bool.true_and]; exact hz x
    have hyes : ∀ t : Sender, ptold s p = (t, 0) → ((((((ptold s p).2) != (pchecks s)) || (((pchecks s) != 0) && (!(psames ((ptold s p).1) (⟨[], 0, 0, 0, false⟩ : Sender))))) || (((pchecks s) == 0) && (!(psames ((ptold s p).1) t))))) = false := by
      intro t ht
      rw [ht, h0]
      have : psames t t = true := (psames_iff _ _).2 rfl
      rw [this]; rfl
    have hT := told_tail s h0
    refine ⟨fun x y => ((((((ptold s p).2) != x) || ((x != 0) && (!(psames ((ptold s p).1) (⟨[], 0, 0, 0, false⟩ : Sender))))) || ((x == 0) && (!(psames ((ptold s p).1) y))))) = false, ⟨fun h1 => ?_, fun h1 => ?_⟩, fun x y h => ⟨fun hc => (by rw [h] at hc; cases hc), fun _ => hT⟩⟩
    · have e : ptold s p = (zS, 4) := by
        unfold ptold
        rw [h0, h1]
        rfl
      exact hno 4 _ (by decide) e
    · have h3 : p.length = 3 := by simp at h1; omega
      obtain ⟨a, b, c, rfl⟩ : ∃ a b c, p = [a, b, c] := by
        match p, h3 with
        | [a, b, c], _ => exact ⟨a, b, c, rfl⟩
      have ha : 0 ≤ a ∧ a ≤ 255 := k1.1 a (by simp)
      have hb : 0 ≤ b ∧ b ≤ 255 := k1.1 b (by simp)
      have e := told_eq s a b c h0 ha
      have q0 : ∀ q, ([a, b, c] : List Int)[(0 : Int).toNat]? = some q → a = q := fun q hq => by simpa using hq
      have hlen : (0 ≤ (0 : Int) ∧ (0 : Int) < (([a, b, c] : List Int).length : Int)) := by simp
      refine ⟨hlen, fun q hq => ?_⟩
      obtain rfl := q0 q hq
      refine ⟨fun h4 => ?_, fun h4 => ⟨hlen, fun q hq => ?_⟩⟩
      · rw [if_pos (.inl (of_decide_eq_true h4))] at e
        exact hno 4 _ (by decide) e
      · obtain rfl := q0 q hq
        have h4 := of_decide_eq_false h4
        refine ⟨fun h5 => ?_, fun h5 => ?_⟩
        · rw [if_pos (.inr (of_decide_eq_true h5))] at e
          exact hno 4 _ (by decide) e
        · have h5 := of_decide_eq_false h5
          rw [if_neg (by omega)] at e
          refine ⟨fun h6 => ?_, fun h6 => ⟨hlen, fun q hq => ?_⟩⟩
          · have h6 : s.Done = true ∨ s.Left ≠ -1 := by simpa using h6
            rw [if_pos h6] at e
            exact hno 12 _ (by decide) e
          · obtain rfl := q0 q hq
            have h6 : ¬ (s.Done = true ∨ s.Left ≠ -1) := by
              simp only [Bool.or_eq_false_iff, bne_eq_false_iff_eq] at h6
              rw [h6.1, h6.2]; simp
            rw [if_neg h6] at e
            refine ⟨fun h7 => ?_, fun h7 => ⟨hlen, fun q hq => ?_⟩⟩
            · have h7 : a = 50 := by simpa using h7
              rw [if_neg (by omega), if_pos h7] at e
              exact hno 11 _ (by decide) e
            · obtain rfl := q0 q hq
              have h7 : ¬ a = 50 := by simpa using h7
              refine ⟨fun h8 => ⟨by simp, fun q hq => ?_⟩, fun h8 => ?_⟩
              · obtain rfl : b = q := by simpa using hq
                rw [if_pos (by simpa using h8)] at e
                exact hyes _ e
              · rw [if_neg (by simpa using h8), if_neg h7] at e
                exact hyes _ e

end Go.Proofs.Ytkogkombalcgeaa
