/- Pure proofs: no program in sight. -/
import Derived.Test.YtkogkombalcgeaaVM
set_option linter.unusedVariables false
set_option linter.unusedSimpArgs false
namespace Go.Proofs.Ytkogkombalcgeaa
open Go.Sy Go.RowKit
theorem psamep_eq (a b : List (List Int)) : psamep a b = decide (a = b) := peqfS_eq a b
def pbeginS (l : List Int) : Sender × List Int × Int :=
  if (psplitS l).2 ≠ 0 then (⟨[], 0, 0, 0, false⟩, [], (psplitS l).2)
  else (if l.length ≤ 7 then ⟨l, l.length, 1, 0, true⟩ else ⟨l, 6, 1, -1, false⟩, (partsS l).headD [], 0)
theorem psplit_zero (l : List Int) (h : (psplitS l).2 = 0) : 0 < l.length ∧ l.length ≤ 300 ∧ psplitS l = (partsS l, 0) := by
  unfold psplitS at h ⊢
  by_cases h1 : l.length = 0
  · rw [if_pos h1] at h; cases h
  · by_cases h2 : 300 < l.length
    · rw [if_neg h1, if_pos h2] at h; cases h
    · rw [if_neg h1, if_neg h2]; exact ⟨by omega, by omega, rfl⟩
theorem parts_len (l : List Int) : ((partsS l).length = 1 ↔ l.length ≤ 7) ∧ 0 < (partsS l).length := by
  unfold partsS
  by_cases h : l.length ≤ 7
  · rw [if_pos h]; simp [h]
  · rw [if_neg h]
    obtain ⟨g, hg⟩ : ∃ g, l.length = g + 1 := ⟨l.length - 1, by omega⟩
    have hz : l.drop 6 ≠ [] := by
      intro hc
      have := congrArg List.length hc
      rw [List.length_drop] at this
      simp at this
      omega
    rw [hg, prest, if_neg hz]
    simp
    omega
theorem head_get (l : List (List Int)) (q : List Int) (h : l[(0 : Int).toNat]? = some q) : l.headD [] = q := by
  have h : l[0]? = some q := h
  cases l with
  | nil => simp at h
  | cons x l => simp at h; simp [h]
theorem pbegin_ok (l : List Int) : pbegin_vc l (fun r => r = pbeginS l) := by
  intro hl _
  refine ⟨fun h => ?_, fun h => ?_⟩
  · have : (psplitS l).2 ≠ 0 := by simpa using h
    unfold pbeginS
    rw [if_pos this]
  · have h0 : (psplitS l).2 = 0 := by simpa using h
    obtain ⟨h1, h2, h3⟩ := psplit_zero l h0
    obtain ⟨h4, h5⟩ := parts_len l
    have hS : pbeginS l = (if l.length ≤ 7 then ⟨l, l.length, 1, 0, true⟩ else ⟨l, 6, 1, -1, false⟩, (partsS l).headD [], 0) := by
      unfold pbeginS
      rw [if_neg (by rw [h0]; exact fun h => h rfl)]
    rw [hS, h3]
    refine ⟨by omega, fun _ => ⟨fun h6 => ⟨⟨by omega, by dsimp only; omega⟩, fun q hq => ?_⟩, fun h6 => ⟨⟨by omega, by dsimp only; omega⟩, fun q hq => ?_⟩⟩⟩
    · have h7 : (partsS l).length = 1 := by have := beq_iff_eq.1 h6; dsimp only at this; omega
      rw [if_pos (h4.1 h7), head_get _ _ hq]
      rfl
    · have h7 : ¬ (partsS l).length = 1 := by
        intro hc
        dsimp only at h6
        rw [hc] at h6
        simp at h6
      have h8 : ¬ l.length ≤ 7 := fun hc => h7 (h4.2 hc)
      have h9 : min (l.length : Int) 6 = 6 := by omega
      rw [if_neg h8, head_get _ _ hq, h9]
      rfl
/-! ### Get -/
def gerr (e : Int) : Getter × List Int × List Int × Int × Bool × Bool := (⟨0, [], 0, 0, 0⟩, [], [], e, true, true)
def pgetS (g : Getter) (p : List Int) : Getter × List Int × List Int × Int × Bool × Bool :=
  if pcheckg g ≠ 0 then gerr (pcheckg g)
  else match p with
  | [] => gerr 7
  | c :: r =>
    if 8 < (c :: r).length then gerr 2
    else if c / 16 = 0 then (if c % 16 = 0 ∨ 7 < c % 16 ∨ (r.length : Int) ≠ c % 16 then gerr 4 else (⟨0, [], 0, g.Block, 0⟩, [], r, 0, true, false))
    else if c / 16 = 1 then (if r.length ≠ 7 then gerr 4 else
      if c % 16 * 256 + r.headD 0 < 8 then gerr 4
      else if 300 < c % 16 * 256 + r.headD 0 then (⟨0, [], 0, g.Block, 0⟩, [50, 0, 0], [], 0, false, true)
      else (⟨c % 16 * 256 + r.headD 0, r.drop 1, 1, g.Block, g.Block⟩, pflow g.Block, [], 0, false, true))
    else if c / 16 = 2 then (if g.Want = 0 then gerr 12 else if c % 16 ≠ g.Next then gerr 14
      else if (r.length : Int) ≠ min 7 (g.Want - g.Data.length) then gerr 4
      else if ((g.Data ++ r).length : Int) = g.Want then (⟨0, [], 0, g.Block, 0⟩, [], g.Data ++ r, 0, true, false)
      else if 0 < g.Block then (if g.Left - 1 = 0 then (⟨g.Want, g.Data ++ r, (g.Next + 1) % 16, g.Block, g.Block⟩, pflow g.Block, [], 0, false, true)
        else (⟨g.Want, g.Data ++ r, (g.Next + 1) % 16, g.Block, g.Left - 1⟩, [], [], 0, true, true))
      else (⟨g.Want, g.Data ++ r, (g.Next + 1) % 16, g.Block, g.Left⟩, [], [], 0, true, true))
    else gerr 8
/-- The first range test of a getter. -/
theorem pcheckg_zero (g : Getter) (h : pcheckg g = 0) : 0 ≤ g.Want ∧ g.Want ≤ 300 ∧ 0 ≤ g.Block ∧ g.Block ≤ 255 ∧ 0 ≤ g.Left ∧ g.Left ≤ g.Block ∧ 0 ≤ g.Next ∧ g.Next ≤ 15 ∧
    (g.Want = 0 → g.Data.length = 0 ∧ g.Next = 0 ∧ g.Left = 0) ∧ (0 < g.Want → 8 ≤ g.Want ∧ 6 ≤ g.Data.length ∧ (g.Data.length : Int) < g.Want ∧ ((g.Data.length : Int) - 6) % 7 = 0 ∧ g.Next = (((g.Data.length : Int) - 6) / 7 + 1) % 16 ∧ (0 < g.Block → g.Left ≠ 0)) := by
  unfold pcheckg at h
  cases h1 : (((((((decide (g.Want < 0)) || (decide (g.Want > 300))) || (decide (g.Block < 0))) || (decide (g.Block > 255))) || (decide (g.Left < 0))) || (decide (g.Left > g.Block))) || (decide (g.Next < 0))) || (decide (g.Next > 15)) with
  | true => rw [h1] at h; cases h
  | false =>
    rw [h1] at h
    simp only [Bool.or_eq_false_iff, decide_eq_false_iff_not] at h1
    simp only [cond_false] at h
    cases h2 : (g.Want == 0) && (((decide ((g.Data.length : Int) > 0)) || (g.Next != 0)) || (g.Left != 0)) with
    | true => rw [h2] at h; cases h
    | false =>
      rw [h2] at h
      simp only [cond_false] at h
      refine ⟨by omega, by omega, by omega, by omega, by omega, by omega, by omega, by omega, fun h3 => ?_, fun h3 => ?_⟩
      · rw [h3] at h2
        simp only [beq_self_eq_true, Bool.true_and, Bool.or_eq_false_iff, decide_eq_false_iff_not, bne_eq_false_iff_eq] at h2
        omega
      · have h4 : decide (g.Want > 0) = true := by simpa using h3
        rw [h4] at h
        simp only [Bool.true_and] at h
        by_cases h5 : (g.Data.length : Int) < 6
        · exfalso
          have h6 : decide ((g.Data.length : Int) < 6) = true := by simpa using h5
          rw [h6] at h
          simp at h
        · by_cases h9 : g.Want < 8 ∨ (g.Data.length : Int) ≥ g.Want
          · exfalso
            have h6 : (decide (g.Want < 8) || decide ((g.Data.length : Int) < 6) || decide ((g.Data.length : Int) ≥ g.Want)) = true := by simp; omega
            rw [h6] at h
            simp at h
          · rw [w64_eq ((g.Data.length : Int) - 6) (by omega), tmod_nn _ _ (by omega), tdiv_nn _ _ (by omega), w64_eq (((g.Data.length : Int) - 6) / 7) (by omega), w64_eq _ (by omega), tmod_nn _ 16 (by omega)] at h
            cases h7 : ((((((decide (g.Want < 8)) || (decide ((g.Data.length : Int) < 6))) || (decide ((g.Data.length : Int) ≥ g.Want))) || ((((g.Data.length : Int) - 6) % 7) != 0)) || (g.Next != ((((g.Data.length : Int) - 6) / 7 + 1) % 16))) || ((decide (g.Block > 0)) && (g.Left == 0))) with
            | true => rw [h7] at h; cases h
            | false =>
              simp only [Bool.or_eq_false_iff, decide_eq_false_iff_not, bne_eq_false_iff_eq, Bool.and_eq_false_iff, beq_eq_false_iff_ne] at h7
              refine ⟨by omega, by omega, by omega, h7.1.1.2, h7.1.2, fun h8 => ?_⟩
              rcases h7.2 with h10 | h10
              · omega
              · exact h10
theorem byte_and (c : Int) (h : 0 ≤ c ∧ c ≤ 255) : bAnd .u8 c 15 = c % 16 := by
  obtain ⟨n, rfl⟩ : ∃ n : Nat, c = n := ⟨c.toNat, by omega⟩
  have hn : n < 256 := by omega
  have key : ∀ x : Fin 256, bAnd .u8 ((x.val : Nat) : Int) 15 = ((x.val : Nat) : Int) % 16 := by decide +kernel
  exact key ⟨n, hn⟩
theorem byte_shr (c : Int) (h : 0 ≤ c ∧ c ≤ 255) : bShr .u8 c 4 = c / 16 := by
  unfold bShr
  have e2 : min (4 : Int).toNat IntKind.u8.bits = 4 := by decide
  rw [e2]
  show c.fdiv 16 = _
  rw [Int.fdiv_eq_ediv_of_nonneg _ (by omega)]
theorem want_of (n b : Int) (hn : 0 ≤ n ∧ n ≤ 15) (hb : 0 ≤ b ∧ b ≤ 255) : bOr .i64 (bShl .i64 n 8) b = n * 256 + b := by
  have e : bShl .i64 n 8 = n * 256 := by
    unfold bShl
    have e2 : min (8 : Int).toNat IntKind.i64.bits = 8 := by decide
    rw [e2]
    exact w64_eq _ (by omega)
  rw [e, bOr_int _ _ (by omega) (by omega)]
  obtain ⟨x, rfl⟩ : ∃ x : Nat, n = x := ⟨n.toNat, by omega⟩
  obtain ⟨y, rfl⟩ : ∃ y : Nat, b = y := ⟨b.toNat, by omega⟩
  have e3 : ((x : Int) * 256).toNat = 2 ^ 8 * x := by omega
  rw [e3, Int.toNat_natCast, ← Nat.two_pow_add_eq_or_of_lt (by omega)]
  omega
theorem pget_ok (g : Getter) (p : List Int) (hp : ∀ x ∈ p, 0 ≤ x ∧ x ≤ 255) : pget_vc g p (fun r => r = pgetS g p) := by
  intro hl1 hl2
  refine ⟨fun h => ?_, fun h => ?_⟩
  · have : pcheckg g ≠ 0 := by simpa using h
    unfold pgetS
    rw [if_pos this]
    rfl
  · have h0 : pcheckg g = 0 := by simpa using h
    obtain ⟨g1, g2, g3, g4, g5, g6, g7, g8, g9, g10⟩ := pcheckg_zero g h0
    have hG : ¬ pcheckg g ≠ 0 := fun hc => hc h0
    refine ⟨fun h1 => ?_, fun h1 => ⟨fun h2 => ?_, fun h2 => ?_⟩⟩
    · have : p = [] := List.eq_nil_of_length_eq_zero (by simpa using h1)
      subst this
      unfold pgetS
      rw [if_neg hG]
      rfl
    · cases p with
      | nil => simp at h1
      | cons c r =>
        have h3 : 8 < (c :: r).length := by have := of_decide_eq_true h2; omega
        unfold pgetS
        rw [if_neg hG]
        dsimp only
        rw [if_pos h3]
        rfl
    · cases p with
      | nil => simp at h1
      | cons c r =>
        have h3 : ¬ 8 < (c :: r).length := by have := of_decide_eq_false h2; omega
        have hS : pgetS g (c :: r) = if c / 16 = 0 then (if c % 16 = 0 ∨ 7 < c % 16 ∨ (r.length : Int) ≠ c % 16 then gerr 4 else (⟨0, [], 0, g.Block, 0⟩, [], r, 0, true, false))
            else if c / 16 = 1 then (if r.length ≠ 7 then gerr 4 else
              if c % 16 * 256 + r.headD 0 < 8 then gerr 4
              else if 300 < c % 16 * 256 + r.headD 0 then (⟨0, [], 0, g.Block, 0⟩, [50, 0, 0], [], 0, false, true)
              else (⟨c % 16 * 256 + r.headD 0, r.drop 1, 1, g.Block, g.Block⟩, pflow g.Block, [], 0, false, true))
            else if c / 16 = 2 then (if g.Want = 0 then gerr 12 else if c % 16 ≠ g.Next then gerr 14
              else if (r.length : Int) ≠ min 7 (g.Want - g.Data.length) then gerr 4
              else if ((g.Data ++ r).length : Int) = g.Want then (⟨0, [], 0, g.Block, 0⟩, [], g.Data ++ r, 0, true, false)
              else if 0 < g.Block then (if g.Left - 1 = 0 then (⟨g.Want, g.Data ++ r, (g.Next + 1) % 16, g.Block, g.Block⟩, pflow g.Block, [], 0, false, true)
                else (⟨g.Want, g.Data ++ r, (g.Next + 1) % 16, g.Block, g.Left - 1⟩, [], [], 0, true, true))
              else (⟨g.Want, g.Data ++ r, (g.Next + 1) % 16, g.Block, g.Left⟩, [], [], 0, true, true))
            else gerr 8 := by
          conv => lhs; unfold pgetS
          rw [if_neg hG]
          dsimp only
          rw [if_neg h3]
        rw [hS]
        have hc := hp c (by simp)
        have hll : (c :: r).length = r.length + 1 := rfl
        rw [hll] at *
        refine ⟨by omega, fun q hq => ⟨by omega, fun q' hq' => ?_⟩⟩
        obtain rfl : c = q := by simpa using hq
        obtain rfl : c = q' := by simpa using hq'
        have d1 : (c :: r).drop (1 : Int).toNat = r := rfl
        have d2 : (c :: r).drop (2 : Int).toNat = r.drop 1 := rfl
        have wn : w64 (bAnd .u8 c 15) = c % 16 := by rw [byte_and c hc, w64_eq _ (by omega)]
        rw [wn, byte_shr c hc, d1, d2]
        have w1 : w64 (c % 16 + 1) = c % 16 + 1 := w64_eq _ (by omega)
        rw [w1]
        refine ⟨fun h4 => ?_, fun h4 => ⟨fun h5 => ?_, fun h5 => ⟨fun h6 => ?_, fun h6 => ?_⟩⟩⟩
        · rw [if_pos (by simpa using h4)]
          refine ⟨fun h7 => ?_, fun h7 => ?_⟩
          · simp only [Bool.or_eq_true, beq_iff_eq, decide_eq_true_eq, bne_iff_ne, ne_eq] at h7
            rw [if_pos (by omega)]
            rfl
          · simp only [Bool.or_eq_false_iff, beq_eq_false_iff_ne, decide_eq_false_iff_not, bne_eq_false_iff_eq] at h7
            rw [if_neg (by omega)]
            refine ⟨by omega, by omega, fun nb hnb => ?_⟩
            have hr : r ≠ [] := by rintro rfl; simp at h7; omega
            rw [hnb hr]
            rfl
        · rw [if_neg (by simpa using h4), if_pos (by simpa using h5)]
          refine ⟨fun h7 => ?_, fun h7 => ?_⟩
          · simp only [bne_iff_ne, ne_eq] at h7
            rw [if_pos (by omega)]
            rfl
          · simp only [bne_eq_false_iff_eq] at h7
            rw [if_neg (by omega)]
            refine ⟨by omega, fun q hq => ?_⟩
            cases r with
            | nil => simp at h7
            | cons b r =>
              obtain rfl : b = q := by simpa using hq
              have hb := hp b (by simp)
              rw [w64_eq b (by omega), want_of _ _ (by omega) hb]
              have hd : (b :: r).headD 0 = b := rfl
              refine ⟨fun h8 => ?_, fun h8 => ⟨fun h9 => ?_, fun h9 => ?_⟩⟩
              · have h8 := of_decide_eq_true h8
                rw [if_pos (show c % 16 * 256 + (b :: r).headD 0 < 8 by rw [hd]; omega)]
                rfl
              · have h8 := of_decide_eq_false h8
                have h9 := of_decide_eq_true h9
                rw [if_neg (show ¬ c % 16 * 256 + (b :: r).headD 0 < 8 by rw [hd]; omega), if_pos (show 300 < c % 16 * 256 + (b :: r).headD 0 by rw [hd]; omega)]
              · have h8 := of_decide_eq_false h8
                have h9 := of_decide_eq_false h9
                rw [if_neg (show ¬ c % 16 * 256 + (b :: r).headD 0 < 8 by rw [hd]; omega), if_neg (show ¬ 300 < c % 16 * 256 + (b :: r).headD 0 by rw [hd]; omega)]
                refine ⟨by omega, ?_, fun nb hnb => ?_⟩
                · rw [List.length_drop]
                  omega
                · rw [hnb (by simp [pflow])]
                  rfl
        · rw [if_neg (by simpa using h4), if_neg (by simpa using h5), if_pos (by simpa using h6)]
          refine ⟨fun h7 => ?_, fun h7 => ?_⟩
          · rw [if_pos (by simpa using h7)]
            rfl
          · have h7 : ¬ g.Want = 0 := by simpa using h7
            obtain ⟨k1, k2, k3, k4, k5, k6⟩ := g10 (by omega)
            rw [if_neg h7]
            have w2 : w64 (g.Want - (g.Data.length : Int)) = g.Want - (g.Data.length : Int) := w64_eq _ (by omega)
            have w3 : w64 (min 7 (g.Want - (g.Data.length : Int)) + 1) = min 7 (g.Want - (g.Data.length : Int)) + 1 := w64_eq _ (by omega)
            have w4 : w64 (g.Left - 1) = g.Left - 1 := w64_eq _ (by omega)
            have w5 : w64 (g.Next + 1) = g.Next + 1 := w64_eq _ (by omega)
            rw [w2, w3, w4, w5, tmod_nn _ _ (by omega)]
            refine ⟨fun h8 => ?_, fun h8 => ⟨fun h9 => ?_, fun h9 => ?_⟩⟩
            · rw [if_pos (by simpa using h8)]
              rfl
            · have h8 : c % 16 = g.Next := by simpa using h8
              have h9 : ¬ ((r.length : Int) + 1 = min 7 (g.Want - (g.Data.length : Int)) + 1) := by
                simp only [bne_iff_ne, ne_eq] at h9
                omega
              rw [if_neg (fun hc => hc h8), if_pos (by omega)]
              rfl
            · have h8 : c % 16 = g.Next := by simpa using h8
              have h9 : ((r.length : Int) + 1 = min 7 (g.Want - (g.Data.length : Int)) + 1) := by
                simp only [bne_eq_false_iff_eq] at h9
                omega
              rw [if_neg (fun hc => hc h8), if_neg (by omega)]
              unfold bcloneS
              refine ⟨by omega, by omega, by omega, fun ha => ?_, fun ha => ?_⟩
              · have ha : ((g.Data ++ r).length : Int) = g.Want := by simpa using ha
                intro nb hnb
                rw [if_pos ha, hnb (by intro hc; rw [hc] at ha; simp at ha; omega)]
              · have ha : ¬ ((g.Data ++ r).length : Int) = g.Want := by simpa using ha
                rw [if_neg ha]
                refine ⟨fun hb => ⟨fun hd nb hnb => ?_, fun hd => ?_⟩, fun hb => ?_⟩
                · rw [if_pos (by simpa using hb), if_pos (by simpa using hd), hnb (by simp [pflow])]
                · rw [if_pos (by simpa using hb), if_neg (by simpa using hd)]
                · rw [if_neg (by have := of_decide_eq_false hb; omega)]
        · rw [if_neg (by simpa using h4), if_neg (by simpa using h5), if_neg (by simpa using h6)]
          rfl

end Go.Proofs.Ytkogkombalcgeaa
