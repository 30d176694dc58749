/- Pure proofs: no program in sight. -/
import Derived.Test.YtkogkombalcgeaaVN
set_option linter.unusedVariables false
set_option linter.unusedSimpArgs false
namespace Go.Proofs.Ytkogkombalcgeaa
open Go.Sy Go.RowKit
/-! ### A message through -/
def fstP (l : List Int) : List Int := (16 + ((l.length / 256 : Nat) : Int)) :: ((l.length % 256 : Nat) : Int) :: l.take 6
def nxtP (l : List Int) (j : Nat) : List Int := (32 + (((j + 1) % 16 : Nat) : Int)) :: (l.drop (6 + 7 * j)).take 7
theorem prest_get (j : Nat) : ∀ (f n : Nat) (l : List Int), j < f → 7 * j < l.length → (prest f n l)[j]? = some ((32 + (((n + j) % 16 : Nat) : Int)) :: (l.drop (7 * j)).take 7) := by
  induction j with
  | zero =>
    intro f n l hf hl
    obtain ⟨g, rfl⟩ : ∃ g, f = g + 1 := ⟨f - 1, by omega⟩
    have hz : l ≠ [] := by rintro rfl; simp at hl
    rw [prest, if_neg hz]
    rfl
  | succ j ih =>
    intro f n l hf hl
    obtain ⟨g, rfl⟩ : ∃ g, f = g + 1 := ⟨f - 1, by omega⟩
    have hz : l ≠ [] := by rintro rfl; simp at hl
    rw [prest, if_neg hz, List.getElem?_cons_succ, ih g (n + 1) (l.drop 7) (by omega) (by rw [List.length_drop]; omega), List.drop_drop]
    rw [show n + 1 + j = n + (j + 1) by omega, show 7 + 7 * j = 7 * (j + 1) by omega]
theorem prest_count (f : Nat) : ∀ (n : Nat) (l : List Int), l.length ≤ f → (prest f n l).length = (l.length + 6) / 7 := by
  induction f with
  | zero => intro n l hl; have : l = [] := List.eq_nil_of_length_eq_zero (by omega); subst this; rfl
  | succ f ih =>
    intro n l hl
    unfold prest
    by_cases hz : l = []
    · subst hz; rfl
    · rw [if_neg hz, List.length_cons, ih _ _ (by rw [List.length_drop]; omega), List.length_drop]
      have : 0 < l.length := by cases l with
        | nil => exact absurd rfl hz
        | cons _ _ => simp
      omega
theorem parts_first (l : List Int) (h : 7 < l.length) : (partsS l)[0]? = some (fstP l) := by
  unfold partsS
  rw [if_neg (by omega)]
  rfl
theorem parts_next (l : List Int) (h : 7 < l.length) (j : Nat) (hj : 6 + 7 * j < l.length) : (partsS l)[j + 1]? = some (nxtP l j) := by
  unfold partsS
  rw [if_neg (by omega), List.getElem?_cons_succ, prest_get j _ _ _ (by omega) (by rw [List.length_drop]; omega), List.drop_drop, Nat.add_comm 1 j]
  rfl
theorem parts_count (l : List Int) (h : 7 < l.length) : (partsS l).length = 1 + l.length / 7 := by
  unfold partsS
  rw [if_neg (by omega), List.length_cons, prest_count _ _ _ (by rw [List.length_drop]; omega), List.length_drop]
  omega
theorem parts_single (l : List Int) (h : l.length ≤ 7) : partsS l = [(l.length : Int) :: l] := by
  unfold partsS
  rw [if_pos h]
theorem pcheckg_of (g : Getter) (h1 : 0 ≤ g.Want ∧ g.Want ≤ 300) (h2 : 0 ≤ g.Block ∧ g.Block ≤ 255) (h3 : 0 ≤ g.Left ∧ g.Left ≤ g.Block) (h4 : 0 ≤ g.Next ∧ g.Next ≤ 15)
    (hz : g.Want = 0 → g.Data.length = 0 ∧ g.Next = 0 ∧ g.Left = 0) (hp : 0 < g.Want → 8 ≤ g.Want ∧ 6 ≤ g.Data.length ∧ (g.Data.length : Int) < g.Want ∧ ((g.Data.length : Int) - 6) % 7 = 0 ∧ g.Next = (((g.Data.length : Int) - 6) / 7 + 1) % 16 ∧ (0 < g.Block → g.Left ≠ 0)) : pcheckg g = 0 := by
  have e1 : ((((((((decide (g.Want < 0)) || (decide (g.Want > 300))) || (decide (g.Block < 0))) || (decide (g.Block > 255))) || (decide (g.Left < 0))) || (decide (g.Left > g.Block))) || (decide (g.Next < 0))) || (decide (g.Next > 15))) = false := by
    simp only [Bool.or_eq_false_iff, decide_eq_false_iff_not]
    omega
  unfold pcheckg
  rw [e1, cond_false]
  by_cases h : g.Want = 0
  · obtain ⟨a, b, c⟩ := hz h
    rw [h, a, b, c]
    rfl
  · obtain ⟨a, b, c, d, e, f⟩ := hp (by omega)
    have e2 : (g.Want == 0) = false := by simpa using h
    have e3 : ((((((decide (g.Want < 8)) || (decide ((g.Data.length : Int) < 6))) || (decide ((g.Data.length : Int) ≥ g.Want))) || ((((g.Data.length : Int) - 6) % 7) != 0)) || (g.Next != ((((g.Data.length : Int) - 6) / 7 + 1) % 16))) || ((decide (g.Block > 0)) && (g.Left == 0))) = false := by
      simp only [Bool.or_eq_false_iff, decide_eq_false_iff_not, bne_eq_false_iff_eq, Bool.and_eq_false_iff, beq_eq_false_iff_ne]
      refine ⟨⟨⟨⟨by omega, by omega⟩, d⟩, e⟩, ?_⟩
      by_cases hb : 0 < g.Block
      · exact .inr (f hb)
      · exact .inl hb
    rw [w64_eq ((g.Data.length : Int) - 6) (by omega), tmod_nn _ _ (by omega), tdiv_nn _ _ (by omega), w64_eq (((g.Data.length : Int) - 6) / 7) (by omega), w64_eq _ (by omega), tmod_nn _ 16 (by omega), e2, e3]
    simp
def gj (l : List Int) (b : Int) (j : Nat) (lf : Int) : Getter := ⟨(l.length : Int), l.take (6 + 7 * j), (((j + 1) % 16 : Nat) : Int), b, lf⟩
def sj (l : List Int) (j : Nat) (lf : Int) : Sender := ⟨l, ((min (6 + 7 * j) l.length : Nat) : Int), (((j + 1) % 16 : Nat) : Int), lf, decide (l.length ≤ 6 + 7 * j)⟩
theorem gj_ok (l : List Int) (b : Int) (j : Nat) (lf : Int) (h7 : 7 < l.length) (h300 : l.length ≤ 300) (hj : 6 + 7 * j < l.length) (hb : 0 ≤ b ∧ b ≤ 255) (hlf : 0 ≤ lf ∧ lf ≤ b) (h0 : 0 < b → lf ≠ 0) : pcheckg (gj l b j lf) = 0 := by
  have hd : (l.take (6 + 7 * j)).length = 6 + 7 * j := by rw [List.length_take]; omega
  refine pcheckg_of _ (by simp only [gj]; omega) hb hlf (by simp only [gj]; omega) (fun h => ?_) (fun _ => ?_)
  · simp only [gj] at h; omega
  · simp only [gj]
    rw [hd]
    refine ⟨by omega, by omega, by omega, by omega, by omega, h0⟩
theorem get_single (g : Getter) (l : List Int) (hg : pcheckg g = 0) (h0 : 0 < l.length) (h7 : l.length ≤ 7) : pgetS g ((l.length : Int) :: l) = (⟨0, [], 0, g.Block, 0⟩, [], l, 0, true, false) := by
  unfold pgetS
  rw [if_neg (fun hc => hc hg)]
  dsimp only
  rw [if_neg (by rw [List.length_cons]; omega), if_pos (by omega), if_neg (by omega)]
theorem get_first (g : Getter) (l : List Int) (hg : pcheckg g = 0) (h7 : 7 < l.length) (h300 : l.length ≤ 300) : pgetS g (fstP l) = (⟨(l.length : Int), l.take 6, 1, g.Block, g.Block⟩, pflow g.Block, [], 0, false, true) := by
  have hd : (l.take 6).length = 6 := by rw [List.length_take]; omega
  have hh : (((l.length % 256 : Nat) : Int) :: l.take 6).headD 0 = ((l.length % 256 : Nat) : Int) := rfl
  have hr : (((l.length % 256 : Nat) : Int) :: l.take 6).drop 1 = l.take 6 := rfl
  have hc : (16 + ((l.length / 256 : Nat) : Int)) % 16 = ((l.length / 256 : Nat) : Int) := by omega
  unfold pgetS fstP
  rw [if_neg (fun hc => hc hg)]
  dsimp only
  rw [if_neg (by simp only [List.length_cons]; omega), if_neg (by omega), if_pos (by omega), if_neg (by simp only [List.length_cons]; omega), hh, hr, hc]
  have e : ((l.length / 256 : Nat) : Int) * 256 + ((l.length % 256 : Nat) : Int) = (l.length : Int) := by omega
  rw [e, if_neg (by omega), if_neg (by omega)]
theorem take_app (l : List Int) (a b : Nat) : l.take a ++ (l.drop a).take b = l.take (a + b) := by rw [List.take_add]
theorem get_next (l : List Int) (b : Int) (j : Nat) (lf : Int) (hg : pcheckg (gj l b j lf) = 0) (h7 : 7 < l.length) (h300 : l.length ≤ 300) (hj : 6 + 7 * j < l.length) :
    pgetS (gj l b j lf) (nxtP l j) = if l.length ≤ 6 + 7 * (j + 1) then (⟨0, [], 0, b, 0⟩, [], l, 0, true, false)
      else if 0 < b then (if lf - 1 = 0 then (gj l b (j + 1) b, pflow b, [], 0, false, true) else (gj l b (j + 1) (lf - 1), [], [], 0, true, true)) else (gj l b (j + 1) lf, [], [], 0, true, true) := by
  have hd : (l.take (6 + 7 * j)).length = 6 + 7 * j := by rw [List.length_take]; omega
  have hr : ((l.drop (6 + 7 * j)).take 7).length = min 7 (l.length - (6 + 7 * j)) := by rw [List.length_take, List.length_drop]
  have hw : (gj l b j lf).Want = l.length := rfl
  have hD : (gj l b j lf).Data = l.take (6 + 7 * j) := rfl
  have hn : (gj l b j lf).Next = (((j + 1) % 16 : Nat) : Int) := rfl
  have hB : (gj l b j lf).Block = b := rfl
  have hL : (gj l b j lf).Left = lf := rfl
  unfold pgetS nxtP
  rw [if_neg (fun hc => hc hg)]
  dsimp only
  rw [hw, hD, hn, hB, hL]
  rw [if_neg (by rw [List.length_cons]; omega), if_neg (by omega), if_neg (by omega), if_pos (by omega), if_neg (by omega), if_neg (by omega), hd, if_neg (by rw [hr]; omega), take_app]
  have ht : (l.take (6 + 7 * j + 7)).length = min (6 + 7 * j + 7) l.length := by rw [List.length_take]
  rw [ht]
  by_cases hq : l.length ≤ 6 + 7 * (j + 1)
  · rw [if_pos (by omega), if_pos hq, List.take_of_length_le (by omega)]
  · rw [if_neg (by omega), if_neg hq]
    have hm : ((((j + 1) % 16 : Nat) : Int) + 1) % 16 = (((j + 1 + 1) % 16 : Nat) : Int) := by omega
    rw [hm, show 6 + 7 * j + 7 = 6 + 7 * (j + 1) by omega]
    rfl
theorem sj_ok (l : List Int) (j : Nat) (lf : Int) (h7 : 7 < l.length) (h300 : l.length ≤ 300) (hj : 6 + 7 * j < l.length) (hlf : -1 ≤ lf ∧ lf ≤ 255) : pchecks (sj l j lf) = 0 := by
  have hD : (sj l j lf).Data = l := rfl
  have hA : (sj l j lf).At = ((6 + 7 * j : Nat) : Int) := by show ((min (6 + 7 * j) l.length : Nat) : Int) = _; omega
  have hN : (sj l j lf).Next = (((j + 1) % 16 : Nat) : Int) := rfl
  have hL : (sj l j lf).Left = lf := rfl
  have hd : (sj l j lf).Done = false := by show decide (l.length ≤ 6 + 7 * j) = false; simp; omega
  rw [pchecks_long _ (by rw [hD]; exact h300) (by unfold SRange; rw [hD, hA, hN, hL]; omega) (by rw [hD]; exact h7)]
  rw [hD, hA, hN, hL, hd]
  have e : decide (((6 + 7 * j : Nat) : Int) = (l.length : Int)) = false := by simp; omega
  rw [e, if_neg (by simp), if_neg (by omega), if_neg (by omega)]
theorem told_flow (l : List Int) (j : Nat) (b : Int) (h7 : 7 < l.length) (h300 : l.length ≤ 300) (hj : 6 + 7 * j < l.length) (hb : 0 ≤ b ∧ b ≤ 255) : ptold (sj l j (-1)) (pflow b) = (sj l j b, 0) := by
  have hd : (sj l j (-1)).Done = false := by show decide (l.length ≤ 6 + 7 * j) = false; simp; omega
  unfold ptold pflow
  rw [sj_ok l j (-1) h7 h300 hj (by omega), hd]
  have e : ((([48, w8 b, 0] : List Int)[(1 : Int).toNat]?).getD default) = b := by
    show w8 b = b
    exact w8_eq b hb
  have e0 : ((([48, w8 b, 0] : List Int)[(0 : Int).toNat]?).getD default) = 48 := rfl
  simp only [e0, e]
  have hL : (sj l j (-1)).Left = -1 := rfl
  rw [hL, w64_eq b (by omega)]
  have e1 : bShr .u8 48 4 = 3 := by decide
  have e2 : bAnd .u8 48 15 = 0 := by decide
  rw [e1, e2]
  simp only [List.length_cons, List.length_nil]
  simp [bcloneS, hd]
  unfold sj
  have : decide (l.length ≤ 6 + 7 * j) = false := by simp; omega
  rw [this]
theorem next_sent (l : List Int) (j : Nat) (lf : Int) (h7 : 7 < l.length) (h300 : l.length ≤ 300) (hj : 6 + 7 * j < l.length) (hlf : 0 ≤ lf ∧ lf ≤ 255) :
    pnext (sj l j lf) = (sj l (j + 1) (if l.length ≤ 6 + 7 * (j + 1) then 0 else if lf = 1 then -1 else if 1 < lf then lf - 1 else lf), nxtP l j, 0) := by
  have hD : (sj l j lf).Data = l := rfl
  have hA : (sj l j lf).At = ((6 + 7 * j : Nat) : Int) := by show ((min (6 + 7 * j) l.length : Nat) : Int) = _; omega
  have hN : (sj l j lf).Next = (((j + 1) % 16 : Nat) : Int) := rfl
  have hL : (sj l j lf).Left = lf := rfl
  have hd : (sj l j lf).Done = false := by show decide (l.length ≤ 6 + 7 * j) = false; simp; omega
  unfold pnext
  rw [sj_ok l j lf h7 h300 hj (by omega), hD, hA, hN, hL, hd]
  have w1 : w64 ((l.length : Int) - ((6 + 7 * j : Nat) : Int)) = (l.length : Int) - ((6 + 7 * j : Nat) : Int) := w64_eq _ (by omega)
  have w2 : w64 (((6 + 7 * j : Nat) : Int) + min 7 ((l.length : Int) - ((6 + 7 * j : Nat) : Int))) = ((min (6 + 7 * (j + 1)) l.length : Nat) : Int) := by rw [w64_eq _ (by omega)]; omega
  have w3 : (w64 ((((j + 1) % 16 : Nat) : Int) + 1)).tmod 16 = (((j + 1 + 1) % 16 : Nat) : Int) := by rw [w64_eq _ (by omega), tmod_nn _ _ (by omega)]; omega
  have w4 : bOr .u8 32 (w8 (((j + 1) % 16 : Nat) : Int)) = 32 + (((j + 1) % 16 : Nat) : Int) := by rw [w8_eq _ (by omega)]; exact or32' (j + 1)
  have w5 : w64 (lf - 1) = lf - 1 := w64_eq _ (by omega)
  rw [w1, w2, w3, w4, w5]
  have es : prowS ((l.take (((min (6 + 7 * (j + 1)) l.length : Nat) : Int)).toNat).drop (((6 + 7 * j : Nat) : Int)).toNat) [32 + (((j + 1) % 16 : Nat) : Int)] = nxtP l j := by
    rw [Int.toNat_natCast, Int.toNat_natCast, List.drop_take]
    unfold prowS nxtP
    rcases Nat.le_total (6 + 7 * (j + 1)) l.length with h | h
    · rw [Nat.min_eq_left h, show 6 + 7 * (j + 1) - (6 + 7 * j) = 7 by omega]; rfl
    · rw [Nat.min_eq_right h, List.take_of_length_le (by rw [List.length_drop]; omega), List.take_of_length_le (by rw [List.length_drop]; omega)]; rfl
  rw [es]
  unfold bcloneS
  have e0 : decide (lf < 0) = false := by simp; omega
  rw [e0]
  simp only [bne_self_eq_false, cond_false, Bool.or_self]
  by_cases hq : l.length ≤ 6 + 7 * (j + 1)
  · have e1 : (((min (6 + 7 * (j + 1)) l.length : Nat) : Int) == (l.length : Int)) = true := by simp; omega
    rw [e1, cond_true, if_pos hq]
    unfold sj
    have : decide (l.length ≤ 6 + 7 * (j + 1)) = true := by simpa using hq
    rw [this]
  · have e1 : (((min (6 + 7 * (j + 1)) l.length : Nat) : Int) == (l.length : Int)) = false := by simp; omega
    have e2 : decide (l.length ≤ 6 + 7 * (j + 1)) = false := by simpa using hq
    rw [e1, cond_false, if_neg hq]
    unfold sj
    rw [e2]
    by_cases h1 : lf = 1
    · subst h1; rfl
    · have e3 : (lf == 1) = false := by simpa using h1
      rw [e3, cond_false, if_neg h1]
      by_cases h2 : 1 < lf
      · have e4 : decide (lf > 1) = true := by simpa using h2
        rw [e4, cond_true, if_pos h2]
      · have e4 : decide (lf > 1) = false := by simpa using h2
        rw [e4, cond_false, if_neg h2]
theorem fst_bytes (l : List Int) (h300 : l.length ≤ 300) (hb : ∀ x ∈ l, 0 ≤ x ∧ x ≤ 255) : ∀ x ∈ fstP l, 0 ≤ x ∧ x ≤ 255 := by
  intro x hx
  unfold fstP at hx
  simp only [List.mem_cons] at hx
  rcases hx with rfl | rfl | hx
  · omega
  · omega
  · exact hb x (List.mem_of_mem_take hx)
theorem nxt_bytes (l : List Int) (j : Nat) (hb : ∀ x ∈ l, 0 ≤ x ∧ x ≤ 255) : ∀ x ∈ nxtP l j, 0 ≤ x ∧ x ≤ 255 := by
  intro x hx
  unfold nxtP at hx
  simp only [List.mem_cons] at hx
  rcases hx with rfl | hx
  · omega
  · exact hb x (List.mem_of_mem_drop (List.mem_of_mem_take hx))
def pcount (l : List Int) (b : Int) : Int := if l.length ≤ 7 then 1 else ((l.length / 7 : Nat) : Int) + 2 + (if 0 < b then (((l.length / 7 : Nat) : Int) - 1) / b else 0)
def psendS (l : List Int) (b : Int) : List Int × Int × Int :=
  if b < 0 ∨ 255 < b then ([], 0, 3) else if (psplitS l).2 ≠ 0 then ([], 0, (psplitS l).2) else (l, pcount l b, 0)
theorem psend_ok (l : List Int) (b : Int) (hby : ∀ x ∈ l, 0 ≤ x ∧ x ≤ 255) : psend_vc l b (fun r => r = psendS l b) := by
  intro hl
  refine ⟨fun h => ?_, fun h => ?_⟩
  · have : b < 0 ∨ 255 < b := by simpa using h
    unfold psendS
    rw [if_pos this]
  · have hB : 0 ≤ b ∧ b ≤ 255 := by simp at h; omega
    have hB2 : ¬ (b < 0 ∨ 255 < b) := by omega
    intro _ _
    refine ⟨fun h1 => ?_, fun h1 => ?_⟩
    · have h2 : (psplitS l).2 ≠ 0 := by
        intro hc
        unfold pbeginS at h1
        rw [if_neg (fun hx => hx hc)] at h1
        cases h1
      unfold psendS
      rw [if_neg hB2, if_pos h2]
      unfold pbeginS
      rw [if_pos h2]
    · have h2 : (psplitS l).2 = 0 := by
        refine Classical.byContradiction fun hc => ?_
        unfold pbeginS at h1
        rw [if_pos hc] at h1
        exact hc (by simpa using h1)
      obtain ⟨l0, l300, _⟩ := psplit_zero l h2
      have hS : psendS l b = (l, pcount l b, 0) := by unfold psendS; rw [if_neg hB2, if_neg (fun hx => hx h2)]
      have hb0 : pbeginS l = (if l.length ≤ 7 then ⟨l, l.length, 1, 0, true⟩ else ⟨l, 6, 1, -1, false⟩, (partsS l).headD [], 0) := by unfold pbeginS; rw [if_neg (fun hx => hx h2)]
      rw [hS, hb0]
      have hg0 : pcheckg (⟨0, [], 0, b, 0⟩ : Getter) = 0 := pcheckg_of _ (by simp) hB (by simp; omega) (by simp) (fun _ => by simp) (fun h => by simp at h)
      by_cases h7 : l.length ≤ 7
      · refine ⟨fun x p g s => x = 0 ∧ p = (l.length : Int) :: l ∧ g = ⟨0, [], 0, b, 0⟩, fun _ _ _ _ => 0, ⟨rfl, by rw [parts_single l h7]; rfl, rfl⟩, ?_⟩
        rintro _ _ _ s ⟨rfl, rfl, rfl⟩
        rw [get_single _ l hg0 l0 h7]
        refine ⟨fun x hx => ?_, fun _ _ _ => ⟨fun hc => ?_, fun _ => ⟨fun _ => ?_, fun hc => ?_⟩⟩⟩
        · simp only [List.mem_cons] at hx
          rcases hx with rfl | hx
          · omega
          · exact hby x hx
        · cases hc
        · unfold pcount
          rw [if_pos h7]
          rfl
        · cases hc
      · have h7 : 7 < l.length := by omega
        have hx1 : ∀ j : Nat, 6 + 7 * j < l.length → j ≤ 50 := fun j hj => by omega
        refine ⟨fun x p g s => (x = 0 ∧ p = fstP l ∧ g = ⟨0, [], 0, b, 0⟩ ∧ s = sj l 0 (-1)) ∨ (∃ j q r : Nat, ∃ lf : Int, 6 + 7 * j < l.length ∧ p = nxtP l j ∧ g = gj l b j (b - r) ∧ s = sj l (j + 1) lf ∧ x = j + 2 + q ∧ q ≤ j ∧ (0 < b → (j : Int) = b * q + r ∧ (r : Int) < b) ∧ (b = 0 → q = 0 ∧ r = 0) ∧ (6 + 7 * (j + 1) < l.length → lf = if 0 < b then (if b - r = 1 then -1 else b - r - 1) else 0)), fun x _ _ _ => 200 - x.toNat, .inl ⟨rfl, ?_, rfl, ?_⟩, ?_⟩
        · have hp : partsS l = fstP l :: prest l.length 1 (l.drop 6) := by unfold partsS; rw [if_neg (by omega)]; rfl
          rw [hp]
          rfl
        · rw [if_neg (by omega)]
          unfold sj
          have : decide (l.length ≤ 6 + 7 * 0) = false := by simp; omega
          rw [this, show min (6 + 7 * 0) l.length = 6 by omega]
          rfl
        · have key : ∀ (j : Nat) (lf : Int), 0 ≤ lf → lf ≤ 255 → 6 + 7 * j < l.length → (if l.length ≤ 6 + 7 * (j + 1) then 0 else if lf = 1 then -1 else if 1 < lf then lf - 1 else lf) = (if l.length ≤ 6 + 7 * (j + 1) then 0 else if 0 < lf then (if lf = 1 then -1 else lf - 1) else 0) := by
            intro j lf h1 h2 h3
            split
            · rfl
            · by_cases h4 : lf = 1
              · rw [if_pos h4, if_pos (by omega), if_pos h4]
              · rw [if_neg h4]
                by_cases h5 : 1 < lf
                · rw [if_pos h5, if_pos (by omega), if_neg h4]
                · rw [if_neg h5, if_neg (by omega)]
                  omega
          rintro x p g s (⟨rfl, rfl, rfl, rfl⟩ | ⟨j, q, r, lf, hj, rfl, rfl, rfl, rfl, hqj, hq, hz, hlf⟩)
          · rw [get_first _ l hg0 h7 l300]
            refine ⟨fst_bytes l l300 hby, fun _ _ _ => ⟨fun hc => ?_, fun _ => ⟨fun hc => ?_, fun _ => ⟨fun _ => ?_, fun hc => ?_⟩⟩⟩⟩
            · cases hc
            · cases hc
            · dsimp only
              rw [told_flow l 0 b h7 l300 (by omega) hB]
              refine fun _ => ⟨fun hc => ?_, fun _ => ?_⟩
              · cases hc
              · dsimp only
                rw [next_sent l 0 b h7 l300 (by omega) hB]
                refine fun _ _ => ⟨fun hc => ?_, fun _ => ⟨?_, ?_⟩⟩
                · cases hc
                · refine .inr ⟨0, 0, 0, _, by omega, rfl, ?_, rfl, rfl, by omega, fun h => ⟨by simp, by omega⟩, fun h => ⟨rfl, rfl⟩, fun h => ?_⟩
                  · unfold gj
                    simp
                  · rw [key 0 b hB.1 hB.2 (by omega), if_neg (by omega)]
                    simp
                · exact (by decide : 200 - (w64 (w64 (0 + 1) + 1)).toNat < 200 - (0 : Int).toNat)
            · cases hc
          · have hj50 := hx1 j hj
            have hr : 0 < b → (r : Int) < b := fun h => (hq h).2
            have hr0 : b = 0 → r = 0 := fun h => (hz h).2
            have hgo : pcheckg (gj l b j (b - r)) = 0 := gj_ok l b j _ h7 l300 hj hB (by omega) (by omega)
            rw [get_next l b j _ hgo h7 l300 hj]
            have wx : w64 ((j : Int) + 2 + q + 1) = (j : Int) + 2 + q + 1 := w64_eq _ (by omega)
            have wy : w64 ((j : Int) + 2 + q + 1 + 1) = (j : Int) + 2 + q + 1 + 1 := w64_eq _ (by omega)
            rw [wx, wy]
            refine ⟨nxt_bytes l j hby, ?_⟩
            by_cases he : l.length ≤ 6 + 7 * (j + 1)
            · rw [if_pos he]
              refine fun _ _ _ => ⟨fun hc => ?_, fun _ => ⟨fun _ => ?_, fun hc => ?_⟩⟩
              · cases hc
              · unfold pcount
                rw [if_neg (by omega), show l.length / 7 = j + 1 by omega]
                have : (if 0 < b then (((j + 1 : Nat) : Int) - 1) / b else 0) = q := by
                  by_cases hb0 : 0 < b
                  · rw [if_pos hb0]
                    obtain ⟨h8, h9⟩ := hq hb0
                    have e : ((j + 1 : Nat) : Int) - 1 = r + b * q := by omega
                    rw [e, Int.add_mul_ediv_left _ _ (by omega), Int.ediv_eq_zero_of_lt (by omega) h9]
                    omega
                  · rw [if_neg hb0]
                    have := (hz (by omega)).1
                    omega
                rw [this]
                refine Prod.ext rfl (Prod.ext ?_ rfl)
                show (j : Int) + 2 + q + 1 = ((j + 1 : Nat) : Int) + 2 + (q : Int)
                omega
              · cases hc
            · rw [if_neg he]
              have hlf := hlf (by omega)
              have hj' : 6 + 7 * (j + 1) < l.length := by omega
              by_cases hb0 : 0 < b
              · rw [if_pos hb0] at hlf ⊢
                obtain ⟨h8, h9⟩ := hq hb0
                by_cases h1 : b - (r : Int) - 1 = 0
                · rw [if_pos h1]
                  rw [if_pos (by omega)] at hlf
                  subst hlf
                  refine fun _ _ _ => ⟨fun hc => ?_, fun _ => ⟨fun hc => ?_, fun _ => ⟨fun _ => ?_, fun hc => ?_⟩⟩⟩
                  · cases hc
                  · cases hc
                  · dsimp only
                    rw [told_flow l (j + 1) b h7 l300 hj' hB]
                    refine fun _ => ⟨fun hc => ?_, fun _ => ?_⟩
                    · cases hc
                    · dsimp only
                      rw [next_sent l (j + 1) b h7 l300 hj' hB]
                      refine fun _ _ => ⟨fun hc => ?_, fun _ => ⟨?_, ?_⟩⟩
                      · cases hc
                      · refine .inr ⟨j + 1, q + 1, 0, _, hj', rfl, ?_, rfl, by omega, by omega, fun h => ⟨?_, by omega⟩, fun h => by omega, fun h => ?_⟩
                        · simp
                        · have : b * ((q + 1 : Nat) : Int) = b * q + b := by
                            rw [show ((q + 1 : Nat) : Int) = (q : Int) + 1 by omega, Int.mul_add, Int.mul_one]
                          omega
                        · rw [key (j + 1) b hB.1 hB.2 hj', if_neg (by omega)]
                          simp
                      · show 200 - ((j : Int) + 2 + q + 1 + 1).toNat < 200 - ((j : Int) + 2 + q).toNat
                        omega
                  · cases hc
                · rw [if_neg h1]
                  rw [if_neg (by omega)] at hlf
                  subst hlf
                  refine fun _ _ _ => ⟨fun hc => ?_, fun _ => ⟨fun hc => ?_, fun _ => ⟨fun hc => ?_, fun _ => ?_⟩⟩⟩
                  · cases hc
                  · cases hc
                  · cases hc
                  · rw [next_sent l (j + 1) _ h7 l300 hj' (by omega)]
                    refine fun _ _ => ⟨fun hc => ?_, fun _ => ⟨?_, ?_⟩⟩
                    · cases hc
                    · refine .inr ⟨j + 1, q, r + 1, _, hj', rfl, ?_, rfl, by omega, by omega, fun h => ⟨by omega, by omega⟩, fun h => by omega, fun h => ?_⟩
                      · dsimp only
                        congr 1
                        omega
                      · rw [key (j + 1) _ (by omega) (by omega) hj', if_neg (by omega), if_pos (by omega), if_pos hb0]
                        have : b - (r : Int) - 1 = b - ((r + 1 : Nat) : Int) := by omega
                        rw [this]
                    · show 200 - ((j : Int) + 2 + q + 1).toNat < 200 - ((j : Int) + 2 + q).toNat
                      omega
              · rw [if_neg hb0] at hlf ⊢
                have hb00 : b = 0 := by omega
                obtain ⟨hq0, hr00⟩ := hz hb00
                subst hb00 hq0 hr00
                rename lf = 0 => hlf0
                subst hlf0
                refine fun _ _ _ => ⟨fun hc => ?_, fun _ => ⟨fun hc => ?_, fun _ => ⟨fun hc => ?_, fun _ => ?_⟩⟩⟩
                · cases hc
                · cases hc
                · cases hc
                · rw [next_sent l (j + 1) _ h7 l300 hj' (by omega)]
                  refine fun _ _ => ⟨fun hc => ?_, fun _ => ⟨?_, ?_⟩⟩
                  · cases hc
                  · refine .inr ⟨j + 1, 0, 0, _, hj', rfl, rfl, rfl, by omega, by omega, fun h => by omega, fun h => ⟨rfl, rfl⟩, fun h => ?_⟩
                    rw [key (j + 1) _ (by omega) (by omega) hj', if_neg (by omega)]
                    simp
                  · show 200 - ((j : Int) + 2 + (0 : Nat) + 1).toNat < 200 - ((j : Int) + 2 + (0 : Nat)).toNat
                    omega

end Go.Proofs.Ytkogkombalcgeaa
