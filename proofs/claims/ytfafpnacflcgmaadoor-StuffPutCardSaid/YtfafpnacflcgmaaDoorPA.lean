/- Pure proofs: no program in sight. -/
import Derived.Test.YtfafpnacflcgmaaDoorVA
set_option linter.unusedVariables false
set_option linter.unusedSimpArgs false
namespace Go.Proofs.YtfafpnacflcgmaaDoor
open Go.Sy Go.RowKit
theorem bcheck_ok (b : List UInt8) : bcheck_vc b (fun r => r = bcheckS b) := by
  refine ⟨fun h => ?_, fun h => ⟨⟨?_, by decide, by decide⟩, fun h1 => ?_, fun h1 => ?_⟩⟩
  · have : 1000 < b.length := by simp at h; omega
    simp [bcheckS, this]
  · simp at h; omega
  · have hn : ¬ 1000 < b.length := by simp at h; omega
    have : ¬ isRow b = true := fun hr => by
      rw [(trim_row b).2 hr] at h1
      cases h1
    simp [bcheckS, hn, this]
  · have hn : ¬ 1000 < b.length := by simp at h; omega
    have : isRow b = true := (trim_row b).1 (by simpa using h1)
    simp [bcheckS, hn, this]
theorem bcheck_zero (b : List UInt8) : bcheckS b = 0 ↔ b.length ≤ 1000 ∧ isRow b = true := by
  unfold bcheckS
  split
  · constructor
    · intro h; cases h
    · intro h; omega
  · split
    · rename_i h1 h2
      exact ⟨fun _ => ⟨by omega, h2⟩, fun _ => rfl⟩
    · rename_i h1 h2
      exact ⟨fun h => (by cases h), fun h => absurd h.2 h2⟩
theorem rcheckrow_ok (b : List UInt8) : rcheckrow_vc b (fun r => r = bcheckS b) := by
  have hc := count_row b
  refine ⟨fun h => ?_, fun h => ⟨rfl, rfl, fun h1 => ?_, fun h1 => ?_⟩⟩
  · have : 1000 < b.length := by simp at h; omega
    simp [bcheckS, this]
  all_goals
    have hn : ¬ 1000 < b.length := by simp at h; omega
    have e : w64 (count1S b [48] + count1S b [49]) = ((b.count 48 + b.count 49 : Nat) : Int) := by
      show w64 (((b.count 48 : Nat) : Int) + ((b.count 49 : Nat) : Int)) = _
      rw [w64_eq _ (by omega)]
      omega
    rw [e] at h1
  · have : ¬ isRow b = true := fun hr => by
      rw [hc.2.2 hr] at h1
      simp at h1
    simp [bcheckS, hn, this]
  · have : isRow b = true := hc.2.1 (by simp at h1; omega)
    simp [bcheckS, hn, this]
theorem rsame_ok (l : List UInt8) (h : 0 < l.length ∧ l.length ≤ 1000) : rsame_vc l (fun r => r = rsameS l) := by
  match l, h with
  | c :: r, h =>
    refine ⟨by omega, rfl, ?_⟩
    show (((((c :: r).count c : Nat) : Int)) == (((c :: r).length : Nat) : Int)) = r.all (· == c)
    rw [List.count_cons_self, List.length_cons]
    have h1 : ((((r.count c + 1 : Nat) : Int) == ((r.length + 1 : Nat) : Int))) = decide (r.count c = r.length) := by
      rw [Bool.eq_iff_iff]
      simp
      omega
    rw [h1, Bool.eq_iff_iff]
    simp only [decide_eq_true_eq, List.all_eq_true, beq_iff_eq]
    rw [List.count_eq_length]
    exact ⟨fun h x hx => (h x hx).symm, fun h x hx => (h x hx).symm⟩
theorem bread_ok (b : List UInt8) (h : b.length ≤ 62 ∧ isRow b = true) : bread_vc b (fun r => r = breadS b) := by
  refine ⟨fun x y => ∃ k : Nat, y = k ∧ k ≤ b.length ∧ x = ((val (b.take k) : Nat) : Int), fun _ y => b.length - y.toNat, ⟨0, rfl, by omega, rfl⟩, ?_⟩
  rintro _ _ ⟨k, rfl, hk, rfl⟩
  refine ⟨fun h1 => ⟨by simp at h1; omega, fun c hc => ?_⟩, fun h1 => ?_⟩
  · rw [Int.toNat_natCast] at hc
    have hkl : k < b.length := (List.getElem?_eq_some_iff.1 hc).1
    have hv := val_lt (isRow_take h.2 k)
    have hl : (b.take k).length ≤ 61 := by rw [List.length_take]; omega
    have hp : 2 ^ (b.take k).length ≤ 2 ^ 61 := Nat.pow_le_pow_right (by omega) hl
    have hp61 : (2 : Nat) ^ 61 = 2305843009213693952 := rfl
    have hd : ∃ d : Nat, wu64 (w8 ((c.toNat : Int) - 48)) = (d : Int) ∧ d = c.toNat - 48 ∧ d < 2 := by
      rcases isRow_mem h.2 (List.mem_of_getElem? hc) with rfl | rfl
      · exact ⟨0, rfl, rfl, by omega⟩
      · exact ⟨1, rfl, rfl, by omega⟩
    obtain ⟨d, e1, e2, e3⟩ := hd
    have e4 := shl1 (val (b.take k)) (by omega)
    rw [e4, e1, or_bit _ d (by omega) e3, w64_succ k (by omega)]
    refine ⟨⟨k + 1, rfl, by omega, ?_⟩, by dsimp only; omega⟩
    rw [take_next b k c hc, val_snoc, e2]
  · have : k = b.length := by simp at h1; omega
    subst this
    rw [List.take_length]
    rfl
theorem bwrite_ok (n s : Int) (h : 0 ≤ s ∧ s ≤ 64 ∧ 0 ≤ n ∧ n < 2 ^ 62) : bwrite_vc n s (fun r => r = bwriteS n s) := by
  obtain ⟨m, rfl⟩ : ∃ m : Nat, s = m := ⟨s.toNat, by omega⟩
  obtain ⟨v, rfl⟩ : ∃ v : Nat, n = v := ⟨n.toNat, by omega⟩
  have p62 : (2 : Int) ^ 62 = 4611686018427387904 := rfl
  refine ⟨by omega, fun x i z => ∃ k : Nat, i = k ∧ k ≤ m ∧ x = ((v / 2 ^ k : Nat) : Int) ∧ z.length = m ∧ z.drop (m - k) = (wr k v).map (fun c => (c.toNat : Int)), fun _ i _ => m - i.toNat,
    ⟨0, rfl, by omega, by simp, by simp, by simp [wr]⟩, ?_⟩
  rintro _ _ z ⟨k, rfl, hk, rfl, hz, hd⟩
  refine ⟨fun h1 => ?_, fun h1 => ?_⟩
  · have hkm : k < m := by simp at h1; omega
    have e1 : w64 (w64 ((m : Int) - 1) - k) = ((m - 1 - k : Nat) : Int) := by
      rw [w64_eq ((m : Int) - 1) (by omega), w64_eq _ (by omega)]
      omega
    have hv : v / 2 ^ k < 18446744073709551616 := Nat.lt_of_le_of_lt (Nat.div_le_self _ _) (by omega)
    rw [e1, and1 _ hv, shr1, w64_succ k (by omega)]
    refine ⟨by omega, ⟨k + 1, rfl, by omega, ?_, by simpa using hz, ?_⟩, by dsimp only; omega⟩
    · rw [Nat.div_div_eq_div_mul, Nat.pow_succ]
    · have e2 : m - (k + 1) = m - 1 - k := by omega
      rw [e2, Int.toNat_natCast, wr, List.map_cons, ← hd]
      have hlt : m - 1 - k < z.length := by omega
      have e3 : m - k = m - 1 - k + 1 := by omega
      rw [e3, List.drop_eq_getElem_cons (by simpa using hlt), List.getElem_set_self]
      congr 1
      · rcases Nat.mod_two_eq_zero_or_one (v / 2 ^ k) with hh | hh <;> rw [hh] <;> rfl
      · rw [List.drop_set_of_lt (by omega)]
  · have : k = m := by simp at h1; omega
    subst this
    have e2 : k - k = 0 := by omega
    rw [e2, List.drop_zero] at hd
    show bstr z = wr (k : Int).toNat (v : Int).toNat
    rw [hd, Int.toNat_natCast, Int.toNat_natCast, bstr_ints]
theorem nx_counter (c : Counter) (b : UInt8) : nx c b = if (b.toNat : Int) = c.last then ⟨c.last, c.n + 1⟩ else ⟨b.toNat, 1⟩ := rfl
/-- The counter's next, as the program has it. -/
def cnextS (c : Counter) (b : Int) : Int × Bool × Counter := if b = c.last then (97 - b, decide (c.n + 1 = 5), ⟨c.last, c.n + 1⟩) else (97 - b, false, ⟨b, 1⟩)
theorem cnext_ok (c : Counter) (b : Int) (h : -1000000 ≤ c.n ∧ c.n ≤ 1000000 ∧ 0 ≤ b ∧ b ≤ 97) : cnext_vc c b (fun r => r = cnextS c b) := by
  have e1 : w8 (97 - b) = 97 - b := w8_eq _ (by omega)
  have e2 : w64 (c.n + 1) = c.n + 1 := w64_eq _ (by omega)
  refine ⟨fun h1 => ?_, fun h1 => ?_⟩
  · have h1 : b = c.last := by simpa using h1
    rw [e1, e2]
    unfold cnextS
    rw [if_pos h1]
    rfl
  · have h1 : ¬ b = c.last := by simpa using h1
    rw [e1]
    unfold cnextS
    rw [if_neg h1]
def cnextRS (r : Reader) (b : Int) : Int × Bool × Reader := ((cnextS r.c b).1, (cnextS r.c b).2.1, ⟨r.Row, r.At, r.Code, (cnextS r.c b).2.2⟩)
theorem cnextR_ok (r : Reader) (b : Int) (h : -1000000 ≤ r.c.n ∧ r.c.n ≤ 1000000 ∧ 0 ≤ b ∧ b ≤ 97) : cnextR_vc r b (fun q => q = cnextRS r b) := by
  have e1 : w8 (97 - b) = 97 - b := w8_eq _ (by omega)
  have e2 : w64 (r.c.n + 1) = r.c.n + 1 := w64_eq _ (by omega)
  refine ⟨fun h1 => ?_, fun h1 => ?_⟩
  · have h1 : b = r.c.last := by simpa using h1
    rw [e1, e2]
    unfold cnextRS cnextS
    rw [if_pos h1]
    rfl
  · have h1 : ¬ b = r.c.last := by simpa using h1
    rw [e1]
    unfold cnextRS cnextS
    rw [if_neg h1]
def rbitS (r : Reader) : Int × Reader :=
  if r.Code ≠ 0 then (48, r) else match r.Row[r.At.toNat]? with
    | none => (48, ⟨r.Row, r.At, 7, r.c⟩)
    | some b => ((b.toNat : Int), ⟨r.Row, r.At + 1, r.Code, r.c⟩)
theorem rbit_ok (r : Reader) (h : 0 ≤ r.At ∧ r.At ≤ (r.Row.length : Int) ∧ r.Row.length ≤ 1000000) : rbit_vc r (fun q => q = rbitS r) := by
  refine ⟨fun h1 => ?_, fun h1 => ⟨fun h2 => ?_, fun h2 => ?_⟩⟩
  · have h1 : r.Code ≠ 0 := by simpa using h1
    unfold rbitS
    rw [if_pos h1]
  all_goals
    have h1 : ¬ r.Code ≠ 0 := by simpa using h1
  · have h2 : r.At = (r.Row.length : Int) := by simpa using h2
    have e : r.Row[r.At.toNat]? = none := List.getElem?_eq_none (by omega)
    unfold rbitS
    rw [if_neg h1, e]
  · have h2 : ¬ r.At = (r.Row.length : Int) := by simpa using h2
    have e1 : w64 (w64 (r.At + 1) - 1) = r.At := by
      rw [w64_eq (r.At + 1) (by omega), w64_eq _ (by omega)]
      omega
    have e2 : w64 (r.At + 1) = r.At + 1 := w64_eq _ (by omega)
    rw [e1, e2]
    refine ⟨by omega, fun b hb => ?_⟩
    unfold rbitS
    rw [if_neg h1, hb]
theorem rother_flip (c : UInt8) (h : isBit c = true) : rother (c.toNat : Int) = ((flip c).toNat : Int) := by
  rcases isBit_or h with rfl | rfl <;> rfl
theorem bstr_rother (c : UInt8) (h : isBit c = true) : bstr [rother (c.toNat : Int)] = [flip c] := by rw [rother_flip c h, bstr_one]
def fixbitsS (b : List UInt8) (a : Int) : List UInt8 := fixF 0 (UInt8.ofNat a.toNat) b
theorem fixF_none (b : List UInt8) : ∀ (k : Nat) (a : UInt8), 1 ≤ k % 4 → k % 4 + b.length ≤ 4 → fixF k a b = b := by
  induction b with
  | nil => exact fun _ _ _ _ => rfl
  | cons c r ih =>
    intro k a h1 h2
    rw [List.length_cons] at h2
    rw [fixF, if_neg (by omega)]
    cases r with
    | nil => rfl
    | cons d r =>
      rw [ih (k + 1) c (by rw [List.length_cons] at h2; omega) (by rw [List.length_cons] at h2 ⊢; omega)]
theorem fixF_chunk (x y : List UInt8) : ∀ (k : Nat) (a : UInt8), 1 ≤ k % 4 → k % 4 + x.length = 4 → x ≠ [] → fixF k a (x ++ y) = x ++ fixF (k + x.length) (x.getLast?.getD a) y := by
  induction x with
  | nil => exact fun _ _ _ _ h => absurd rfl h
  | cons c r ih =>
    intro k a h1 h2 _
    rw [List.length_cons] at h2
    rw [List.cons_append, fixF, if_neg (by omega)]
    cases r with
    | nil => simp
    | cons d r =>
      rw [ih (k + 1) c (by rw [List.length_cons] at h2; omega) (by rw [List.length_cons] at h2 ⊢; omega) (by simp)]
      have e : k + 1 + (d :: r).length = k + (c :: d :: r).length := by simp only [List.length_cons]; omega
      rw [e, List.getLast?_cons_cons, List.getLast?_eq_some_getLast (by simp : d :: r ≠ [])]
      simp
theorem fixF_shift (b : List UInt8) : ∀ (k j : Nat) (a : UInt8), k % 4 = j % 4 → fixF k a b = fixF j a b := by
  induction b with
  | nil => exact fun _ _ _ _ => rfl
  | cons c r ih =>
    intro k j a h
    rw [fixF, fixF, h, ih (k + 1) (j + 1) c (by omega)]
theorem fixbits_ok (b : List UInt8) (a : Int) (h : isRow b = true ∧ b.length ≤ 1000 ∧ (a = 48 ∨ a = 49)) : fixbits_vc b a (fun r => r = fixbitsS b a) := by
  refine ⟨fun x1 x5 x6 => ∃ (k : Nat) (c : UInt8), x6 = k ∧ x1 = (c.toNat : Int) ∧ isBit c = true ∧ k % 4 = 0 ∧ k ≤ b.length + 3 ∧ x5.length ≤ 2 * k ∧ x5 ++ fixF 0 c (b.drop k) = fixbitsS b a, fun _ _ x6 => b.length + 4 - x6.toNat, ?_, ?_⟩
  · refine ⟨0, UInt8.ofNat a.toNat, rfl, ?_, ?_, rfl, by omega, by simp, rfl⟩ <;> rcases h.2.2 with rfl | rfl <;> rfl
  rintro _ x5 _ ⟨k, c, rfl, rfl, hc, hk4, hkl, hx5, hfix⟩
  refine ⟨fun h1 => ?_, fun h1 => ?_⟩
  · have hk : k < b.length := by simp at h1; omega
    rw [bstr_rother c hc]
    have e4 : w64 ((k : Int) + 4) = ((k + 4 : Nat) : Int) := by rw [w64_eq _ (by omega)]; rfl
    rw [e4]
    have em : min ((k + 4 : Nat) : Int) (b.length : Int) = ((min (k + 4) b.length : Nat) : Int) := by omega
    rw [em, Int.toNat_natCast, Int.toNat_natCast]
    -- the chunk
    obtain ⟨ch, hch⟩ : ∃ ch, ch = (b.take (min (k + 4) b.length)).drop k := ⟨_, rfl⟩
    rw [← hch]
    have hlen : ch.length = min (k + 4) b.length - k := by rw [hch]; simp
    have hrow : isRow ch = true := by rw [hch]; exact isRow_drop (isRow_take h.1 _) _
    have hsplit : b.drop k = ch ++ b.drop (k + 4) := by
      rw [hch]
      by_cases h4 : k + 4 ≤ b.length
      · rw [Nat.min_eq_left h4]
        have : b.drop k = (b.drop k).take 4 ++ (b.drop k).drop 4 := (List.take_append_drop 4 _).symm
        rw [List.drop_drop] at this
        rw [List.drop_take]
        have e : k + 4 - k = 4 := by omega
        rw [e]
        exact this
      · rw [Nat.min_eq_right (by omega), List.take_length, List.drop_eq_nil_of_le (by omega : b.length ≤ k + 4), List.append_nil]
    obtain ⟨d, r, hdr⟩ : ∃ d r, ch = d :: r := by
      cases hcc : ch with
      | nil => rw [hcc] at hlen; simp at hlen; omega
      | cons d r => exact ⟨d, r, rfl⟩
    have hne : x5 ++ ([flip c] ++ ch) ≠ [] := by simp
    have hL : (x5 ++ ([flip c] ++ ch)).length = x5.length + 1 + ch.length := by simp; omega
    have hbl : b.length ≤ 1000 := h.2.1
    refine ⟨by omega, by simp only [List.length_cons, List.length_nil]; omega, by rw [List.length_append, List.length_cons, List.length_nil]; omega, ?_, fun q hq => ?_⟩
    · rw [hL, w64_eq _ (by omega)]
      omega
    · rw [hL] at hq
      have e1 : (w64 (((x5.length + 1 + ch.length : Nat) : Int) - 1)).toNat = x5.length + ch.length := by rw [w64_eq _ (by omega)]; omega
      rw [e1] at hq
      have hlast : ch.getLast? = some q := by
        rw [← List.append_assoc, List.getElem?_append_right (by simp; omega)] at hq
        have e2 : x5.length + ch.length - (x5 ++ [flip c]).length = ch.length - 1 := by simp; omega
        rw [e2] at hq
        rw [List.getLast?_eq_getElem?]
        exact hq
      have hqm : q ∈ ch := List.mem_of_getLast? hlast
      refine ⟨⟨k + 4, q, rfl, rfl, List.all_eq_true.1 hrow q hqm, by omega, by omega, by rw [hL]; omega, ?_⟩, by dsimp only; omega⟩
      have e9 : fixF 0 c (b.drop k) = flip c :: d :: fixF 1 d (r ++ b.drop (k + 4)) := by rw [hsplit, hdr]; rfl
      rw [← hfix, e9, hdr, List.append_assoc]
      congr 1
      simp only [List.cons_append, List.nil_append]
      congr 2
      cases hr : r with
      | nil =>
        rw [hdr, hr] at hlast
        simp at hlast
        subst hlast
        rw [List.nil_append]
        by_cases h4 : k + 4 ≤ b.length
        · rw [hdr, hr] at hlen; simp at hlen; omega
        · rw [List.drop_eq_nil_of_le (by omega : b.length ≤ k + 4)]; rfl
      | cons d2 r2 =>
        rw [← hr]
        have hrl : r ≠ [] := by rw [hr]; simp
        by_cases h4 : k + 4 ≤ b.length
        · have h3 : r.length = 3 := by rw [hdr] at hlen; simp at hlen; omega
          rw [fixF_chunk r _ 1 d (by omega) (by omega) hrl]
          have : r.getLast? = some q := by rw [hdr, List.getLast?_cons] at hlast; rw [hr] at hlast ⊢; simpa [List.getLast?_cons] using hlast
          rw [this, Option.getD_some]
          congr 1
          exact fixF_shift _ _ _ _ (by omega)
        · rw [List.drop_eq_nil_of_le (by omega : b.length ≤ k + 4), List.append_nil]
          rw [fixF_none r 1 d (by omega) (by rw [hdr] at hlen; simp at hlen; omega)]
          simp [fixF]
  · have : b.length ≤ k := by simp at h1; omega
    rw [List.drop_eq_nil_of_le this] at hfix
    simpa [fixF] using hfix

end Go.Proofs.YtfafpnacflcgmaaDoor
