/- Pure proofs: no program in sight. -/
import Derived.Test.YtfafpnacflcgmaaDoorVB
set_option linter.unusedVariables false
set_option linter.unusedSimpArgs false
namespace Go.Proofs.YtfafpnacflcgmaaDoor
open Go.Sy Go.RowKit
def bnumberS (b : List UInt8) : Int × Int := if bcheckS b ≠ 0 then (0, bcheckS b) else if 62 < b.length then (0, 2) else ((val b : Int), 0)
theorem bnumber_ok (b : List UInt8) : bnumber_vc b (fun r => r = bnumberS b) := by
  refine ⟨fun h => ?_, fun h => ⟨fun h1 => ?_, fun h1 => ?_⟩⟩
  · have h : bcheckS b ≠ 0 := by simpa using h
    unfold bnumberS
    rw [if_pos h]
  all_goals
    have h : ¬ bcheckS b ≠ 0 := by simpa using h
  · unfold bnumberS
    rw [if_neg h, if_pos (by simp at h1; omega)]
  · have hr := ((bcheck_zero b).1 (by simpa using h)).2
    have hl : b.length ≤ 62 := by simp at h1; omega
    refine ⟨⟨hl, hr⟩, ?_⟩
    have hv := val_lt hr
    have hp : 2 ^ b.length ≤ 2 ^ 62 := Nat.pow_le_pow_right (by omega) hl
    have p62 : (2 : Nat) ^ 62 = 4611686018427387904 := rfl
    unfold bnumberS
    rw [if_neg h, if_neg (by omega)]
    unfold breadS
    rw [w64_eq _ (by omega)]
def browS (n s : Int) : List UInt8 × Int := if s < 0 ∨ 62 < s then ([], 2) else if n < 0 ∨ 2 ^ s.toNat ≤ n.toNat then ([], 3) else (wr s.toNat n.toNat, 0)
theorem brow_ok (n s : Int) (hn : n ≤ 9223372036854775807) : brow_vc n s (fun r => r = browS n s) := by
  refine ⟨fun h => ?_, fun h => ⟨fun h1 => ?_, fun h1 => ?_⟩⟩
  · unfold browS
    rw [if_pos (by simpa using h)]
  all_goals
    have h : ¬ (s < 0 ∨ 62 < s) := by simp at h; omega
  · unfold browS
    rw [if_neg h, if_pos (.inl (by simpa using h1))]
  · have h1 : 0 ≤ n := by simpa using h1
    obtain ⟨m, rfl⟩ : ∃ m : Nat, s = m := ⟨s.toNat, by omega⟩
    obtain ⟨v, rfl⟩ : ∃ v : Nat, n = v := ⟨n.toNat, by omega⟩
    have hp : 2 ^ m ≤ 2 ^ 62 := Nat.pow_le_pow_right (by omega) (by omega)
    have p62 : (2 : Nat) ^ 62 = 4611686018427387904 := rfl
    rw [shrN v m (by omega)]
    have key : v / 2 ^ m = 0 ↔ v < 2 ^ m := by rw [Nat.div_eq_zero_iff_lt (Nat.two_pow_pos m)]
    refine ⟨by omega, fun h2 => ?_, fun h2 => ?_⟩
    · have h3 : ¬ ((v / 2 ^ m : Nat) : Int) = 0 := by simpa only [bne_iff_ne, ne_eq] using h2
      have h4 : ¬ v / 2 ^ m = 0 := by omega
      rw [key] at h4
      have h5 : 2 ^ (m : Int).toNat ≤ (v : Int).toNat := by rw [Int.toNat_natCast, Int.toNat_natCast]; omega
      unfold browS
      rw [if_neg h, if_pos (Or.inr h5)]
    · have h3 : ((v / 2 ^ m : Nat) : Int) = 0 := by simpa only [bne_eq_false_iff_eq] using h2
      have : v / 2 ^ m = 0 := by omega
      rw [key] at this
      have e : wu64 (v : Int) = v := wu64_eq _ (by omega)
      rw [e]
      have p62' : (2 : Int) ^ 62 = 4611686018427387904 := rfl
      refine ⟨by omega, ?_⟩
      unfold browS bwriteS
      rw [if_neg h, if_neg (by rw [Int.toNat_natCast, Int.toNat_natCast]; omega)]
/-- The counter's next, of a bit. -/
theorem cnextS_bit (c : Counter) (b : UInt8) (h : isBit b = true) : cnextS c (b.toNat : Int) = (((flip b).toNat : Int), decide ((nx c b).n = 5), nx c b) := by
  have e : (97 : Int) - (b.toNat : Int) = ((flip b).toNat : Int) := by rcases isBit_or h with rfl | rfl <;> rfl
  unfold cnextS nx
  rw [e]
  split
  · rfl
  · rfl
theorem nx_last (c : Counter) (b : UInt8) : (nx c b).last = (b.toNat : Int) := by
  unfold nx
  split
  · rename_i h; exact h.symm
  · rfl
theorem nx_n (c : Counter) (b : UInt8) : (nx c b).n = if (b.toNat : Int) = c.last then c.n + 1 else 1 := by unfold nx; split <;> rfl
theorem nx_bound (c : Counter) (b : UInt8) (k : Int) (h : 0 ≤ c.n ∧ c.n ≤ k) : 1 ≤ (nx c b).n ∧ (nx c b).n ≤ k + 1 := by rw [nx_n]; split <;> omega
theorem flip_ne (b : UInt8) : (flip b).toNat ≠ b.toNat := by
  unfold flip
  split
  · rename_i h; subst h; decide
  · rename_i h
    intro e
    exact h (UInt8.toNat_inj.1 e).symm
theorem nx_flip (c : Counter) (b : UInt8) : nx (nx c b) (flip b) = ⟨((flip b).toNat : Int), 1⟩ := by
  have h : ¬ (((flip b).toNat : Int) = (nx c b).last) := by
    rw [nx_last]
    have := flip_ne b
    omega
  unfold nx at h ⊢
  rw [if_neg h]
def sputS (b : List UInt8) : List UInt8 × Int := if bcheckS b ≠ 0 then ([], bcheckS b) else (putF ⟨0, 0⟩ b, 0)
theorem sput_ok (b : List UInt8) : sput_vc b (fun r => r = sputS b) := by
  refine ⟨fun h => ?_, fun h => ?_⟩
  · have h : bcheckS b ≠ 0 := by simpa using h
    unfold sputS
    rw [if_pos h]
  have h : ¬ bcheckS b ≠ 0 := by simpa using h
  obtain ⟨hl, hr⟩ := (bcheck_zero b).1 (by simpa using h)
  have hS : sputS b = (putF ⟨0, 0⟩ b, 0) := by unfold sputS; rw [if_neg h]
  rw [hS]
  refine ⟨fun x i c => ∃ k : Nat, i = k ∧ k ≤ b.length ∧ x.length ≤ 2 * k ∧ 0 ≤ c.n ∧ c.n ≤ 4 ∧ bstr x ++ putF c (b.drop k) = putF ⟨0, 0⟩ b, fun _ i _ => b.length - i.toNat, ⟨0, rfl, by omega, by simp, by decide, by decide, rfl⟩, ?_⟩
  rintro x _ c ⟨k, rfl, hk, hx, h0, h4, hp⟩
  refine ⟨fun h1 => ?_, fun h1 => ?_⟩
  · refine ⟨by simp at h1; omega, fun q hq => ?_⟩
    rw [Int.toNat_natCast] at hq
    have hkl : k < b.length := (List.getElem?_eq_some_iff.1 hq).1
    have hqb : isBit q = true := List.all_eq_true.1 hr q (List.mem_of_getElem? hq)
    refine ⟨by omega, by omega, fun q2 hq2 => ?_⟩
    rw [Int.toNat_natCast] at hq2
    obtain rfl : q2 = q := Option.some.inj (hq2.symm.trans hq)
    have hb := nx_bound c q2 4 ⟨h0, h4⟩
    have hq97 : (0 : Int) ≤ (q2.toNat : Int) ∧ (q2.toNat : Int) ≤ 97 := by rcases isBit_or hqb with rfl | rfl <;> decide
    have ew : w64 ((k : Int) + 1) = ((k + 1 : Nat) : Int) := w64_succ k (by omega)
    refine ⟨by omega, fun r hr1 => ?_⟩
    rw [cnextS_bit c q2 hqb] at hr1
    subst hr1
    rw [drop_this b k q2 hq, putF] at hp
    rw [ew]
    refine ⟨fun h2 => ?_, fun h2 => ?_⟩
    · have h2 : (nx c q2).n = 5 := of_decide_eq_true h2
      rw [if_pos h2] at hp
      have hf97 : (0 : Int) ≤ ((flip q2).toNat : Int) ∧ ((flip q2).toNat : Int) ≤ 97 := by rcases isBit_or (isBit_flip q2) with e | e <;> rw [e] <;> decide
      refine ⟨by simp; omega, by (try dsimp only); omega, fun r hr2 => ?_⟩
      rw [show (((flip q2).toNat : Int), decide ((nx c q2).n = 5), nx c q2).2.2 = nx c q2 from rfl, show (((flip q2).toNat : Int), decide ((nx c q2).n = 5), nx c q2).1 = ((flip q2).toNat : Int) from rfl, cnextS_bit _ _ (isBit_flip q2)] at hr2
      subst hr2
      refine ⟨⟨k + 1, rfl, by omega, by simp; omega, ?_, ?_, ?_⟩, by (try dsimp only); omega⟩
      · show 0 ≤ (nx (nx c q2) (flip q2)).n; rw [nx_flip]; show (0 : Int) ≤ 1; decide
      · show (nx (nx c q2) (flip q2)).n ≤ 4; rw [nx_flip]; show (1 : Int) ≤ 4; decide
      · rw [bstr_append, bstr_append, bstr_one, bstr_one, ← hp]
        simp
    · have h2 : ¬ (nx c q2).n = 5 := of_decide_eq_false h2
      rw [if_neg h2] at hp
      refine ⟨⟨k + 1, rfl, by omega, by simp; omega, by (try dsimp only); omega, by (try dsimp only); omega, ?_⟩, by (try dsimp only); omega⟩
      rw [bstr_append, bstr_one, ← hp]
      simp
  · have : k = b.length := by simp at h1; omega
    subst this
    rw [List.drop_length] at hp
    simp only [putF, List.append_nil] at hp
    rw [hp]
def sfixedS (b : List UInt8) (a : Int) : List UInt8 × Int := if bcheckS b ≠ 0 then ([], bcheckS b) else if a ≠ 48 ∧ a ≠ 49 then ([], 3) else (fixF 0 (UInt8.ofNat a.toNat) b, 0)
theorem sfixed_ok (b : List UInt8) (a : Int) : sfixed_vc b a (fun r => r = sfixedS b a) := by
  refine ⟨fun h => ?_, fun h => ⟨fun h1 => ?_, fun h1 => ?_⟩⟩
  · have h : bcheckS b ≠ 0 := by simpa using h
    unfold sfixedS
    rw [if_pos h]
  all_goals
    have h : ¬ bcheckS b ≠ 0 := by simpa using h
  · unfold sfixedS
    rw [if_neg h, if_pos (by simpa using h1)]
  obtain ⟨hl, hr⟩ := (bcheck_zero b).1 (by simpa using h)
  have h1 : ¬ (a ≠ 48 ∧ a ≠ 49) := by simp at h1; omega
  have hS : sfixedS b a = (fixF 0 (UInt8.ofNat a.toNat) b, 0) := by unfold sfixedS; rw [if_neg h, if_neg h1]
  rw [hS]
  refine ⟨fun x l i => ∃ (k : Nat) (c : UInt8), i = k ∧ l = (c.toNat : Int) ∧ isBit c = true ∧ k ≤ b.length ∧ x.length ≤ 2 * k ∧ bstr x ++ fixF k c (b.drop k) = fixF 0 (UInt8.ofNat a.toNat) b, fun _ _ i => b.length - i.toNat, ?_, ?_⟩
  · refine ⟨0, UInt8.ofNat a.toNat, rfl, ?_, ?_, by omega, by simp, rfl⟩
    all_goals
      have : a = 48 ∨ a = 49 := by omega
      rcases this with rfl | rfl <;> rfl
  rintro x _ _ ⟨k, c, rfl, rfl, hc, hk, hx, hp⟩
  have ew : k < b.length → w64 ((k : Int) + 1) = ((k + 1 : Nat) : Int) := fun _ => w64_succ k (by omega)
  have e9 : w8 (97 - (c.toNat : Int)) = ((flip c).toNat : Int) := by rcases isBit_or hc with rfl | rfl <;> rfl
  have e4 : ((k : Int).tmod 4 == 0) = decide (k % 4 = 0) := by
    rw [Int.tmod_eq_emod_of_nonneg (by omega), Bool.eq_iff_iff]
    simp
    omega
  rw [e4, e9]
  refine ⟨fun h2 => ⟨fun h3 => ⟨by omega, by simp at h2; omega, fun q hq => ⟨by simp; omega, by simp at h2; omega, fun q2 hq2 => ?_⟩⟩, fun h3 => ⟨by simp at h2; omega, fun q hq => ⟨by omega, by simp at h2; omega, fun q2 hq2 => ?_⟩⟩⟩, fun h2 => ?_⟩
  · rw [Int.toNat_natCast] at hq hq2
    obtain rfl : q2 = q := Option.some.inj (hq2.symm.trans hq)
    have hkl : k < b.length := (List.getElem?_eq_some_iff.1 hq).1
    have hqb : isBit q2 = true := List.all_eq_true.1 hr q2 (List.mem_of_getElem? hq)
    rw [ew hkl]
    rw [drop_this b k q2 hq, fixF, if_pos (of_decide_eq_true h3)] at hp
    refine ⟨⟨k + 1, q2, rfl, rfl, hqb, by omega, by simp; omega, ?_⟩, by (try dsimp only); omega⟩
    rw [bstr_append, bstr_append, bstr_one, bstr_one, ← hp]
    simp
  · rw [Int.toNat_natCast] at hq hq2
    obtain rfl : q2 = q := Option.some.inj (hq2.symm.trans hq)
    have hkl : k < b.length := (List.getElem?_eq_some_iff.1 hq).1
    have hqb : isBit q2 = true := List.all_eq_true.1 hr q2 (List.mem_of_getElem? hq)
    rw [ew hkl]
    rw [drop_this b k q2 hq, fixF, if_neg (of_decide_eq_false h3)] at hp
    refine ⟨⟨k + 1, q2, rfl, rfl, hqb, by omega, by simp; omega, ?_⟩, by (try dsimp only); omega⟩
    rw [bstr_append, bstr_one, ← hp]
    simp
  · have : k = b.length := by simp at h2; omega
    subst this
    rw [List.drop_length] at hp
    simp only [fixF, List.append_nil] at hp
    rw [hp]
def brunS (b : List UInt8) : Int × Int := if bcheckS b ≠ 0 then (0, bcheckS b) else (bestF ⟨0, 0⟩ b, 0)
theorem brun_ok (b : List UInt8) : brun_vc b (fun r => r = brunS b) := by
  refine ⟨fun h => ?_, fun h => ?_⟩
  · have h : bcheckS b ≠ 0 := by simpa using h
    unfold brunS
    rw [if_pos h]
  have h : ¬ bcheckS b ≠ 0 := by simpa using h
  obtain ⟨hl, hr⟩ := (bcheck_zero b).1 (by simpa using h)
  have hS : brunS b = (bestF ⟨0, 0⟩ b, 0) := by unfold brunS; rw [if_neg h]
  rw [hS]
  have hbest : ∀ (l : List UInt8) (c : Counter), 0 ≤ bestF c l := by
    intro l
    induction l with
    | nil => exact fun _ => Int.le_refl _
    | cons x l ih => intro c; have := ih (nx c x); rw [bestF]; omega
  refine ⟨fun best n i => ∃ (k : Nat) (c : Counter), i = k ∧ n = c.n ∧ k ≤ b.length ∧ 0 ≤ c.n ∧ c.n ≤ k ∧ 0 ≤ best ∧ (k = 0 → c = ⟨0, 0⟩) ∧ (∀ q, 0 < k → b[k - 1]? = some q → c.last = (q.toNat : Int)) ∧ max best (bestF c (b.drop k)) = bestF ⟨0, 0⟩ b, fun _ _ i => b.length - i.toNat, ?_, ?_⟩
  · refine ⟨0, ⟨0, 0⟩, rfl, rfl, by omega, by decide, by decide, by decide, fun _ => rfl, fun _ h => absurd h (by omega), ?_⟩
    have := hbest b ⟨0, 0⟩
    rw [List.drop_zero]
    omega
  rintro best _ _ ⟨k, c, rfl, rfl, hk, hc0, hck, hb0, hk0, hlast, hp⟩
  have fin : ∀ q, b[k]? = some q → ∀ m, m = (nx c q).n → (∃ (k2 : Nat) (c2 : Counter), ((k + 1 : Nat) : Int) = k2 ∧ m = c2.n ∧ k2 ≤ b.length ∧ 0 ≤ c2.n ∧ c2.n ≤ k2 ∧ 0 ≤ max best m ∧ (k2 = 0 → c2 = ⟨0, 0⟩) ∧ (∀ q, 0 < k2 → b[k2 - 1]? = some q → c2.last = (q.toNat : Int)) ∧ max (max best m) (bestF c2 (b.drop k2)) = bestF ⟨0, 0⟩ b) := by
    rintro q hq m rfl
    have hkl : k < b.length := (List.getElem?_eq_some_iff.1 hq).1
    have hb := nx_bound c q k ⟨hc0, hck⟩
    refine ⟨k + 1, nx c q, rfl, rfl, by omega, by omega, by omega, by omega, fun h => absurd h (by omega), fun q2 _ hq2 => ?_, ?_⟩
    · rw [Nat.add_sub_cancel] at hq2
      rw [nx_last, Option.some.inj (hq.symm.trans hq2)]
    · rw [drop_this b k q hq, bestF] at hp
      omega
  refine ⟨fun h2 => ?_, fun h2 => ?_⟩
  · have hkl : k < b.length := by simp at h2; omega
    have hq0 : b[k]? = some b[k] := List.getElem?_eq_getElem hkl
    have ew : w64 ((k : Int) + 1) = ((k + 1 : Nat) : Int) := w64_succ k (by omega)
    rw [ew]
    refine ⟨fun h3 => ⟨by omega, fun q hq => ?_⟩, fun h3 => ?_⟩
    · have hk1 : 0 < k := by simp at h3; omega
      rw [Int.toNat_natCast] at hq
      have e1 : w64 ((k : Int) - 1) = ((k - 1 : Nat) : Int) := by rw [w64_eq _ (by omega)]; omega
      rw [e1]
      refine ⟨by omega, fun q2 hq2 => ?_⟩
      rw [Int.toNat_natCast] at hq2
      have hl2 := hlast q2 hk1 hq2
      refine ⟨fun h4 => ⟨fin q hq _ ?_, by (try dsimp only); omega⟩, fun h4 => ⟨fin q hq _ ?_, by (try dsimp only); omega⟩⟩
      · rw [nx_n, if_pos (by rw [hl2]; simpa using h4), w64_eq _ (by omega)]
      · rw [nx_n, if_neg (by rw [hl2]; simpa using h4)]
    · have hk1 : k = 0 := by simp at h3; omega
      refine ⟨fin _ hq0 _ ?_, by (try dsimp only); omega⟩
      rw [hk0 hk1]
      rw [nx_n]
      split <;> rfl
  · have : k = b.length := by simp at h2; omega
    subst this
    rw [List.drop_length] at hp
    have : bestF c [] = 0 := rfl
    rw [this] at hp
    have : best = bestF ⟨0, 0⟩ b := by omega
    rw [this]
/-- The reader is right. -/
def Rok (r : Reader) : Prop := 0 ≤ r.At ∧ r.At ≤ (r.Row.length : Int) ∧ r.Row.length ≤ 1000000 ∧ isRow r.Row = true ∧ 0 ≤ r.c.n ∧ r.c.n ≤ 4
def rloop : Nat → List UInt8 → Reader → List UInt8 × Reader
  | 0, out, r => if r.Code ≠ 0 then ([], r) else (out, r)
  | k + 1, out, r =>
    if (rbitS r).2.Code ≠ 0 then ([], (rbitS r).2) else
    if (cnextRS (rbitS r).2 (rbitS r).1).2.1 = true then
      rloop k (out ++ bstr [(rbitS r).1]) (cnextRS (if (rbitS (cnextRS (rbitS r).2 (rbitS r).1).2.2).2.Code = 0 ∧ (rbitS (cnextRS (rbitS r).2 (rbitS r).1).2.2).1 ≠ (cnextRS (rbitS r).2 (rbitS r).1).1 then
        ⟨(rbitS (cnextRS (rbitS r).2 (rbitS r).1).2.2).2.Row, (rbitS (cnextRS (rbitS r).2 (rbitS r).1).2.2).2.At, 5, (rbitS (cnextRS (rbitS r).2 (rbitS r).1).2.2).2.c⟩ else (rbitS (cnextRS (rbitS r).2 (rbitS r).1).2.2).2) (cnextRS (rbitS r).2 (rbitS r).1).1).2.2
    else rloop k (out ++ bstr [(rbitS r).1]) (cnextRS (rbitS r).2 (rbitS r).1).2.2
def rtakeS (r : Reader) (n : Int) : List UInt8 × Reader := rloop n.toNat [] r
theorem rbitS_spec (r : Reader) (h : 0 ≤ r.At ∧ r.At ≤ (r.Row.length : Int) ∧ isRow r.Row = true) : ∃ b, isBit b = true ∧ (rbitS r).1 = (b.toNat : Int) ∧ (rbitS r).2.Row = r.Row ∧ (rbitS r).2.c = r.c ∧ 0 ≤ (rbitS r).2.At ∧ (rbitS r).2.At ≤ (r.Row.length : Int) ∧ r.At ≤ (rbitS r).2.At ∧
    ((rbitS r).2.Code = 0 → r.Code = 0 ∧ (rbitS r).2.At = r.At + 1 ∧ r.Row[r.At.toNat]? = some b) := by
  unfold rbitS
  split
  · rename_i hc
    exact ⟨48, rfl, rfl, rfl, rfl, h.1, h.2.1, Int.le_refl _, fun e => absurd e hc⟩
  · rename_i hc
    split
    · rename_i hn
      exact ⟨48, rfl, rfl, rfl, rfl, h.1, h.2.1, Int.le_refl _, fun e => by cases e⟩
    · rename_i b hb
      have hl := (List.getElem?_eq_some_iff.1 hb).1
      exact ⟨b, List.all_eq_true.1 h.2.2 b (List.mem_of_getElem? hb), rfl, rfl, rfl, by (try dsimp only); omega, by (try dsimp only); omega, by (try dsimp only); omega, fun e => ⟨e, rfl, hb⟩⟩
theorem cnextRS_bit (r : Reader) (b : UInt8) (h : isBit b = true) : cnextRS r (b.toNat : Int) = (((flip b).toNat : Int), decide ((nx r.c b).n = 5), ⟨r.Row, r.At, r.Code, nx r.c b⟩) := by
  unfold cnextRS
  rw [cnextS_bit r.c b h]
theorem bit97 (b : UInt8) (h : isBit b = true) : (0 : Int) ≤ (b.toNat : Int) ∧ (b.toNat : Int) ≤ 97 := by rcases isBit_or h with e | e <;> rw [e] <;> decide
theorem rtake_ok (r : Reader) (n : Int) (h : Rok r ∧ n ≤ 9223372036854775807) : rtake_vc r n (fun q => q = rtakeS r n) := by
  obtain ⟨hR, hn⟩ := h
  refine ⟨fun x i y => ∃ k : Nat, i = k ∧ (k : Int) ≤ max n 0 ∧ Rok y ∧ (x.length : Int) ≤ y.At ∧ rloop (n.toNat - k) (bstr x) y = rtakeS r n, fun _ i _ => n.toNat - i.toNat, ⟨0, rfl, by omega, hR, by simpa using hR.1, rfl⟩, ?_⟩
  rintro x _ y ⟨k, rfl, hk, hy, hx, hl⟩
  obtain ⟨a0, a1, a2, a3, a4, a5⟩ := hy
  have ew : (k : Int) < n → w64 ((k : Int) + 1) = ((k + 1 : Nat) : Int) := fun _ => w64_succ k (by omega)
  refine ⟨fun h1 => ⟨⟨a0, a1, a2⟩, ?_⟩, fun h1 => ⟨fun h2 => ?_, fun h2 => ?_⟩⟩
  · rintro _ rfl
    have hkn : (k : Int) < n := by simpa using h1
    rw [ew hkn]
    obtain ⟨m, hm⟩ : ∃ m, n.toNat - k = m + 1 := ⟨n.toNat - k - 1, by omega⟩
    have hm2 : n.toNat - (k + 1) = m := by omega
    rw [hm, rloop] at hl
    obtain ⟨b, hb, e1, e2, e3, e4, e5, e6, e7⟩ := rbitS_spec y ⟨a0, a1, a3⟩
    refine ⟨fun h2 => ?_, fun h2 => ?_⟩
    · rw [if_pos (by simpa using h2)] at hl
      exact hl
    · have h2 : (rbitS y).2.Code = 0 := by simpa using h2
      rw [if_neg (by simpa using h2)] at hl
      obtain ⟨c1, c2, c3⟩ := e7 h2
      rw [e1, cnextRS_bit _ b hb, e3, e2] at hl
      have hnb := nx_bound y.c b 4 ⟨a4, a5⟩
      have h97 := bit97 b hb
      refine ⟨by omega, ⟨by rw [e3]; omega, by rw [e3]; omega, by rw [e1]; exact h97.1, by rw [e1]; exact h97.2⟩, ?_⟩
      rw [e1, cnextRS_bit _ b hb, e3, e2]
      rintro _ rfl
      dsimp only at hl ⊢
      have hx2 : ((x ++ [(b.toNat : Int)]).length : Int) ≤ (rbitS y).2.At := by simp; omega
      have hbs : bstr (x ++ [(b.toNat : Int)]) = bstr x ++ bstr [(b.toNat : Int)] := bstr_append _ _
      have hf97 := bit97 (flip b) (isBit_flip b)
      refine ⟨fun h3 => ⟨⟨e4, e5, a2⟩, ?_⟩, fun h3 => ?_⟩
      · have h3' := of_decide_eq_true h3
        rw [if_pos h3] at hl
        obtain ⟨t, ht⟩ : ∃ t, t = rbitS ⟨y.Row, (rbitS y).2.At, (rbitS y).2.Code, nx y.c b⟩ := ⟨_, rfl⟩
        obtain ⟨b2, hb2, f1, f2, f3, f4, f5, f6, f7⟩ := rbitS_spec ⟨y.Row, (rbitS y).2.At, (rbitS y).2.Code, nx y.c b⟩ ⟨e4, e5, a3⟩
        rw [← ht] at f1 f2 f3 f4 f5 f6 f7 hl ⊢
        rintro _ rfl
        have hnn : t.2.c.n = 5 := by rw [f3]; exact h3'
        have hfl : nx t.2.c (flip b) = ⟨((flip b).toNat : Int), 1⟩ := by rw [f3]; exact nx_flip _ _
        refine ⟨fun h4 => ⟨⟨by (try dsimp only); omega, by (try dsimp only); omega, hf97.1, hf97.2⟩, ?_⟩, fun h4 => ⟨⟨by omega, by omega, hf97.1, hf97.2⟩, ?_⟩⟩
        · have h4' : t.2.Code = 0 ∧ t.1 ≠ ((flip b).toNat : Int) := by simpa using h4
          rw [if_pos h4'] at hl
          rintro _ rfl
          refine ⟨⟨k + 1, rfl, by omega, ?_, ?_, ?_⟩, by (try dsimp only); omega⟩
          · rw [cnextRS_bit _ _ (isBit_flip b)]
            dsimp only
            rw [hfl, f2]
            exact ⟨by (try dsimp only); omega, by (try dsimp only at *); omega, a2, a3, by show (0 : Int) ≤ 1; decide, by show (1 : Int) ≤ 4; decide⟩
          · rw [cnextRS_bit _ _ (isBit_flip b)]
            (try dsimp only at *)
            omega
          · rw [hm2, hbs]
            exact hl
        · have h4' : ¬ (t.2.Code = 0 ∧ t.1 ≠ ((flip b).toNat : Int)) := by
            intro hc
            have : ((t.2.Code == 0) && (t.1 != ((flip b).toNat : Int))) = true := by simpa using hc
            rw [this] at h4
            cases h4
          rw [if_neg h4'] at hl
          rintro _ rfl
          refine ⟨⟨k + 1, rfl, by omega, ?_, ?_, ?_⟩, by (try dsimp only); omega⟩
          · rw [cnextRS_bit _ _ (isBit_flip b)]
            dsimp only
            rw [hfl, f2]
            exact ⟨by (try dsimp only); omega, by (try dsimp only at *); omega, a2, a3, by show (0 : Int) ≤ 1; decide, by show (1 : Int) ≤ 4; decide⟩
          · rw [cnextRS_bit _ _ (isBit_flip b)]
            (try dsimp only at *)
            omega
          · rw [hm2, hbs]
            exact hl
      · have h3' := of_decide_eq_false h3
        rw [if_neg (by simpa using h3)] at hl
        refine ⟨⟨k + 1, rfl, by omega, ⟨e4, e5, a2, a3, by (try dsimp only); omega, by (try dsimp only); omega⟩, hx2, ?_⟩, by (try dsimp only); omega⟩
        rw [hm2, hbs]
        exact hl
  all_goals
    have hkn : n.toNat - k = 0 := by have : n ≤ (k : Int) := by simpa using h1
                                     omega
    rw [hkn, rloop] at hl
  · rw [if_pos (by simpa using h2)] at hl
    exact hl
  · rw [if_neg (by simpa using h2)] at hl
    exact hl
theorem rbitS_mk (row : List UInt8) (at_ code : Int) (c : Counter) : rbitS ⟨row, at_, code, c⟩ = if code ≠ 0 then (48, ⟨row, at_, code, c⟩) else match row[at_.toNat]? with
    | none => (48, ⟨row, at_, 7, c⟩)
    | some b => ((b.toNat : Int), ⟨row, at_ + 1, code, c⟩) := rfl
theorem rbitS_bad (r : Reader) (h : r.Code ≠ 0) : rbitS r = (48, r) := by unfold rbitS; rw [if_pos h]
theorem rloop_bad (n : Nat) (out : List UInt8) (r : Reader) (h : r.Code ≠ 0) : rloop n out r = ([], r) := by
  cases n with
  | zero => rw [rloop, if_pos h]
  | succ n => rw [rloop, rbitS_bad r h, if_pos h]
/-- What is taken, by the plain function. -/
theorem rloop_take : ∀ (n : Nat) (r : Reader) (out : List UInt8), Rok r → r.Code = 0 →
    match takeF r.c (r.Row.drop r.At.toNat) n with
    | .ok q => rloop n out r = (out ++ q.1, ⟨r.Row, (r.Row.length : Int) - (q.2.1.length : Int), 0, q.2.2⟩) ∧ q.2.1.length ≤ r.Row.length ∧ q.2.1 = r.Row.drop (r.Row.length - q.2.1.length) ∧ r.At.toNat + n + q.2.1.length ≤ r.Row.length ∧ 0 ≤ q.2.2.n ∧ q.2.2.n ≤ 4 ∧ q.1.length = n
    | .error e => ∃ q, rloop n out r = ([], q) ∧ q.Code = e ∧ e ≠ 0 ∧ q.Row = r.Row ∧ Rok q := by
  intro n
  induction n with
  | zero =>
    intro r out hR hc
    obtain ⟨a0, a1, a2, a3, a4, a5⟩ := hR
    rw [takeF, rloop, if_neg (by simpa using hc)]
    dsimp only
    have e : (r.Row.length : Int) - ((r.Row.drop r.At.toNat).length : Int) = r.At := by rw [List.length_drop]; omega
    rw [e, List.append_nil]
    refine ⟨by rw [← hc], by rw [List.length_drop]; omega, ?_, by rw [List.length_drop]; omega, a4, a5, rfl⟩
    rw [List.length_drop]
    congr 1
    omega
  | succ n ih =>
    intro r out hR hc
    obtain ⟨a0, a1, a2, a3, a4, a5⟩ := hR
    obtain ⟨b, hb, e1, e2, e3, e4, e5, e6, e7⟩ := rbitS_spec r ⟨a0, a1, a3⟩
    rw [rloop]
    by_cases hcode : (rbitS r).2.Code = 0
    · obtain ⟨c1, c2, c3⟩ := e7 hcode
      have hd := drop_this r.Row r.At.toNat b c3
      have hlt := (List.getElem?_eq_some_iff.1 c3).1
      rw [if_neg (by simpa using hcode), e1, cnextRS_bit _ b hb, e3, e2, hd, takeF_cons, bstr_one]
      dsimp only
      have hat : (rbitS r).2.At.toNat = r.At.toNat + 1 := by omega
      by_cases h5 : (nx r.c b).n = 5
      · rw [if_pos h5, if_pos (by simpa using h5)]
        obtain ⟨t, ht⟩ : ∃ t, t = rbitS ⟨r.Row, (rbitS r).2.At, (rbitS r).2.Code, nx r.c b⟩ := ⟨_, rfl⟩
        rw [← ht]
        have ht2 : t = match r.Row[r.At.toNat + 1]? with | none => (48, ⟨r.Row, (rbitS r).2.At, 7, nx r.c b⟩) | some b2 => ((b2.toNat : Int), ⟨r.Row, (rbitS r).2.At + 1, 0, nx r.c b⟩) := by
          rw [ht, rbitS_mk, hcode, hat, if_neg (by simp)]
        cases hr : r.Row[r.At.toNat + 1]? with
        | none =>
          rw [hr] at ht2
          dsimp only at ht2
          have hnil : r.Row.drop (r.At.toNat + 1) = [] := List.drop_eq_nil_of_le (by rw [List.getElem?_eq_none_iff] at hr; exact hr)
          rw [hnil]
          dsimp only
          rw [ht2]
          dsimp only
          rw [if_neg (by simp), cnextRS_bit _ _ (isBit_flip b)]
          dsimp only
          rw [nx_flip]
          have hRq : Rok ⟨r.Row, (rbitS r).2.At, 7, ⟨((flip b).toNat : Int), 1⟩⟩ := ⟨e4, e5, a2, a3, by show (0 : Int) ≤ 1; decide, by show (1 : Int) ≤ 4; decide⟩
          refine ⟨⟨r.Row, (rbitS r).2.At, 7, ⟨((flip b).toNat : Int), 1⟩⟩, ?_, rfl, by decide, rfl, hRq⟩
          exact rloop_bad _ _ _ (by simp)
        | some b2 =>
          rw [hr] at ht2
          dsimp only at ht2
          have hd2 := drop_this r.Row (r.At.toNat + 1) b2 hr
          have hlt2 := (List.getElem?_eq_some_iff.1 hr).1
          rw [hd2]
          dsimp only
          rw [ht2]
          dsimp only
          by_cases hy : b2 = flip b
          · rw [if_pos hy, if_neg (by subst hy; simp), cnextRS_bit _ _ (isBit_flip b)]
            dsimp only
            rw [nx_flip]
            have hRq : Rok ⟨r.Row, (rbitS r).2.At + 1, 0, ⟨((flip b).toNat : Int), 1⟩⟩ := ⟨by (try dsimp only); omega, by (try dsimp only); omega, a2, a3, by show (0 : Int) ≤ 1; decide, by show (1 : Int) ≤ 4; decide⟩
            have := ih ⟨r.Row, (rbitS r).2.At + 1, 0, ⟨((flip b).toNat : Int), 1⟩⟩ (out ++ [b]) hRq rfl
            dsimp only at this
            have hat2 : ((rbitS r).2.At + 1).toNat = r.At.toNat + 1 + 1 := by omega
            rw [hat2] at this
            cases hT : takeF ⟨((flip b).toNat : Int), 1⟩ (r.Row.drop (r.At.toNat + 1 + 1)) n with
            | ok q =>
              rw [hT] at this
              dsimp only at this
              show _ ∧ _
              dsimp only [Except.map]
              obtain ⟨g1, g2, g3, g4, g5, g6, g7⟩ := this
              refine ⟨by rw [g1]; simp, g2, g3, by omega, g5, g6, by simp [g7]⟩
            | error e =>
              rw [hT] at this
              exact this
          · have hy2 : ¬ (b2.toNat : Int) = ((flip b).toNat : Int) := fun h => hy (UInt8.toNat_inj.1 (by omega))
            rw [if_neg hy, if_pos ⟨rfl, hy2⟩, cnextRS_bit _ _ (isBit_flip b)]
            dsimp only
            rw [nx_flip]
            have hRq : Rok ⟨r.Row, (rbitS r).2.At + 1, 5, ⟨((flip b).toNat : Int), 1⟩⟩ := ⟨by (try dsimp only); omega, by (try dsimp only); omega, a2, a3, by show (0 : Int) ≤ 1; decide, by show (1 : Int) ≤ 4; decide⟩
            refine ⟨⟨r.Row, (rbitS r).2.At + 1, 5, ⟨((flip b).toNat : Int), 1⟩⟩, ?_, rfl, by decide, rfl, hRq⟩
            exact rloop_bad _ _ _ (by simp)
      · rw [if_neg h5, if_neg (by simpa using h5), hcode]
        have hnb := nx_bound r.c b 4 ⟨a4, a5⟩
        have hRq : Rok ⟨r.Row, (rbitS r).2.At, 0, nx r.c b⟩ := ⟨e4, e5, a2, a3, by (try dsimp only); omega, by (try dsimp only); omega⟩
        have := ih ⟨r.Row, (rbitS r).2.At, 0, nx r.c b⟩ (out ++ [b]) hRq rfl
        dsimp only at this
        rw [hat] at this
        cases hT : takeF (nx r.c b) (r.Row.drop (r.At.toNat + 1)) n with
        | ok q =>
          rw [hT] at this
          dsimp only at this
          show _ ∧ _
          dsimp only [Except.map]
          obtain ⟨g1, g2, g3, g4, g5, g6, g7⟩ := this
          refine ⟨by rw [g1]; simp, g2, g3, by omega, g5, g6, by simp [g7]⟩
        | error e =>
          rw [hT] at this
          exact this
    · rw [if_pos (by simpa using hcode)]
      have hn : r.Row[r.At.toNat]? = none ∧ (rbitS r).2 = ⟨r.Row, r.At, 7, r.c⟩ := by
        unfold rbitS at hcode ⊢
        rw [if_neg (by simpa using hc)] at hcode ⊢
        cases hr : r.Row[r.At.toNat]? with
        | none => exact ⟨rfl, rfl⟩
        | some b2 => rw [hr] at hcode; exact absurd hc hcode
      have hnil : r.Row.drop r.At.toNat = [] := List.drop_eq_nil_of_le (by have := hn.1; rw [List.getElem?_eq_none_iff] at this; exact this)
      rw [hnil, hn.2]
      exact ⟨_, rfl, rfl, by decide, rfl, a0, a1, a2, a3, a4, a5⟩
def ct (x : List UInt8) : Counter := x.foldl nx ⟨0, 0⟩
theorem ct_snoc (x : List UInt8) (b : UInt8) : ct (x ++ [b]) = nx (ct x) b := by unfold ct; rw [List.foldl_append]; rfl
/-- The counter tells how the row ends. -/
theorem ct_trail (x : List UInt8) (hx : isRow x = true) (hne : x ≠ []) : ∃ (pre : List UInt8) (q : UInt8) (m : Nat), ct x = ⟨(q.toNat : Int), (m : Int)⟩ ∧ 1 ≤ m ∧ x = pre ++ List.replicate m q ∧ ∀ p, pre.getLast? = some p → p ≠ q := by
  have key : ∀ y : List UInt8, isRow y.reverse = true → y ≠ [] → ∃ (pre : List UInt8) (q : UInt8) (m : Nat), ct y.reverse = ⟨(q.toNat : Int), (m : Int)⟩ ∧ 1 ≤ m ∧ y.reverse = pre ++ List.replicate m q ∧ ∀ p, pre.getLast? = some p → p ≠ q := by
    intro y
    induction y with
    | nil => exact fun _ h => absurd rfl h
    | cons b y ih =>
      intro hr _
      rw [List.reverse_cons] at hr ⊢
      rw [isRow_append, Bool.and_eq_true] at hr
      have hb : isBit b = true := by have := hr.2; simpa [isRow] using this
      rw [ct_snoc]
      by_cases hy : y = []
      · subst hy
        refine ⟨[], b, 1, ?_, by omega, rfl, by simp⟩
        show nx ⟨0, 0⟩ b = _
        rcases isBit_or hb with rfl | rfl <;> rfl
      · obtain ⟨pre, q, m, h1, h2, h3, h4⟩ := ih hr.1 hy
        rw [h1]
        by_cases hq : b = q
        · subst hq
          refine ⟨pre, b, m + 1, ?_, by omega, ?_, h4⟩
          · unfold nx
            rw [if_pos rfl]
            rfl
          · rw [h3, List.append_assoc]
            congr 1
            exact List.replicate_succ'.symm
        · refine ⟨y.reverse, b, 1, ?_, by omega, rfl, fun p hp => ?_⟩
          · unfold nx
            rw [if_neg (fun h => hq (UInt8.toNat_inj.1 (by have h' : (b.toNat : Int) = (q.toNat : Int) := h; omega)))]
            rfl
          · rw [h3] at hp
            have : (pre ++ List.replicate m q).getLast? = some q := by
              rw [List.getLast?_append, List.getLast?_replicate, if_neg (by omega)]
              rfl
            rw [this] at hp
            have := Option.some.inj hp
            subst this
            exact fun h => hq h.symm
  have := key x.reverse (by rw [List.reverse_reverse]; exact hx) (by simpa using hne)
  rw [List.reverse_reverse] at this
  exact this
theorem last_five (x : List UInt8) (hx : isRow x = true) (h5 : 5 ≤ x.length) : ∃ q, x[x.length - 1]? = some q ∧ (ct x).last = (q.toNat : Int) ∧ ((x.drop (x.length - 5)).count q = 5 ↔ 5 ≤ (ct x).n) ∧ (rsameS (x.drop (x.length - 5)) = true ↔ 5 ≤ (ct x).n) := by
  obtain ⟨pre, q, m, h1, h2, h3, h4⟩ := ct_trail x hx (by rintro rfl; simp at h5)
  have hlen : x.length = pre.length + m := by rw [h3]; simp
  refine ⟨q, ?_, by rw [h1], ?_⟩
  · have e : x.length - 1 = pre.length + (m - 1) := by omega
    rw [e, h3, List.getElem?_append_right (by omega)]
    rw [List.getElem?_replicate]
    simp
    omega
  have hl5 : (x.drop (x.length - 5)).length = 5 := by rw [List.length_drop]; omega
  have hall : (∀ y ∈ x.drop (x.length - 5), y = q) ↔ 5 ≤ (ct x).n := by
    rw [h1]
    constructor
    · intro h
      show (5 : Int) ≤ (m : Int)
      rcases Nat.lt_or_ge m 5 with hm | hm
      · exfalso
        have hp : pre ≠ [] := by rintro rfl; simp at hlen; omega
        have hgl := List.getLast?_eq_some_getLast hp
        have hmem : pre.getLast hp ∈ x.drop (x.length - 5) := by
          rw [h3, List.mem_iff_getElem?]
          have e : (pre ++ List.replicate m q).length - 5 ≤ pre.length - 1 := by simp; omega
          refine ⟨pre.length - 1 - ((pre ++ List.replicate m q).length - 5), ?_⟩
          rw [List.getElem?_drop]
          have e2 : (pre ++ List.replicate m q).length - 5 + (pre.length - 1 - ((pre ++ List.replicate m q).length - 5)) = pre.length - 1 := by omega
          have hp0 : 0 < pre.length := List.length_pos_iff.2 hp
          rw [e2, List.getElem?_append_left (by omega), ← List.getLast?_eq_getElem?]
          exact hgl
        exact h4 _ hgl (h _ hmem)
      · omega
    · intro h y hy
      have hm : 5 ≤ m := by have h : (5 : Int) ≤ (m : Int) := h; omega
      have : x.drop (x.length - 5) = List.replicate 5 q := by
        rw [h3, List.drop_append, List.drop_eq_nil_of_le (by simp; omega), List.nil_append, List.drop_replicate]
        congr 1
        simp
        omega
      rw [this] at hy
      exact List.eq_of_mem_replicate hy
  constructor
  · have e : (x.drop (x.length - 5)).count q = 5 ↔ (x.drop (x.length - 5)).count q = (x.drop (x.length - 5)).length := by rw [hl5]
    rw [← hall, e, List.count_eq_length]
    exact ⟨fun h y hy => (h y hy).symm, fun h y hy => (h y hy).symm⟩
  · rw [← hall]
    have hq : q ∈ x.drop (x.length - 5) := by
      rw [h3, List.mem_iff_getElem?]
      refine ⟨4, ?_⟩
      rw [List.getElem?_drop, List.getElem?_append_right (by simp; omega), List.getElem?_replicate]
      simp
      omega
    cases hd : x.drop (x.length - 5) with
    | nil => rw [hd] at hl5; cases hl5
    | cons c r =>
      rw [hd] at hq
      show r.all (· == c) = true ↔ _
      simp only [List.all_eq_true, beq_iff_eq]
      constructor
      · intro h
        have hqc : q = c := by
          rcases List.mem_cons.1 hq with e | e
          · exact e
          · exact h q e
        intro y hy
        rcases List.mem_cons.1 hy with e | e
        · rw [e, hqc]
        · rw [h y e, hqc]
      · intro h y hy
        rw [h y (by simp [hy]), h c (by simp)]
theorem ct_bound (x : List UInt8) : 0 ≤ (ct x).n ∧ (ct x).n ≤ x.length := by
  have key : ∀ (y : List UInt8) (c : Counter) (k : Int), 0 ≤ c.n ∧ c.n ≤ k → 0 ≤ (y.foldl nx c).n ∧ (y.foldl nx c).n ≤ k + y.length := by
    intro y
    induction y with
    | nil => intro c k h; simpa using h
    | cons b y ih =>
      intro c k h
      have hb := nx_bound c b k h
      have := ih (nx c b) (k + 1) ⟨by omega, hb.2⟩
      rw [List.foldl_cons, List.length_cons]
      omega
  have := key x ⟨0, 0⟩ 0 ⟨by decide, by decide⟩
  unfold ct
  omega
def putbitsS (b : List UInt8) : List UInt8 := putF ⟨0, 0⟩ b
theorem slice_one {α : Type} (b : List α) (k : Nat) (q : α) (hq : b[k]? = some q) : (b.take (k + 1)).drop k = [q] := by
  have hk := (List.getElem?_eq_some_iff.1 hq).1
  rw [take_next b k q hq, List.drop_append, List.drop_eq_nil_of_le (by rw [List.length_take]; omega), List.nil_append]
  have : k - (b.take k).length = 0 := by rw [List.length_take]; omega
  rw [this]
  rfl
theorem putbits_ok (b : List UInt8) (h : isRow b = true ∧ b.length ≤ 1000) : putbits_vc b (fun r => r = putbitsS b) := by
  refine ⟨fun x i => ∃ k : Nat, i = k ∧ k ≤ b.length ∧ x.length ≤ 2 * k ∧ isRow x = true ∧ (ct x).n ≤ 4 ∧ x ++ putF (ct x) (b.drop k) = putbitsS b, fun _ i => b.length - i.toNat, ⟨0, rfl, by omega, by simp, rfl, by decide, rfl⟩, ?_⟩
  rintro x _ ⟨k, rfl, hk, hx, hxr, hn, hp⟩
  have hl : b.length ≤ 1000 := h.2
  refine ⟨fun h1 => ?_, fun h1 => ?_⟩
  · have hkl : k < b.length := by simp at h1; omega
    have hq : b[k]? = some b[k] := List.getElem?_eq_getElem hkl
    generalize b[k] = q at hq
    have hqb : isBit q = true := List.all_eq_true.1 h.1 q (List.mem_of_getElem? hq)
    have ew : w64 ((k : Int) + 1) = ((k + 1 : Nat) : Int) := w64_succ k (by omega)
    rw [ew, Int.toNat_natCast, Int.toNat_natCast, slice_one b k q hq]
    have hy : isRow (x ++ [q]) = true := by rw [isRow_append, hxr]; simpa [isRow] using hqb
    have hyl : (x ++ [q]).length = x.length + 1 := by simp
    have hc := ct_snoc x q
    rw [drop_this b k q hq, putF, ← hc] at hp
    obtain ⟨y, hye⟩ : ∃ y, y = x ++ [q] := ⟨_, rfl⟩
    rw [← hye] at hy hyl hc hp ⊢
    have hcb := ct_bound y
    have hnb := nx_bound (ct x) q 4 ⟨(ct_bound x).1, hn⟩
    rw [← hc] at hnb
    have ylast : y[y.length - 1]? = some q := by rw [hye]; simp
    refine ⟨by omega, by simp only [List.length_cons, List.length_nil]; omega, fun h2 => ?_, fun h2 => ?_⟩
    · have h5 : 5 ≤ y.length := by simp at h2; omega
      obtain ⟨q2, f1, f2, f3, f4⟩ := last_five y hy h5
      obtain rfl : q2 = q := Option.some.inj (f1.symm.trans ylast)
      have e5 : w64 ((y.length : Int) - 5) = ((y.length - 5 : Nat) : Int) := by rw [w64_eq _ (by omega)]; omega
      have e1 : w64 ((y.length : Int) - 1) = ((y.length - 1 : Nat) : Int) := by rw [w64_eq _ (by omega)]; omega
      rw [e5, e1, Int.toNat_natCast, Int.toNat_natCast]
      have hd1 : y.drop (y.length - 1) = [q2] := by rw [drop_this y (y.length - 1) q2 ylast, List.drop_eq_nil_of_le (by omega)]
      rw [hd1]
      have hcount : (count1S (y.drop (y.length - 5)) [q2] == 5) = decide (5 ≤ (ct y).n) := by
        rw [Bool.eq_iff_iff, decide_eq_true_eq, ← f3]
        show ((((y.drop (y.length - 5)).count q2 : Nat) : Int) == 5) = true ↔ _
        rw [beq_iff_eq]
        omega
      rw [hcount]
      refine ⟨by omega, by omega, rfl, fun h3 => ⟨by omega, fun q3 hq3 => ?_⟩, fun h3 => ?_⟩
      · obtain rfl : q3 = q2 := Option.some.inj (hq3.symm.trans ylast)
        have h3 := of_decide_eq_true h3
        have hn5 : (ct y).n = 5 := by omega
        rw [if_pos hn5] at hp
        rw [bstr_rother q3 hqb]
        have hc2 : ct (y ++ [flip q3]) = nx (ct y) (flip q3) := ct_snoc y (flip q3)
        refine ⟨by simp only [List.length_cons, List.length_nil]; omega, ⟨k + 1, rfl, by omega, by simp; omega, ?_, ?_, ?_⟩, by (try dsimp only); omega⟩
        · rw [isRow_append, hy]; simp [isRow, isBit_flip]
        · rw [hc2, hc, nx_flip]; show (1 : Int) ≤ 4; decide
        · rw [hc2, ← hp, hye]
          simp
      · have h3 := of_decide_eq_false h3
        have hn5 : ¬ (ct y).n = 5 := by omega
        rw [if_neg hn5] at hp
        refine ⟨⟨k + 1, rfl, by omega, by omega, hy, by omega, ?_⟩, by (try dsimp only); omega⟩
        rw [← hp, hye]
        simp
    · have h5 : y.length < 5 := by simp at h2; omega
      have hn5 : ¬ (ct y).n = 5 := by omega
      rw [if_neg hn5] at hp
      refine ⟨⟨k + 1, rfl, by omega, by omega, hy, by omega, ?_⟩, by (try dsimp only); omega⟩
      rw [← hp, hye]
      simp
  · have : k = b.length := by simp at h1; omega
    subst this
    rw [List.drop_length] at hp
    simpa [putF] using hp
def takebitsS (b : List UInt8) (n : Int) : List UInt8 × Int × Int := match takeF ⟨0, 0⟩ b n.toNat with
  | .error e => ([], 0, e)
  | .ok q => (q.1, (b.length : Int) - (q.2.1.length : Int), 0)
theorem takebits_ok (b : List UInt8) (n : Int) (h : isRow b = true ∧ b.length ≤ 1000 ∧ 0 ≤ n ∧ n ≤ 1000) : takebits_vc b n (fun r => r = takebitsS b n) := by
  obtain ⟨hr, hl, hn0, hn1⟩ := h
  refine ⟨fun x i => ∃ k : Nat, i = k ∧ k ≤ b.length ∧ x.length ≤ n.toNat ∧ (ct (b.take k)).n ≤ 4 ∧ takeF ⟨0, 0⟩ b n.toNat = (takeF (ct (b.take k)) (b.drop k) (n.toNat - x.length)).map (fun q => (x ++ q.1, q.2)), fun x i => b.length - i.toNat, ⟨0, rfl, by omega, by simp, by rw [List.take_zero]; decide, ?_⟩, ?_⟩
  · show _ = (takeF ⟨0, 0⟩ b n.toNat).map _
    cases takeF ⟨0, 0⟩ b n.toNat <;> rfl
  rintro x _ ⟨k, rfl, hk, hx, hn4, hT⟩
  refine ⟨fun h1 => ?_, fun h1 => ?_⟩
  · have hxn : x.length < n.toNat := by simp at h1; omega
    obtain ⟨m, hm⟩ : ∃ m, n.toNat - x.length = m + 1 := ⟨n.toNat - x.length - 1, by omega⟩
    rw [hm] at hT
    have ht : takebitsS b n = match takeF ⟨0, 0⟩ b n.toNat with | .error e => ([], 0, e) | .ok q => (q.1, (b.length : Int) - (q.2.1.length : Int), 0) := rfl
    refine ⟨fun h2 => ?_, fun h2 => ?_⟩
    · have : k = b.length := by simp at h2; omega
      subst this
      rw [List.drop_length, takeF] at hT
      rw [ht, hT]
      rfl
    · have hkl : k < b.length := by have : ¬ (k : Int) = (b.length : Int) := by simpa using h2
                                    omega
      have hq : b[k]? = some b[k] := List.getElem?_eq_getElem hkl
      generalize b[k] = q at hq
      have hqb : isBit q = true := List.all_eq_true.1 hr q (List.mem_of_getElem? hq)
      have ew : w64 ((k : Int) + 1) = ((k + 1 : Nat) : Int) := w64_succ k (by omega)
      rw [ew, Int.toNat_natCast, Int.toNat_natCast, slice_one b k q hq]
      have hc : ct (b.take (k + 1)) = nx (ct (b.take k)) q := by rw [take_next b k q hq, ct_snoc]
      rw [drop_this b k q hq, takeF_cons, ← hc] at hT
      have hnb := nx_bound (ct (b.take k)) q 4 ⟨(ct_bound _).1, hn4⟩
      rw [← hc] at hnb
      have hcb := ct_bound (b.take (k + 1))
      have htl : (b.take (k + 1)).length = k + 1 := by rw [List.length_take]; omega
      rw [htl] at hcb
      have next : ¬ (ct (b.take (k + 1))).n = 5 → (∃ k2 : Nat, ((k + 1 : Nat) : Int) = k2 ∧ k2 ≤ b.length ∧ (x ++ [q]).length ≤ n.toNat ∧ (ct (b.take k2)).n ≤ 4 ∧ takeF ⟨0, 0⟩ b n.toNat = (takeF (ct (b.take k2)) (b.drop k2) (n.toNat - (x ++ [q]).length)).map (fun z => ((x ++ [q]) ++ z.1, z.2))) := by
        intro h5
        rw [if_neg h5] at hT
        refine ⟨k + 1, rfl, by omega, by simp; omega, by omega, ?_⟩
        have hm2 : n.toNat - (x ++ [q]).length = m := by simp; omega
        rw [hT, hm2]
        cases takeF (ct (b.take (k + 1))) (b.drop (k + 1)) m with
        | error e => rfl
        | ok z => simp [Except.map]
      refine ⟨by omega, by simp only [List.length_cons, List.length_nil]; omega, fun h3 => ?_, fun h3 => ?_⟩
      · have hk5 : 5 ≤ k + 1 := by simp at h3; omega
        have e5 : w64 (((k + 1 : Nat) : Int) - 5) = ((k + 1 - 5 : Nat) : Int) := by rw [w64_eq _ (by omega)]; omega
        have e1 : w64 (((k + 1 : Nat) : Int) - 1) = (k : Int) := by rw [w64_eq _ (by omega)]; omega
        obtain ⟨q2, f1, f2, f3, f4⟩ := last_five (b.take (k + 1)) (isRow_take hr _) (by rw [htl]; exact hk5)
        rw [htl] at f3 f4
        rw [e5, e1, Int.toNat_natCast]
        refine ⟨by omega, by rw [List.length_drop, htl]; omega, fun h4 => ?_, fun h4 => ?_⟩
        · have hn5 : (ct (b.take (k + 1))).n = 5 := by have := f4.1 h4; omega
          rw [if_pos hn5] at hT
          refine ⟨fun h6 => ?_, fun h6 => ⟨?_, fun y hy => ⟨by omega, fun y2 hy2 => ⟨fun h7 => ?_, fun h7 => ?_⟩⟩⟩⟩
          · have : k + 1 = b.length := by have : ((k + 1 : Nat) : Int) = (b.length : Int) := by simpa only [beq_iff_eq] using h6
                                          omega
            rw [List.drop_eq_nil_of_le (by omega)] at hT
            rw [ht, hT]
            rfl
          · have : ¬ ((k + 1 : Nat) : Int) = (b.length : Int) := by simpa only [beq_eq_false_iff_ne, ne_eq] using h6
            omega
          all_goals
            rw [Int.toNat_natCast] at hy2
            obtain rfl : y2 = q := Option.some.inj (hy2.symm.trans hq)
            have hyb : isBit y = true := List.all_eq_true.1 hr y (List.mem_of_getElem? hy)
            rw [drop_this b (k + 1) y hy] at hT
            dsimp only at hT
          · have hyq : y = y2 := UInt8.toNat_inj.1 (by have h8 : (y.toNat : Int) = (y2.toNat : Int) := by simpa only [beq_iff_eq] using h7
                                                       omega)
            rw [if_neg (by rw [hyq]; intro h; have := flip_ne y2; rw [← h] at this; exact this rfl)] at hT
            rw [ht, hT]
            rfl
          · have hyq : y = flip y2 := by
              have h8 : ¬ (y.toNat : Int) = (y2.toNat : Int) := by simpa only [beq_eq_false_iff_ne, ne_eq] using h7
              rcases isBit_or hyb with rfl | rfl <;> rcases isBit_or hqb with rfl | rfl <;> first | rfl | exact absurd rfl h8
            rw [if_pos hyq] at hT
            have ew2 : w64 (((k + 1 : Nat) : Int) + 1) = ((k + 1 + 1 : Nat) : Int) := w64_succ (k + 1) (by omega)
            have hy' : b[k + 1]? = some y := hy
            have hkl2 := (List.getElem?_eq_some_iff.1 hy').1
            have hc2 : ct (b.take (k + 1 + 1)) = nx (ct (b.take (k + 1))) y := by rw [take_next b (k + 1) y hy', ct_snoc]
            rw [ew2]
            clear next
            refine ⟨⟨k + 1 + 1, rfl, by omega, by simp; omega, ?_, ?_⟩, by (try dsimp only); omega⟩
            · rw [hc2, hc, hyq, nx_flip]; show (1 : Int) ≤ 4; decide
            · have hm2 : n.toNat - (x ++ [y2]).length = m := by simp; omega
              rw [hT, hm2, hc2, hyq]
              cases takeF (nx (ct (b.take (k + 1))) (flip y2)) (b.drop (k + 1 + 1)) m with
              | error e => rfl
              | ok z => simp [Except.map]
        · have hn5 : ¬ (ct (b.take (k + 1))).n = 5 := by
            intro h5
            have := f4.2 (by omega)
            rw [this] at h4
            cases h4
          exact ⟨next hn5, by (try dsimp only); omega⟩
      · have hk5 : k + 1 < 5 := by simp at h3; omega
        exact ⟨next (by omega), by (try dsimp only); omega⟩
  · have hxn : n.toNat - x.length = 0 := by simp at h1; omega
    rw [hxn, takeF] at hT
    have ht : takebitsS b n = match takeF ⟨0, 0⟩ b n.toNat with | .error e => ([], 0, e) | .ok q => (q.1, (b.length : Int) - (q.2.1.length : Int), 0) := rfl
    rw [ht, hT]
    show (x, (k : Int), (0 : Int)) = (x ++ [], _, 0)
    rw [List.append_nil, List.length_drop]
    congr 2
    omega

end Go.Proofs.YtfafpnacflcgmaaDoor
