/- Pure proofs: no program in sight. -/
import Derived.Test.YtfafpnacflcgmaaDoorVE
set_option linter.unusedVariables false
set_option linter.unusedSimpArgs false
namespace Go.Proofs.YtfafpnacflcgmaaDoor
open Go.Sy Go.RowKit
theorem bnumberS_ok {b : List UInt8} (h : (bnumberS b).2 = 0) : bcheckS b = 0 ∧ isRow b = true ∧ b.length ≤ 62 ∧ bnumberS b = ((val b : Int), 0) := by
  unfold bnumberS at h ⊢
  by_cases h1 : bcheckS b ≠ 0
  · rw [if_pos h1] at h
    exact absurd h h1
  · rw [if_neg h1] at h ⊢
    by_cases h2 : 62 < b.length
    · rw [if_pos h2] at h
      cases h
    · rw [if_neg h2]
      have h3 : bcheckS b = 0 := by simpa using h1
      exact ⟨h3, ((bcheck_zero b).1 h3).2, by omega, rfl⟩
theorem LJoin_ok (a b : List UInt8) (ha : a.length ≤ lim) (hb : b.length ≤ lim) : LJoin_vc a b (fun r => r = true) := by
  unfold lim at ha hb
  refine ⟨fun _ => rfl, fun h => ?_⟩
  have h : ((bnumberS a).2 = 0 ∧ (bnumberS b).2 = 0) ∧ ¬ (w64 ((a.length : Int) + (b.length : Int))) > 62 := by
    simp only [Bool.or_eq_false_iff, bne_eq_false_iff_eq, decide_eq_false_iff_not] at h
    exact h
  obtain ⟨⟨h1, h2⟩, h3⟩ := h
  obtain ⟨a1, a2, a3, a4⟩ := bnumberS_ok h1
  obtain ⟨b1, b2, b3, b4⟩ := bnumberS_ok h2
  rw [w64_eq _ (by omega)] at h3
  have hr : isRow (a ++ b) = true := by rw [isRow_append, a2, b2]; rfl
  have hl : (a ++ b).length ≤ 62 := by rw [List.length_append]; omega
  have hc : bcheckS (a ++ b) = 0 := (bcheck_zero _).2 ⟨by omega, hr⟩
  have hS : bnumberS (a ++ b) = ((val (a ++ b) : Int), 0) := by
    unfold bnumberS
    rw [if_neg (by simpa using hc), if_neg (by omega)]
  refine ⟨by omega, fun _ => ⟨by omega, ?_⟩, fun h4 => ?_⟩
  · rw [hS, a4, b4, val_append]
    have hv := val_lt hr
    rw [val_append] at hv
    have hp : 2 ^ (a ++ b).length ≤ 2 ^ 62 := Nat.pow_le_pow_right (by omega) hl
    have p62 : (2 : Nat) ^ 62 = 4611686018427387904 := rfl
    have e : bShl .i64 ((val a : Nat) : Int) (b.length : Int) = ((val a * 2 ^ b.length : Nat) : Int) := by
      unfold bShl
      have e1 : min (b.length : Int).toNat IntKind.i64.bits = b.length := by simp [IntKind.bits]; omega
      have e2 : ((val a : Nat) : Int) * 2 ^ b.length = ((val a * 2 ^ b.length : Nat) : Int) := by norm_cast
      rw [e1, e2]
      exact w64_eq _ (by omega)
    dsimp only
    rw [e, w64_eq _ (by omega)]
    simp
  · rw [hS] at h4
    cases h4
theorem takeF_mono (m : Nat) : ∀ (n : Nat) (c : Counter) (b : List UInt8) (p : List UInt8 × List UInt8 × Counter), n ≤ m → takeF c b m = .ok p → p.2.1.length ≤ b.length ∧ ∃ q, takeF c b n = .ok q ∧ q.1 <+: p.1 ∧ p.2.1.length ≤ q.2.1.length ∧ q.1.length = n := by
  induction m with
  | zero =>
    intro n c b p hn hp
    rw [takeF] at hp
    cases hp
    have : n = 0 := by omega
    subst this
    exact ⟨Nat.le_refl _, ([], b, c), by rw [takeF], List.prefix_refl _, Nat.le_refl _, rfl⟩
  | succ m ih =>
    intro n c b p hn hp
    cases b with
    | nil => rw [takeF] at hp; cases hp
    | cons x r =>
      rw [takeF_cons] at hp
      have fin : ∀ (c2 : Counter) (r2 : List UInt8), r2.length ≤ r.length → (takeF c2 r2 m).map (fun q => (x :: q.1, q.2)) = .ok p → (∀ k, takeF c (x :: r) (k + 1) = (takeF c2 r2 k).map (fun q => (x :: q.1, q.2))) →
          p.2.1.length ≤ (x :: r).length ∧ ∃ q, takeF c (x :: r) n = .ok q ∧ q.1 <+: p.1 ∧ p.2.1.length ≤ q.2.1.length ∧ q.1.length = n := by
        intro c2 r2 hr2 h hk
        cases hT : takeF c2 r2 m with
        | error e => rw [hT] at h; cases h
        | ok s =>
          rw [hT] at h
          have h : (x :: s.1, s.2) = p := Except.ok.inj h
          subst h
          have h0 := ih m c2 r2 s (Nat.le_refl _) hT
          have hl : s.2.1.length ≤ (x :: r).length := by rw [List.length_cons]; have := h0.1; omega
          refine ⟨hl, ?_⟩
          cases n with
          | zero => exact ⟨([], x :: r, c), by rw [takeF], List.nil_prefix, hl, rfl⟩
          | succ n =>
            obtain ⟨_, q, q1, q2, q3, q4⟩ := ih n c2 r2 s (by omega) hT
            refine ⟨(x :: q.1, q.2), by rw [hk, q1]; rfl, ?_, q3, by simp [q4]⟩
            exact List.cons_prefix_cons.2 ⟨rfl, q2⟩
      by_cases h5 : (nx c x).n = 5
      · rw [if_pos h5] at hp
        cases r with
        | nil => cases hp
        | cons y r' =>
          dsimp only at hp
          by_cases hy : y = flip x
          · rw [if_pos hy] at hp
            refine fin _ r' (by simp) hp fun k => ?_
            rw [takeF_cons, if_pos h5]
            dsimp only
            rw [if_pos hy]
          · rw [if_neg hy] at hp
            cases hp
      · rw [if_neg h5] at hp
        refine fin _ r (Nat.le_refl _) hp fun k => ?_
        rw [takeF_cons, if_neg h5]
theorem stakeS_ok {b : List UInt8} {n : Int} (h : (stakeS b n).2.2 = 0) : bcheckS b = 0 ∧ 0 ≤ n ∧ n ≤ 1000 ∧ ∃ q, takeF ⟨0, 0⟩ b n.toNat = .ok q ∧ stakeS b n = (q.1, (b.length : Int) - (q.2.1.length : Int), 0) := by
  unfold stakeS at h ⊢
  by_cases h1 : bcheckS b ≠ 0
  · rw [if_pos h1] at h; exact absurd h h1
  · rw [if_neg h1] at h ⊢
    by_cases h2 : n < 0 ∨ 1000 < n
    · rw [if_pos h2] at h; cases h
    · rw [if_neg h2] at h ⊢
      refine ⟨by simpa using h1, by omega, by omega, ?_⟩
      unfold takebitsS at h ⊢
      obtain ⟨hl, hr⟩ := (bcheck_zero b).1 (by simpa using h1)
      have key := rloop_take n.toNat ⟨b, 0, 0, ⟨0, 0⟩⟩ [] (Rok_start b (by omega) hr) rfl
      dsimp only at key
      rw [show (0 : Int).toNat = 0 from rfl, List.drop_zero] at key
      cases hT : takeF ⟨0, 0⟩ b n.toNat with
      | error e =>
        rw [hT] at h key
        obtain ⟨_, _, _, k3, _⟩ := key
        exact absurd h k3
      | ok q => exact ⟨q, rfl, rfl⟩
theorem stakeS_of {b : List UInt8} {n : Int} (h1 : bcheckS b = 0) (h2 : 0 ≤ n) (h3 : n ≤ 1000) {q : List UInt8 × List UInt8 × Counter} (hq : takeF ⟨0, 0⟩ b n.toNat = .ok q) : stakeS b n = (q.1, (b.length : Int) - (q.2.1.length : Int), 0) := by
  unfold stakeS takebitsS
  rw [if_neg (by simpa using h1), if_neg (by omega), hq]
theorem hasprefix_of {t s : List UInt8} (h : s <+: t) : hasprefix t s = true := by
  have hl := h.length_le
  have e : decide ((t.length : Int) ≥ (s.length : Int)) = true := by simp; omega
  unfold hasprefix hasprefix0
  rw [e]
  show (t.take (s.length : Int).toNat == s) = true
  rw [Int.toNat_natCast, List.prefix_iff_eq_take.1 h]
  simp
theorem LParts_ok (b : List UInt8) (n m : Int) (hb : b.length ≤ lim) (hn : IntKind.i64.min ≤ n ∧ n ≤ IntKind.i64.max) (hm : IntKind.i64.min ≤ m ∧ m ≤ IntKind.i64.max) : LParts_vc b n m (fun r => r = true) := by
  have hn : n ≤ 9223372036854775807 := hn.2
  have hm : m ≤ 9223372036854775807 := hm.2
  refine ⟨hn, hm, fun h => ?_, fun h => ?_⟩
  · by_cases h1 : n ≤ m ∧ 0 ≤ n ∧ (stakeS b m).2.2 = 0
    · obtain ⟨h1, h2, h3⟩ := h1
      obtain ⟨c1, c2, c3, p, hp, he⟩ := stakeS_ok h3
      obtain ⟨_, q, q1, _⟩ := takeF_mono m.toNat n.toNat _ b p (by omega) hp
      rw [stakeS_of c1 h2 (by omega) q1]
      simp
    · simp
      by_cases g1 : m < n
      · simp [g1]
      · by_cases g2 : n < 0
        · simp [g2]
        · have : ¬ (stakeS b m).2.2 = 0 := fun h3 => h1 ⟨by omega, by omega, h3⟩
          simp [this]
  · have h : (¬ n > m ∧ (stakeS b n).2.2 = 0) ∧ (stakeS b m).2.2 = 0 := by
      simp only [Bool.or_eq_false_iff, bne_eq_false_iff_eq, decide_eq_false_iff_not] at h
      exact h
    obtain ⟨⟨h1, h2⟩, h3⟩ := h
    obtain ⟨c1, c2, c3, p, hp, he⟩ := stakeS_ok h3
    obtain ⟨d1, d2, d3, q, hq, hf⟩ := stakeS_ok h2
    obtain ⟨_, q', q1, q2, q3, q4⟩ := takeF_mono m.toNat n.toNat _ b p (by omega) hp
    obtain rfl : q' = q := Except.ok.inj (q1.symm.trans hq)
    rw [he, hf]
    dsimp only
    rw [hasprefix_of q2]
    simp
    omega
theorem take_put (b : List UInt8) : ∀ (c : Counter) (r : List UInt8), ∃ c', takeF c (putF c b ++ r) b.length = .ok (b, r, c') := by
  induction b with
  | nil => intro c r; exact ⟨c, by simp [putF, takeF]⟩
  | cons x b ih =>
    intro c r
    rw [putF]
    by_cases h5 : (nx c x).n = 5
    · obtain ⟨c', hc⟩ := ih (nx (nx c x) (flip x)) r
      rw [if_pos h5]
      refine ⟨c', ?_⟩
      rw [List.cons_append, List.cons_append, List.length_cons, takeF_cons, if_pos h5]
      dsimp only
      rw [if_pos rfl, hc]
      rfl
    · obtain ⟨c', hc⟩ := ih (nx c x) r
      rw [if_neg h5]
      refine ⟨c', ?_⟩
      rw [List.cons_append, List.length_cons, takeF_cons, if_neg h5, hc]
      rfl
theorem put_row (b : List UInt8) (h : isRow b = true) : ∀ c, isRow (putF c b) = true := by
  induction b with
  | nil => exact fun _ => rfl
  | cons x b ih =>
    intro c
    rw [isRow_cons, Bool.and_eq_true] at h
    rw [putF]
    split
    · rw [isRow_cons, isRow_cons, h.1, isBit_flip, ih h.2]; rfl
    · rw [isRow_cons, h.1, ih h.2]; rfl
theorem put_best (b : List UInt8) : ∀ c : Counter, 0 ≤ c.n ∧ c.n ≤ 4 → bestF c (putF c b) ≤ 5 := by
  induction b with
  | nil => intro c h; simp [putF, bestF]
  | cons x b ih =>
    intro c h
    have hb := nx_bound c x 4 h
    rw [putF]
    split
    · rename_i h5
      rw [bestF, bestF]
      have e := nx_flip c x
      have := ih (nx (nx c x) (flip x)) (by rw [e]; exact ⟨by show (0 : Int) ≤ 1; decide, by show (1 : Int) ≤ 4; decide⟩)
      have e1 : (nx (nx c x) (flip x)).n = 1 := by rw [e]
      omega
    · rename_i h5
      rw [bestF]
      have := ih (nx c x) (by omega)
      omega
theorem put_length (b : List UInt8) : ∀ c : Counter, 1 ≤ c.n ∧ c.n ≤ 4 → ((putF c b).length : Int) ≤ b.length + (c.n - 1 + b.length) / 4 ∧ b.length ≤ (putF c b).length := by
  induction b with
  | nil => intro c h; simp [putF]; omega
  | cons x b ih =>
    intro c h
    have hb := nx_bound c x 4 ⟨by omega, by omega⟩
    have hn := nx_n c x
    rw [putF]
    split
    · rename_i h5
      have e := nx_flip c x
      have := ih (nx (nx c x) (flip x)) (by rw [e]; exact ⟨by show (1 : Int) ≤ 1; decide, by show (1 : Int) ≤ 4; decide⟩)
      have e1 : (nx (nx c x) (flip x)).n = 1 := by rw [e]
      rw [e1] at this
      have hc4 : c.n = 4 := by
        rw [h5] at hn
        split at hn <;> omega
      simp only [List.length_cons]
      omega
    · rename_i h5
      have := ih (nx c x) (by omega)
      have hle : (nx c x).n ≤ c.n + 1 := by rw [hn]; split <;> omega
      simp only [List.length_cons]
      omega
theorem put_length0 (b : List UInt8) (h : isRow b = true) : ((putF ⟨0, 0⟩ b).length : Int) ≤ (smost b.length).1 ∨ 1000 < b.length := by
  rcases Nat.lt_or_ge 1000 b.length with h1 | h1
  · exact .inr h1
  · left
    cases b with
    | nil => decide
    | cons x b =>
      rw [isRow_cons, Bool.and_eq_true] at h
      rw [List.length_cons] at h1
      have e0 : nx ⟨0, 0⟩ x = ⟨(x.toNat : Int), 1⟩ := by rcases isBit_or h.1 with rfl | rfl <;> rfl
      have := put_length b (nx ⟨0, 0⟩ x) (by rw [e0]; exact ⟨by show (1 : Int) ≤ 1; decide, by show (1 : Int) ≤ 4; decide⟩)
      have e1 : (nx ⟨0, 0⟩ x).n = 1 := by rw [e0]
      rw [e1] at this
      rw [putF, if_neg (by rw [e1]; decide)]
      have hs : (smost ((x :: b).length : Nat)).1 = ((b.length + 1 : Nat) : Int) + (b.length : Int) / 4 := by
        unfold smost
        have g1 : ((decide ((((x :: b).length : Nat) : Int) < 0)) || (decide ((((x :: b).length : Nat) : Int) > 1000))) = false := by simp; omega
        have g2 : ((((x :: b).length : Nat) : Int) == 0) = false := by simp; omega
        rw [g1, g2]
        show w64 ((((x :: b).length : Nat) : Int) + w64 ((w64 ((((x :: b).length : Nat) : Int) - 1)).tdiv 4)) = _
        rw [List.length_cons]
        have e3 : w64 (((b.length + 1 : Nat) : Int) - 1) = (b.length : Int) := by rw [w64_eq _ (by omega)]; omega
        rw [e3, Int.tdiv_eq_ediv_of_nonneg (by omega), w64_eq ((b.length : Int) / 4) (by omega), w64_eq _ (by omega)]
      rw [hs, List.length_cons]
      omega
theorem sputS_ok {b : List UInt8} (h : (sputS b).2 = 0) : bcheckS b = 0 ∧ b.length ≤ 1000 ∧ isRow b = true ∧ sputS b = (putF ⟨0, 0⟩ b, 0) := by
  unfold sputS at h ⊢
  by_cases h1 : bcheckS b ≠ 0
  · rw [if_pos h1] at h; exact absurd h h1
  · rw [if_neg h1]
    have h2 : bcheckS b = 0 := by simpa using h1
    exact ⟨h2, ((bcheck_zero b).1 h2).1, ((bcheck_zero b).1 h2).2, rfl⟩
theorem put_len2 (b : List UInt8) : ∀ c, (putF c b).length ≤ 2 * b.length ∧ b.length ≤ (putF c b).length := by
  induction b with
  | nil => intro c; simp [putF]
  | cons x b ih =>
    intro c
    rw [putF]
    split
    · have := ih (nx (nx c x) (flip x)); simp only [List.length_cons]; omega
    · have := ih (nx c x); simp only [List.length_cons]; omega
theorem LBack_ok (b rest : List UInt8) (hb : b.length ≤ lim) (hrl : rest.length ≤ lim) : LBack_vc b rest (fun r => r = true) := by
  unfold lim at hb hrl
  refine ⟨fun _ => rfl, fun h => ?_⟩
  have h : ((sputS b).2 = 0 ∧ bcheckS rest = 0) ∧ ¬ w64 (((sputS b).1.length : Int) + (rest.length : Int)) > 1000 := by
    simp only [Bool.or_eq_false_iff, bne_eq_false_iff_eq, decide_eq_false_iff_not] at h
    exact h
  obtain ⟨⟨h1, h2⟩, h3⟩ := h
  obtain ⟨c1, c2, c3, c4⟩ := sputS_ok h1
  rw [c4] at h3 ⊢
  dsimp only at h3 ⊢
  have hl2 := put_len2 b ⟨0, 0⟩
  rw [w64_eq _ (by omega)] at h3
  have hpr := put_row b c3 ⟨0, 0⟩
  obtain ⟨c', hT⟩ := take_put b ⟨0, 0⟩ rest
  have hrr : isRow (putF ⟨0, 0⟩ b ++ rest) = true := by rw [isRow_append, hpr, ((bcheck_zero rest).1 h2).2]; rfl
  have hck : bcheckS (putF ⟨0, 0⟩ b ++ rest) = 0 := (bcheck_zero _).2 ⟨by rw [List.length_append]; omega, hrr⟩
  have hst := stakeS_of (b := putF ⟨0, 0⟩ b ++ rest) (n := (b.length : Int)) hck (by omega) (by omega) (by rw [Int.toNat_natCast]; exact hT)
  have hpc : bcheckS (putF ⟨0, 0⟩ b) = 0 := (bcheck_zero _).2 ⟨by omega, hpr⟩
  have hrun : brunS (putF ⟨0, 0⟩ b) = (bestF ⟨0, 0⟩ (putF ⟨0, 0⟩ b), 0) := by unfold brunS; rw [if_neg (by simpa using hpc)]
  have hbest := put_best b ⟨0, 0⟩ ⟨by decide, by decide⟩
  have hlen : ((putF ⟨0, 0⟩ b).length : Int) ≤ (smost b.length).1 := by
    rcases put_length0 b c3 with h | h
    · exact h
    · omega
  have hs2 : (smost (b.length : Int)).2 = 0 := by
    unfold smost
    have g1 : ((decide ((b.length : Int) < 0)) || (decide ((b.length : Int) > 1000))) = false := by simp; omega
    rw [g1]
    cases (b.length : Int) == 0 <;> rfl
  refine ⟨by omega, by omega, ?_⟩
  rw [hst, hrun, hs2]
  dsimp only
  have e1 : (((putF ⟨0, 0⟩ b ++ rest).length : Int) - (rest.length : Int) == ((putF ⟨0, 0⟩ b).length : Int)) = true := by rw [List.length_append]; simp
  have e2 : decide (((putF ⟨0, 0⟩ b).length : Int) ≤ (smost (b.length : Int)).1) = true := decide_eq_true hlen
  have e3 : decide (bestF ⟨0, 0⟩ (putF ⟨0, 0⟩ b) < 6) = true := decide_eq_true (by omega)
  rw [e1, e2, e3]
  simp
theorem LPut_ok (b : List UInt8) (hb : b.length ≤ lim) : LPut_vc b (fun r => r = true) := by
  refine ⟨fun h => ?_, fun h => ?_⟩
  · have h : bcheckS b ≠ 0 := by simpa using h
    unfold sputS
    rw [if_pos h]
    simp
  · have h0 : bcheckS b = 0 := by simpa using h
    have hS : sputS b = (putF ⟨0, 0⟩ b, 0) := by unfold sputS; rw [if_neg (by simpa using h)]
    rw [hS]
    refine ⟨fun _ => ⟨⟨((bcheck_zero b).1 h0).2, ((bcheck_zero b).1 h0).1⟩, ?_⟩, fun h => by cases h⟩
    unfold putbitsS
    simp
theorem LTake_ok (b : List UInt8) (n : Int) (hb : b.length ≤ lim) (hn : IntKind.i64.min ≤ n ∧ n ≤ IntKind.i64.max) : LTake_vc b n (fun r => r = true) := by
  have hn : n ≤ 9223372036854775807 := hn.2
  refine ⟨hn, fun h => ?_, fun h => ⟨fun h1 => ?_, fun h1 => ?_⟩⟩
  · have h : bcheckS b = 0 ∧ (n < 0 ∨ 1000 < n) := by simpa using h
    unfold stakeS
    rw [if_neg (by simpa using h.1), if_pos h.2]
    rfl
  · have h1 : bcheckS b ≠ 0 := by simpa using h1
    unfold stakeS
    rw [if_pos h1]
    simp
  · have h1 : bcheckS b = 0 := by simpa using h1
    have h2 : ¬ (n < 0 ∨ 1000 < n) := by
      intro h2
      have : ((bcheckS b == 0) && (decide (n < 0) || decide (n > 1000))) = true := by rw [h1]; simpa using h2
      rw [this] at h
      cases h
    refine ⟨⟨((bcheck_zero b).1 h1).2, ((bcheck_zero b).1 h1).1, by omega, by omega⟩, ?_⟩
    unfold stakeS
    rw [if_neg (by simpa using h1), if_neg h2]
    simp
theorem smost_eq (n : Int) (h : 0 ≤ n ∧ n ≤ 1000) : smost n = (w64 (n + w64 ((max (w64 (n - 1)) 0).tdiv 4)), 0) := by
  unfold smost
  have g1 : ((decide (n < 0)) || (decide (n > 1000))) = false := by simp; omega
  rw [g1]
  by_cases h0 : n = 0
  · subst h0; rfl
  · have g2 : (n == 0) = false := by simpa using h0
    rw [g2]
    show (w64 (n + w64 ((w64 (n - 1)).tdiv 4)), (0 : Int)) = _
    rw [w64_eq (n - 1) (by omega)]
    have : max (n - 1) 0 = n - 1 := by omega
    rw [this]
theorem LFixed_ok (b : List UInt8) (a n : Int) (hb : b.length ≤ lim) (ha : IntKind.u8.min ≤ a ∧ a ≤ IntKind.u8.max) (hn : IntKind.i64.min ≤ n ∧ n ≤ IntKind.i64.max) : LFixed_vc b a n (fun r => r = true) := by
  have tail : ((((((bcheckS b) == 0) && (a != 48)) && (a != 49)) = true →
            ((((sfixedS b a).2) == 3) && (((sfixedS b a).1) == [])) = true) ∧
          (((((bcheckS b) == 0) && (a != 48)) && (a != 49)) = false →
            ((((bcheckS b) != 0) = true →
              ((((sfixedS b a).2) == (bcheckS b)) && (((sfixedS b a).1) == [])) = true) ∧
            (((bcheckS b) != 0) = false →
              (((((sfixedS b a).2) == 0) = true →
                ((isRow b = true ∧ b.length ≤ 1000 ∧ (a = 48 ∨ a = 49)) ∧
                (((sfixedS b a).1) == (fixbitsS b a)) = true)) ∧
              ((((sfixedS b a).2) == 0) = false →
                false = true)))))) := by
    refine ⟨fun h => ?_, fun h => ⟨fun h1 => ?_, fun h1 => ?_⟩⟩
    · have h : (bcheckS b = 0 ∧ ¬ a = 48) ∧ ¬ a = 49 := by simpa using h
      unfold sfixedS
      rw [if_neg (by simpa using h.1.1), if_pos ⟨h.1.2, h.2⟩]
      rfl
    · have h1 : bcheckS b ≠ 0 := by simpa using h1
      unfold sfixedS
      rw [if_pos h1]
      simp
    · have h1 : bcheckS b = 0 := by simpa using h1
      have h2 : ¬ (a ≠ 48 ∧ a ≠ 49) := by
        intro h2
        have : (((bcheckS b == 0) && (a != 48)) && (a != 49)) = true := by rw [h1]; simpa using h2
        rw [this] at h
        cases h
      have hS : sfixedS b a = (fixF 0 (UInt8.ofNat a.toNat) b, 0) := by unfold sfixedS; rw [if_neg (by simpa using h1), if_neg h2]
      rw [hS]
      refine ⟨fun _ => ⟨⟨((bcheck_zero b).1 h1).2, ((bcheck_zero b).1 h1).1, by omega⟩, ?_⟩, fun h => by cases h⟩
      unfold fixbitsS
      simp
  refine ⟨fun h => ⟨fun h1 => ?_, fun _ => tail⟩, fun h => ⟨fun h1 => ?_, fun _ => tail⟩⟩
  · exfalso
    unfold smost at h1
    rw [h] at h1
    cases h1
  · exfalso
    have h : 0 ≤ n ∧ n ≤ 1000 := by simp at h; omega
    rw [smost_eq n h] at h1
    simp at h1

end Go.Proofs.YtfafpnacflcgmaaDoor
