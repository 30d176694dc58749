/- What must hold so that each function ends well: pure predicates, made by program. -/
import Derived.Test.YtfafpnacflcgmaaDoorPA
set_option linter.unusedVariables false
set_option linter.unusedSimpArgs false
namespace Go.Proofs.YtfafpnacflcgmaaDoor
open Go.Sy Go.RowKit
def bnumber_vc (u0 : List UInt8) (K : (Int × Int) → Prop) : Prop :=
  ((((bcheckS u0) != 0) = true →
      (K (0, (bcheckS u0)))) ∧
    (((bcheckS u0) != 0) = false →
      (((decide ((u0.length : Int) > 62)) = true →
        (K (0, 2))) ∧
      ((decide ((u0.length : Int) > 62)) = false →
        ((u0.length ≤ 62 ∧ isRow u0 = true) ∧
        (K (w64 (breadS u0), 0)))))))

def brow_vc (u0 : Int) (u1 : Int) (K : ((List UInt8) × Int) → Prop) : Prop :=
  ((((decide (u1 < 0)) || (decide (u1 > 62))) = true →
      (K ([], 2))) ∧
    (((decide (u1 < 0)) || (decide (u1 > 62))) = false →
      (((decide (u0 < 0)) = true →
        (K ([], 3))) ∧
      ((decide (u0 < 0)) = false →
        ((0 ≤ u1) ∧
        ((((bShr .i64 u0 u1) != 0) = true →
          (K ([], 3))) ∧
        (((bShr .i64 u0 u1) != 0) = false →
          ((0 ≤ u1 ∧ u1 ≤ 64 ∧ 0 ≤ (wu64 u0) ∧ (wu64 u0) < 2 ^ 62) ∧
          (K ((bwriteS (wu64 u0) u1), 0))))))))))

def bof_vc (u0 : List Int) (K : ((List UInt8) × Int) → Prop) : Prop :=
  (u0.length ≤ 140737488355328 →
    (((decide ((u0.length : Int) > 125)) = true →
      (K ([], 2))) ∧
    ((decide ((u0.length : Int) > 125)) = false →
      (∃ inv39 : Int → (List UInt8) → Prop, ∃ mu39 : Int → (List UInt8) → Nat, inv39 0 ([] : List UInt8) ∧
      (∀ (x12 : Int) (yb26 : List UInt8), inv39 x12 yb26 →
      (((decide (x12 < (u0.length : Int))) = true →
        ((0 ≤ x12 ∧ x12 < (u0.length : Int)) ∧
        (∀ q64, u0[x12.toNat]? = some q64 →
        ((0 ≤ (8 : Int) ∧ (8 : Int) ≤ 64 ∧ 0 ≤ (wu64 q64) ∧ (wu64 q64) < 2 ^ 62) ∧
        ((yb26.length + (bwriteS (wu64 q64) 8).length ≤ 140737488355328) ∧
        (inv39 (w64 (x12 + 1)) (yb26 ++ (bwriteS (wu64 q64) 8)) ∧ mu39 (w64 (x12 + 1)) (yb26 ++ (bwriteS (wu64 q64) 8)) < mu39 x12 yb26)))))) ∧
      ((decide (x12 < (u0.length : Int))) = false →
        (K (yb26, 0)))))))))

def bbytes_vc (u0 : List UInt8) (K : ((List Int) × Int) → Prop) : Prop :=
  ((((bcheckS u0) != 0) = true →
      (K (([] : List Int), (bcheckS u0)))) ∧
    (((bcheckS u0) != 0) = false →
      (((((u0.length : Int).tmod 8) != 0) = true →
        (K (([] : List Int), 4))) ∧
      ((((u0.length : Int).tmod 8) != 0) = false →
        (∃ inv53 : (List UInt8) → (List Int) → Prop, ∃ mu53 : (List UInt8) → (List Int) → Nat, inv53 u0 ([] : List Int) ∧
        (∀ (x0 : List UInt8) (x5 : List Int), inv53 x0 x5 →
        (((decide ((x0.length : Int) > 0)) = true →
          ((0 ≤ (8 : Int) ∧ (8 : Int) ≤ (x0.length : Int)) ∧
          (((x0.take (8 : Int).toNat).length ≤ 62 ∧ isRow (x0.take (8 : Int).toNat) = true) ∧
          (((x5.length + 1) * 1 ≤ 140737488355328) ∧
          ((0 ≤ (8 : Int) ∧ (8 : Int) ≤ (x0.length : Int)) ∧
          (inv53 (x0.drop (8 : Int).toNat) (x5 ++ [w8 (breadS (x0.take (8 : Int).toNat))]) ∧ mu53 (x0.drop (8 : Int).toNat) (x5 ++ [w8 (breadS (x0.take (8 : Int).toNat))]) < mu53 x0 x5)))))) ∧
        ((decide ((x0.length : Int) > 0)) = false →
          (K (x5, 0))))))))))

/-! Pure proofs: no program in sight. -/
def bnumberS (b : List UInt8) : Int × Int := if bcheckS b ≠ 0 then (0, bcheckS b) else if 62 < b.length then (0, 2) else ((val b : Int), 0)
theorem bnumber_ok (b : List UInt8) : bnumber_vc b (fun r => r = bnumberS b) := by
  refine ⟨fun h => ?_, fun h => ⟨fun h1 => ?_, fun h1 => ?_⟩⟩
  · have h : bcheckS b ≠ 0 := by simpa using h
    unfold bnumberS
    rw [if_pos h]
  all_goals
    have h : ¬ bcheckS b ≠ 0 := by simpa using h
  · unfold bnumberS
    rw [if_neg h, if_pos (by simp at h1; omega)]
  · have hr := ((bcheck_zero b).1 (by simpa using h)).2
    have hl : b.length ≤ 62 := by simp at h1; omega
    refine ⟨⟨hl, hr⟩, ?_⟩
    have hv := val_lt hr
    have hp : 2 ^ b.length ≤ 2 ^ 62 := Nat.pow_le_pow_right (by omega) hl
    have p62 : (2 : Nat) ^ 62 = 4611686018427387904 := rfl
    unfold bnumberS
    rw [if_neg h, if_neg (by omega)]
    unfold breadS
    rw [w64_eq _ (by omega)]
def browS (n s : Int) : List UInt8 × Int := if s < 0 ∨ 62 < s then ([], 2) else if n < 0 ∨ 2 ^ s.toNat ≤ n.toNat then ([], 3) else (wr s.toNat n.toNat, 0)
theorem brow_ok (n s : Int) (hn : n ≤ 9223372036854775807) : brow_vc n s (fun r => r = browS n s) := by
  refine ⟨fun h => ?_, fun h => ⟨fun h1 => ?_, fun h1 => ?_⟩⟩
  · unfold browS
    rw [if_pos (by simpa using h)]
  all_goals
    have h : ¬ (s < 0 ∨ 62 < s) := by simp at h; omega
  · unfold browS
    rw [if_neg h, if_pos (.inl (by simpa using h1))]
  · have h1 : 0 ≤ n := by simpa using h1
    obtain ⟨m, rfl⟩ : ∃ m : Nat, s = m := ⟨s.toNat, by omega⟩
    obtain ⟨v, rfl⟩ : ∃ v : Nat, n = v := ⟨n.toNat, by omega⟩
    have hp : 2 ^ m ≤ 2 ^ 62 := Nat.pow_le_pow_right (by omega) (by omega)
    have p62 : (2 : Nat) ^ 62 = 4611686018427387904 := rfl
    rw [shrN v m (by omega)]
    have key : v / 2 ^ m = 0 ↔ v < 2 ^ m := by rw [Nat.div_eq_zero_iff_lt (Nat.two_pow_pos m)]
    refine ⟨by omega, fun h2 => ?_, fun h2 => ?_⟩
    · have h3 : ¬ ((v / 2 ^ m : Nat) : Int) = 0 := by simpa only [bne_iff_ne, ne_eq] using h2
      have h4 : ¬ v / 2 ^ m = 0 := by omega
      rw [key] at h4
      have h5 : 2 ^ (m : Int).toNat ≤ (v : Int).toNat := by rw [Int.toNat_natCast, Int.toNat_natCast]; omega
      unfold browS
      rw [if_neg h, if_pos (Or.inr h5)]
    · have h3 : ((v / 2 ^ m : Nat) : Int) = 0 := by simpa only [bne_eq_false_iff_eq] using h2
      have : v / 2 ^ m = 0 := by omega
      rw [key] at this
      have e : wu64 (v : Int) = v := wu64_eq _ (by omega)
      rw [e]
      have p62' : (2 : Int) ^ 62 = 4611686018427387904 := rfl
      refine ⟨by omega, ?_⟩
      unfold browS bwriteS
      rw [if_neg h, if_neg (by rw [Int.toNat_natCast, Int.toNat_natCast]; omega)]
def ofb : List Int → List UInt8
  | [] => []
  | x :: r => wr 8 x.toNat ++ ofb r
theorem ofb_append (a b : List Int) : ofb (a ++ b) = ofb a ++ ofb b := by
  induction a with
  | nil => rfl
  | cons x r ih => simp [ofb, ih]
theorem ofb_length (a : List Int) : (ofb a).length = 8 * a.length := by
  induction a with
  | nil => rfl
  | cons x r ih => rw [ofb, List.length_append, wr_length, ih, List.length_cons]; omega
def bofS (l : List Int) : List UInt8 × Int := if 125 < l.length then ([], 2) else (ofb l, 0)
theorem bof_ok (l : List Int) (h : ∀ x ∈ l, 0 ≤ x ∧ x ≤ 255) : bof_vc l (fun r => r = bofS l) := by
  intro hl
  refine ⟨fun h1 => ?_, fun h1 => ?_⟩
  · unfold bofS
    rw [if_pos (by simp at h1; omega)]
  · have hn : ¬ 125 < l.length := by simp at h1; omega
    have hS : bofS l = (ofb l, 0) := by unfold bofS; rw [if_neg hn]
    rw [hS]
    refine ⟨fun i y => ∃ k : Nat, i = k ∧ k ≤ l.length ∧ y = ofb (l.take k), fun i _ => l.length - i.toNat, ⟨0, rfl, by omega, rfl⟩, ?_⟩
    rintro _ _ ⟨k, rfl, hk, rfl⟩
    refine ⟨fun h2 => ⟨by simp at h2; omega, fun q hq => ?_⟩, fun h2 => ?_⟩
    · rw [Int.toNat_natCast] at hq
      have hkl : k < l.length := (List.getElem?_eq_some_iff.1 hq).1
      have hqb := h q (List.mem_of_getElem? hq)
      have ew : w64 ((k : Int) + 1) = ((k + 1 : Nat) : Int) := w64_succ k (by omega)
      have e8 : wu64 q = q := wu64_eq q (by omega)
      have p62 : (2 : Int) ^ 62 = 4611686018427387904 := rfl
      have eb : bwriteS q 8 = wr 8 q.toNat := rfl
      rw [ew, e8, eb]
      refine ⟨by omega, ?_, ⟨k + 1, rfl, by omega, ?_⟩, by (try dsimp only); omega⟩
      · rw [ofb_length, wr_length, List.length_take]; omega
      · rw [take_next l k q hq, ofb_append]
        simp [ofb]
    · have : k = l.length := by simp at h2; omega
      subst this
      rw [List.take_length]
def byb : Nat → List UInt8 → List Int
  | 0, _ => []
  | k + 1, b => (val (b.take 8) : Int) :: byb k (b.drop 8)
def bbytesS (b : List UInt8) : List Int × Int := if bcheckS b ≠ 0 then ([], bcheckS b) else if b.length % 8 ≠ 0 then ([], 4) else (byb (b.length / 8) b, 0)
theorem bbytes_ok (b : List UInt8) : bbytes_vc b (fun r => r = bbytesS b) := by
  have hm : ((b.length : Int).tmod 8 != 0) = decide (b.length % 8 ≠ 0) := by
    rw [Int.tmod_eq_emod_of_nonneg (by omega)]
    by_cases h : b.length % 8 = 0
    · have : (b.length : Int) % 8 = 0 := by omega
      simp [this, h]
    · have : ¬ (b.length : Int) % 8 = 0 := by omega
      rw [decide_eq_true h]
      exact bne_iff_ne.2 this
  unfold bbytes_vc
  rw [hm]
  refine ⟨fun h => ?_, fun h => ⟨fun h1 => ?_, fun h1 => ?_⟩⟩
  · have h : bcheckS b ≠ 0 := by simpa using h
    unfold bbytesS
    rw [if_pos h]
  all_goals
    have h : ¬ bcheckS b ≠ 0 := by simpa using h
  · unfold bbytesS
    rw [if_neg h, if_pos (of_decide_eq_true h1)]
  · have h1 := of_decide_eq_false h1
    have hS : bbytesS b = (byb (b.length / 8) b, 0) := by unfold bbytesS; rw [if_neg h, if_neg h1]
    obtain ⟨hl, hr⟩ := (bcheck_zero b).1 (by simpa using h)
    rw [hS]
    refine ⟨fun x y => ∃ k : Nat, x.length = 8 * k ∧ x.length ≤ b.length ∧ isRow x = true ∧ y.length + k = b.length / 8 ∧ y ++ byb k x = byb (b.length / 8) b, fun x _ => x.length, ⟨b.length / 8, by omega, Nat.le_refl _, hr, by simp, by simp⟩, ?_⟩
    rintro x y ⟨k, hx, hxb, hxr, hyk, hyx⟩
    refine ⟨fun h2 => ?_, fun h2 => ?_⟩
    · have h2 := of_decide_eq_true h2
      obtain ⟨j, rfl⟩ : ∃ j, k = j + 1 := ⟨k - 1, by omega⟩
      have e8 : (8 : Int).toNat = 8 := rfl
      rw [e8]
      have htr := isRow_take hxr 8
      have htl : (x.take 8).length = 8 := by rw [List.length_take]; omega
      have hv := val_lt htr
      rw [htl] at hv
      have hw : w8 (breadS (x.take 8)) = (val (x.take 8) : Int) := w8_eq _ (by unfold breadS; have : (2 : Nat) ^ 8 = 256 := rfl; omega)
      rw [hw]
      refine ⟨by omega, ⟨by omega, htr⟩, by omega, by omega, ⟨j, by rw [List.length_drop]; omega, by rw [List.length_drop]; omega, isRow_drop hxr 8, by simp; omega, ?_⟩, by (try dsimp only); rw [List.length_drop]; omega⟩
      rw [← hyx, byb]
      simp
    · have h2 := of_decide_eq_false h2
      have : k = 0 := by omega
      subst this
      rw [byb, List.append_nil] at hyx
      rw [hyx]
theorem rcheckrow_ok (b : List UInt8) : rcheckrow_vc b (fun r => r = bcheckS b) := by
  have hc := count_row b
  refine ⟨fun h => ?_, fun h => ⟨rfl, rfl, fun h1 => ?_, fun h1 => ?_⟩⟩
  · have : 1000 < b.length := by simp at h; omega
    simp [bcheckS, this]
  all_goals
    have hn : ¬ 1000 < b.length := by simp at h; omega
    have e : w64 (count1S b [48] + count1S b [49]) = ((b.count 48 + b.count 49 : Nat) : Int) := by
      show w64 (((b.count 48 : Nat) : Int) + ((b.count 49 : Nat) : Int)) = _
      rw [w64_eq _ (by omega)]
      omega
    rw [e] at h1
  · have : ¬ isRow b = true := fun hr => by
      rw [hc.2.2 hr] at h1
      simp at h1
    simp [bcheckS, hn, this]
  · have : isRow b = true := hc.2.1 (by simp at h1; omega)
    simp [bcheckS, hn, this]
theorem byb_len : ∀ (k : Nat) (b : List UInt8), (byb k b).length = k := by
  intro k
  induction k with
  | zero => intro b; rfl
  | succ k ih => intro b; rw [byb, List.length_cons, ih]
theorem byb_range : ∀ (k : Nat) (b : List UInt8), isRow b = true → ∀ x ∈ byb k b, 0 ≤ x ∧ x ≤ 255 := by
  intro k
  induction k with
  | zero => intro b _ x hx; cases hx
  | succ k ih =>
    intro b hb x hx
    rw [byb, List.mem_cons] at hx
    rcases hx with rfl | hx
    · have hv := val_lt (isRow_take hb 8)
      have : 2 ^ (b.take 8).length ≤ 2 ^ 8 := Nat.pow_le_pow_right (by omega) (by rw [List.length_take]; omega)
      have : (2 : Nat) ^ 8 = 256 := rfl
      omega
    · exact ih _ (isRow_drop hb 8) x hx
/-- A row of whole bytes, as bytes, as a row. -/
theorem ofb_byb : ∀ (k : Nat) (b : List UInt8), isRow b = true → b.length = 8 * k → ofb (byb k b) = b := by
  intro k
  induction k with
  | zero =>
    intro b _ hl
    have e : b = [] := List.eq_nil_of_length_eq_zero (by omega)
    subst e
    rfl
  | succ k ih =>
    intro b hb hl
    have h8 : (b.take 8).length = 8 := by rw [List.length_take]; omega
    have hr := isRow_take hb 8
    have hv := val_lt hr
    rw [byb, ofb, Int.toNat_natCast, ih _ (isRow_drop hb 8) (by rw [List.length_drop]; omega)]
    have hw := wr_val hr (val (b.take 8)) (Nat.mod_eq_of_lt hv)
    rw [h8] at hw
    rw [hw, List.take_append_drop]

end Go.Proofs.YtfafpnacflcgmaaDoor
