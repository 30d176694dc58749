/- What must hold so that each function ends well: pure predicates, made by program. -/
import Derived.Test.YtfafpnacflcgmaaDoorPZ
set_option linter.unusedVariables false
set_option linter.unusedSimpArgs false
namespace Go.Proofs.YtfafpnacflcgmaaDoor
open Go.Sy Go.RowKit
def bread_vc (u0 : List UInt8) (K : Int → Prop) : Prop :=
  (∃ inv15 : Int → Int → Prop, ∃ mu15 : Int → Int → Nat, inv15 0 0 ∧
    (∀ (x3 : Int) (x7 : Int), inv15 x3 x7 →
    (((decide (x7 < (u0.length : Int))) = true →
      ((0 ≤ x7 ∧ x7 < (u0.length : Int)) ∧
      (∀ c49, u0[x7.toNat]? = some c49 →
      (inv15 (bOr .u64 (bShl .u64 x3 1) (wu64 (w8 ((c49.toNat : Int) - 48)))) (w64 (x7 + 1)) ∧ mu15 (bOr .u64 (bShl .u64 x3 1) (wu64 (w8 ((c49.toNat : Int) - 48)))) (w64 (x7 + 1)) < mu15 x3 x7)))) ∧
    ((decide (x7 < (u0.length : Int))) = false →
      (K x3)))))

def bwrite_vc (u0 : Int) (u1 : Int) (K : (List UInt8) → Prop) : Prop :=
  ((0 ≤ u1 ∧ u1 ≤ u1 ∧ u1 * 1 ≤ 140737488355328) ∧
    (∃ inv23 : Int → Int → (List Int) → Prop, ∃ mu23 : Int → Int → (List Int) → Nat, inv23 u0 0 (List.replicate u1.toNat (0 : Int)) ∧
    (∀ (x0 : Int) (x10 : Int) (zg90 : List Int), inv23 x0 x10 zg90 →
    (((decide (x10 < u1)) = true →
      ((0 ≤ w64 ((w64 (u1 - 1)) - x10) ∧ w64 ((w64 (u1 - 1)) - x10) < (zg90.length : Int)) ∧
      (inv23 (bShr .u64 x0 1) (w64 (x10 + 1)) (zg90.set (w64 ((w64 (u1 - 1)) - x10)).toNat (w8 (48 + (w8 (bAnd .u64 x0 1))))) ∧ mu23 (bShr .u64 x0 1) (w64 (x10 + 1)) (zg90.set (w64 ((w64 (u1 - 1)) - x10)).toNat (w8 (48 + (w8 (bAnd .u64 x0 1))))) < mu23 x0 x10 zg90))) ∧
    ((decide (x10 < u1)) = false →
      (K (bstr zg90)))))))

def bcheck_vc (u0 : List UInt8) (K : Int → Prop) : Prop :=
  (((decide ((u0.length : Int) > 1000)) = true →
      (K 2)) ∧
    ((decide ((u0.length : Int) > 1000)) = false →
      ((u0.length ≤ 9223372036854775807 ∧ ([48, 49] : List UInt8).length < 4294967281 ∧ ([48, 49] : List UInt8).all (fun b => decide (b.toNat < 128)) = true) ∧
      ((((trimS u0 ([48, 49] : List UInt8)) != ([] : List UInt8)) = true →
        (K 4)) ∧
      (((trimS u0 ([48, 49] : List UInt8)) != ([] : List UInt8)) = false →
        (K 0))))))

def rcheckrow_vc (u0 : List UInt8) (K : Int → Prop) : Prop :=
  (((decide ((u0.length : Int) > 1000)) = true →
      (K 2)) ∧
    ((decide ((u0.length : Int) > 1000)) = false →
      ((([48] : List UInt8).length = 1) ∧
      ((([49] : List UInt8).length = 1) ∧
      ((((w64 ((count1S u0 ([48] : List UInt8)) + (count1S u0 ([49] : List UInt8)))) != (u0.length : Int)) = true →
        (K 4)) ∧
      (((w64 ((count1S u0 ([48] : List UInt8)) + (count1S u0 ([49] : List UInt8)))) != (u0.length : Int)) = false →
        (K 0)))))))

/-! Pure proofs: no program in sight. -/
theorem bread_ok (b : List UInt8) (h : b.length ≤ 62 ∧ isRow b = true) : bread_vc b (fun r => r = breadS b) := by
  refine ⟨fun x y => ∃ k : Nat, y = k ∧ k ≤ b.length ∧ x = ((val (b.take k) : Nat) : Int), fun _ y => b.length - y.toNat, ⟨0, rfl, by omega, rfl⟩, ?_⟩
  rintro _ _ ⟨k, rfl, hk, rfl⟩
  refine ⟨fun h1 => ⟨by simp at h1; omega, fun c hc => ?_⟩, fun h1 => ?_⟩
  · rw [Int.toNat_natCast] at hc
    have hkl : k < b.length := (List.getElem?_eq_some_iff.1 hc).1
    have hv := val_lt (isRow_take h.2 k)
    have hl : (b.take k).length ≤ 61 := by rw [List.length_take]; omega
    have hp : 2 ^ (b.take k).length ≤ 2 ^ 61 := Nat.pow_le_pow_right (by omega) hl
    have hp61 : (2 : Nat) ^ 61 = 2305843009213693952 := rfl
    have hd : ∃ d : Nat, wu64 (w8 ((c.toNat : Int) - 48)) = (d : Int) ∧ d = c.toNat - 48 ∧ d < 2 := by
      rcases isRow_mem h.2 (List.mem_of_getElem? hc) with rfl | rfl
      · exact ⟨0, rfl, rfl, by omega⟩
      · exact ⟨1, rfl, rfl, by omega⟩
    obtain ⟨d, e1, e2, e3⟩ := hd
    have e4 := shl1 (val (b.take k)) (by omega)
    rw [e4, e1, or_bit _ d (by omega) e3, w64_succ k (by omega)]
    refine ⟨⟨k + 1, rfl, by omega, ?_⟩, by dsimp only; omega⟩
    rw [take_next b k c hc, val_snoc, e2]
  · have : k = b.length := by simp at h1; omega
    subst this
    rw [List.take_length]
    rfl
theorem bwrite_ok (n s : Int) (h : 0 ≤ s ∧ s ≤ 64 ∧ 0 ≤ n ∧ n < 2 ^ 62) : bwrite_vc n s (fun r => r = bwriteS n s) := by
  obtain ⟨m, rfl⟩ : ∃ m : Nat, s = m := ⟨s.toNat, by omega⟩
  obtain ⟨v, rfl⟩ : ∃ v : Nat, n = v := ⟨n.toNat, by omega⟩
  have p62 : (2 : Int) ^ 62 = 4611686018427387904 := rfl
  refine ⟨by omega, fun x i z => ∃ k : Nat, i = k ∧ k ≤ m ∧ x = ((v / 2 ^ k : Nat) : Int) ∧ z.length = m ∧ z.drop (m - k) = (wr k v).map (fun c => (c.toNat : Int)), fun _ i _ => m - i.toNat,
    ⟨0, rfl, by omega, by simp, by simp, by simp [wr]⟩, ?_⟩
  rintro _ _ z ⟨k, rfl, hk, rfl, hz, hd⟩
  refine ⟨fun h1 => ?_, fun h1 => ?_⟩
  · have hkm : k < m := by simp at h1; omega
    have e1 : w64 (w64 ((m : Int) - 1) - k) = ((m - 1 - k : Nat) : Int) := by
      rw [w64_eq ((m : Int) - 1) (by omega), w64_eq _ (by omega)]
      omega
    have hv : v / 2 ^ k < 18446744073709551616 := Nat.lt_of_le_of_lt (Nat.div_le_self _ _) (by omega)
    rw [e1, and1 _ hv, shr1, w64_succ k (by omega)]
    refine ⟨by omega, ⟨k + 1, rfl, by omega, ?_, by simpa using hz, ?_⟩, by dsimp only; omega⟩
    · rw [Nat.div_div_eq_div_mul, Nat.pow_succ]
    · have e2 : m - (k + 1) = m - 1 - k := by omega
      rw [e2, Int.toNat_natCast, wr, List.map_cons, ← hd]
      have hlt : m - 1 - k < z.length := by omega
      have e3 : m - k = m - 1 - k + 1 := by omega
      rw [e3, List.drop_eq_getElem_cons (by simpa using hlt), List.getElem_set_self]
      congr 1
      · rcases Nat.mod_two_eq_zero_or_one (v / 2 ^ k) with hh | hh <;> rw [hh] <;> rfl
      · rw [List.drop_set_of_lt (by omega)]
  · have : k = m := by simp at h1; omega
    subst this
    have e2 : k - k = 0 := by omega
    rw [e2, List.drop_zero] at hd
    show bstr z = wr (k : Int).toNat (v : Int).toNat
    rw [hd, Int.toNat_natCast, Int.toNat_natCast, bstr_ints]
theorem bcheck_ok (b : List UInt8) : bcheck_vc b (fun r => r = bcheckS b) := by
  refine ⟨fun h => ?_, fun h => ⟨⟨?_, by decide, by decide⟩, fun h1 => ?_, fun h1 => ?_⟩⟩
  · have : 1000 < b.length := by simp at h; omega
    simp [bcheckS, this]
  · simp at h; omega
  · have hn : ¬ 1000 < b.length := by simp at h; omega
    have : ¬ isRow b = true := fun hr => by
      rw [(trim_row b).2 hr] at h1
      cases h1
    simp [bcheckS, hn, this]
  · have hn : ¬ 1000 < b.length := by simp at h; omega
    have : isRow b = true := (trim_row b).1 (by simpa using h1)
    simp [bcheckS, hn, this]
theorem bcheck_zero (b : List UInt8) : bcheckS b = 0 ↔ b.length ≤ 1000 ∧ isRow b = true := by
  unfold bcheckS
  split
  · constructor
    · intro h; cases h
    · intro h; omega
  · split
    · rename_i h1 h2
      exact ⟨fun _ => ⟨by omega, h2⟩, fun _ => rfl⟩
    · rename_i h1 h2
      exact ⟨fun h => (by cases h), fun h => absurd h.2 h2⟩

end Go.Proofs.YtfafpnacflcgmaaDoor
