/- What must hold so that each function ends well: pure predicates, made by program. -/
import Derived.Test.YtfafpnacflcgmaaDoorPBb
set_option linter.unusedVariables false
set_option linter.unusedSimpArgs false
namespace Go.Proofs.YtfafpnacflcgmaaDoor
open Go.Sy Go.RowKit
def gint64_vc (u0 : BInt) (K : (Int × BInt) → Prop) : Prop :=
  (u0.abs.length ≤ 140737488355328 →
    ((wok u0.abs) ∧
    (∀ r18, (guint64S u0) = r18 →
    (r18.2.abs.length ≤ 140737488355328 →
    ((r18.2.neg = false) ∧
    (K (w64 r18.1, r18.2)))))))

def gsetstr_vc (u0 : BInt) (u1 : List UInt8) (K : (Bool × Bool × BInt) → Prop) : Prop :=
  (u0.abs.length ≤ 140737488355328 →
    (((decide ((u1.length : Int) > 0)) = true) ∧
    ((0 ≤ (0 : Int) ∧ (0 : Int) < (u1.length : Int)) ∧
    (∀ c32, u1[(0 : Int).toNat]? = some c32 →
    ((((c32.toNat : Int) == 45) = false) ∧
    ((0 ≤ (0 : Int) ∧ (0 : Int) < (u1.length : Int)) ∧
    (∀ c50, u1[(0 : Int).toNat]? = some c50 →
    ((((c50.toNat : Int) == 43) = false) ∧
    ((((((u1.length : Int) == 0) || false) || false) = false) ∧
    (∃ inv106 : (List Int) → Int → Prop, ∃ mu106 : (List Int) → Int → Nat, inv106 ([] : List Int) 0 ∧
    (∀ (x9 : List Int) (x10 : Int), inv106 x9 x10 →
    (((decide (x10 < (u1.length : Int))) = true →
      ((0 ≤ x10 ∧ x10 < (u1.length : Int)) ∧
      (∀ c141, u1[x10.toNat]? = some c141 →
      ((((decide ((c141.toNat : Int) ≥ 48)) && (decide ((c141.toNat : Int) ≤ 57))) = true) ∧
      (((decide ((w64 (w8 ((c141.toNat : Int) - 48))) ≥ 2)) = false) ∧
      ((0 ≤ (2 : Int) ∧ (2 : Int) ≤ 18446744073709551615) ∧
      ((gwordsS 2).length ≤ 140737488355328 →
      ((wok x9 ∧ wok (gwordsS 2) ∧ x9.length ≤ 1000 ∧ (gwordsS 2).length ≤ 1000) ∧
      ((gmulS x9 (gwordsS 2)).length ≤ 140737488355328 →
      ((0 ≤ (wu64 (w64 (w8 ((c141.toNat : Int) - 48)))) ∧ (wu64 (w64 (w8 ((c141.toNat : Int) - 48)))) ≤ 18446744073709551615) ∧
      ((gwordsS (wu64 (w64 (w8 ((c141.toNat : Int) - 48))))).length ≤ 140737488355328 →
      ((wok (gmulS x9 (gwordsS 2)) ∧ wok (gwordsS (wu64 (w64 (w8 ((c141.toNat : Int) - 48))))) ∧ (gmulS x9 (gwordsS 2)).length ≤ 1000000 ∧ (gwordsS (wu64 (w64 (w8 ((c141.toNat : Int) - 48))))).length ≤ 1000000) ∧
      ((gaddS (gmulS x9 (gwordsS 2)) (gwordsS (wu64 (w64 (w8 ((c141.toNat : Int) - 48)))))).length ≤ 140737488355328 →
      (inv106 (gaddS (gmulS x9 (gwordsS 2)) (gwordsS (wu64 (w64 (w8 ((c141.toNat : Int) - 48)))))) (w64 (x10 + 1)) ∧ mu106 (gaddS (gmulS x9 (gwordsS 2)) (gwordsS (wu64 (w64 (w8 ((c141.toNat : Int) - 48)))))) (w64 (x10 + 1)) < mu106 x9 x10)))))))))))))) ∧
    ((decide (x10 < (u1.length : Int))) = false →
      (∀ r272, (ggive u0 false x9) = r272 →
      (r272.abs.length ≤ 140737488355328 →
      (K (true, true, r272)))))))))))))))))

/-! Pure proofs: no program in sight. -/
def bigN (n : Nat) : BInt := ⟨false, ws n⟩
def gint64S (x : BInt) : Int × BInt := (((wv x.abs : Nat) : Int), x)
theorem gint64_ok (x : BInt) (h : x.neg = false ∧ wok x.abs ∧ wv x.abs < 9223372036854775808) : gint64_vc x (fun r => r = gint64S x) := by
  obtain ⟨h1, h2, h3⟩ := h
  intro _
  refine ⟨h2, ?_⟩
  rintro _ rfl _
  refine ⟨h1, ?_⟩
  unfold guint64S gint64S
  dsimp only
  rw [Nat.mod_eq_of_lt (by omega), w64_eq _ (by omega)]
def gsetstrS (z : BInt) (s : List UInt8) : Bool × Bool × BInt := (true, true, bigN (val s))
theorem two_words : gwordsS 2 = [2] := by
  unfold gwordsS
  rw [ws_pos (by decide)]
  show [((2 : Nat) : Int)] ++ ws 0 = [2]
  rw [ws_zero]
  rfl
theorem pow_words_k {n k m : Nat} (h : n < 2 ^ k) (hk : k ≤ 32 * m) : (ws n).length ≤ m := by
  refine ws_len m n (Nat.lt_of_lt_of_le h ?_)
  rw [show (4294967296 : Nat) = 2 ^ 32 from rfl, ← Nat.pow_mul]
  exact Nat.pow_le_pow_right (by decide) hk
theorem pow_words {n k : Nat} (h : n < 2 ^ k) (hk : k ≤ 32 * 900) : (ws n).length ≤ 900 := pow_words_k h hk
theorem gsetstr_ok (z : BInt) (s : List UInt8) (h : isRow s = true ∧ s ≠ [] ∧ s.length ≤ 1000) : gsetstr_vc z s (fun r => r = gsetstrS z s) := by
  obtain ⟨hr, hne, hl⟩ := h
  have hpos : 0 < s.length := List.length_pos_iff.2 hne
  intro _
  refine ⟨decide_eq_true (by omega), by omega, fun c hc => ?_⟩
  have hb := isRow_mem hr (List.mem_of_getElem? hc)
  refine ⟨by rcases hb with rfl | rfl <;> rfl, by omega, fun c2 hc2 => ?_⟩
  rw [hc] at hc2
  cases hc2
  refine ⟨by rcases hb with rfl | rfl <;> rfl, ?_, ?_⟩
  · simp only [Bool.or_false, beq_eq_false_iff_ne]
    omega
  · refine ⟨fun x i => ∃ k : Nat, i = k ∧ k ≤ s.length ∧ x = ws (val (s.take k)), fun _ i => s.length - i.toNat, ⟨0, rfl, by omega, by rw [List.take_zero, val, ws_zero]⟩, ?_⟩
    rintro _ _ ⟨k, rfl, hk, rfl⟩
    refine ⟨fun h2 => ?_, fun h2 => ?_⟩
    · have hks : k < s.length := by have := of_decide_eq_true h2; omega
      have hvl : val (s.take k) < 2 ^ k := by
        have := val_lt (isRow_take hr k)
        rwa [List.length_take, Nat.min_eq_left (by omega)] at this
      have hwl : (ws (val (s.take k))).length ≤ 900 := pow_words hvl (by omega)
      refine ⟨by omega, fun q hq => ?_⟩
      · rw [Int.toNat_natCast] at hq
        have hqb := isRow_mem hr (List.mem_of_getElem? hq)
        have hdig : wu64 (w64 (w8 ((q.toNat : Int) - 48))) = ((q.toNat - 48 : Nat) : Int) := by rcases hqb with rfl | rfl <;> rfl
        have hd2 : q.toNat - 48 < 2 := by rcases hqb with rfl | rfl <;> decide
        refine ⟨by rcases hqb with rfl | rfl <;> rfl, by rcases hqb with rfl | rfl <;> rfl, ?_⟩
        rw [two_words, hdig]
        have w2 : wok [(2 : Int)] := fun y hy => by rw [List.mem_singleton.1 hy]; omega
        refine ⟨by omega, fun _ => ⟨⟨ws_wok _, w2, by omega, by decide⟩, fun _ => ⟨by omega, fun _ => ?_⟩⟩⟩
        have hm : gmulS (ws (val (s.take k))) [2] = ws (2 * val (s.take k)) := by
          unfold gmulS
          rw [wv_ws, Nat.mul_comm]
          rfl
        have hml : (ws (2 * val (s.take k))).length ≤ 900 := pow_words (k := k + 1) (by rw [Nat.pow_succ]; omega) (by omega)
        have hdl : (gwordsS ((q.toNat - 48 : Nat) : Int)).length ≤ 900 := by
          unfold gwordsS
          rw [Int.toNat_natCast]
          exact pow_words (k := 1) hd2 (by omega)
        rw [hm]
        refine ⟨⟨ws_wok _, ws_wok _, by omega, by omega⟩, fun _ => ?_⟩
        unfold gaddS gwordsS
        rw [wv_ws, wv_ws, Int.toNat_natCast, w64_succ k (by omega)]
        exact ⟨⟨k + 1, rfl, by omega, by rw [take_next s k q hq, val_snoc]⟩, by (try dsimp only); omega⟩
    · have hks : k = s.length := by have := of_decide_eq_false h2; omega
      subst hks
      rintro r hr2 _
      rw [← hr2, List.take_length]
      rfl
end Go.Proofs.YtfafpnacflcgmaaDoor
