/- Texts put together (pure ones, or walks made by program). -/
import Derived.Test.YtdndfbamhnchfaaGreatDoorMR0
import Derived.Test.YtdndfbamhnchfaaGreatDoorMR1
set_option linter.unusedVariables false
set_option linter.unusedSimpArgs false
namespace Go.Proofs.YtdndfbamhnchfaaGreatDoor
open Go.Sy Go.RowKit
def gdiv_vc (u0 : List Int) (u1 : List Int) (K : ((List Int) × (List Int)) → Prop) : Prop := (u0.length ≤ 140737488355328 → (u1.length ≤ 140737488355328 → ((((u1.length : Int) == 0) = false) ∧ ((u0.length ≤ 1000 ∧ u1.length ≤ 1000 ∧ u0 = ws (wv u0) ∧ u1 = ws (wv u1)) ∧ (((decide ((gcmpS u0 u1) < 0)) = true → ((u0.length ≤ 1000000) ∧ ((gtwinS u0).length ≤ 140737488355328 → (K ([], (gtwinS u0)))))) ∧ ((decide ((gcmpS u0 u1) < 0)) = false → (((decide ((u0.length : Int) ≤ 2)) = true) ∧ ((wok u0) ∧ ((wok u1) ∧ (((gplainS u1) ≠ 0) ∧ (((gplainS u1) ≠ 0) ∧ ((0 ≤ (wu64 ((gplainS u0).tdiv (gplainS u1))) ∧ (wu64 ((gplainS u0).tdiv (gplainS u1))) ≤ 18446744073709551615) ∧ ((0 ≤ ((gplainS u0).tmod (gplainS u1)) ∧ ((gplainS u0).tmod (gplainS u1)) ≤ 18446744073709551615) ∧ (K ((gwordsS (wu64 ((gplainS u0).tdiv (gplainS u1)))), (gwordsS ((gplainS u0).tmod (gplainS u1))))))))))))))))))
def gcom_vc (u0 : List Int) (u1 : List Int) (K : (List Int) → Prop) : Prop := (u0.length ≤ 140737488355328 → (u1.length ≤ 140737488355328 → (∃ inv13 : (List Int) → (List Int) → Prop, ∃ mu13 : (List Int) → (List Int) → Nat, inv13 u0 u1 ∧ (∀ (x0 : List Int) (x1 : List Int), inv13 x0 x1 → (((decide ((x1.length : Int) > 2)) = false) ∧ ((((x1.length : Int) == 0) = true → (K x0)) ∧ (((x1.length : Int) == 0) = false → (((decide ((x0.length : Int) > 2)) = false) ∧ ((wok x0) ∧ ((wok x1) ∧ (∃ inv83 : Int → Int → Prop, ∃ mu83 : Int → Int → Nat, inv83 (gplainS x0) (gplainS x1) ∧ (∀ (x9 : Int) (x10 : Int), inv83 x9 x10 → (((decide (x10 > 0)) = true → ((x10 ≠ 0) ∧ (inv83 x10 (x9.tmod x10) ∧ mu83 x10 (x9.tmod x10) < mu83 x9 x10))) ∧ ((decide (x10 > 0)) = false → ((0 ≤ x9 ∧ x9 ≤ 18446744073709551615) ∧ ((gwordsS x9).length ≤ 140737488355328 → (K (gwordsS x9))))))))))))))))))
def gsum_vc (u0 : Bool) (u1 : List Int) (u2 : Bool) (u3 : List Int) (K : (Bool × (List Int)) → Prop) : Prop := (u1.length ≤ 140737488355328 → (u3.length ≤ 140737488355328 → (((u0 == u2) = true → ((wok u1 ∧ wok u3 ∧ u1.length ≤ 1000000 ∧ u3.length ≤ 1000000) ∧ ((gaddS u1 u3).length ≤ 140737488355328 → (K (u0, (gaddS u1 u3)))))) ∧ ((u0 == u2) = false → ((u1.length ≤ 1000 ∧ u3.length ≤ 1000 ∧ u1 = ws (wv u1) ∧ u3 = ws (wv u3)) ∧ (((decide ((gcmpS u1 u3) ≥ 0)) = true → ((wok u1 ∧ wok u3 ∧ u1.length ≤ 1000 ∧ u3.length ≤ u1.length ∧ wv u3 ≤ wv u1) ∧ ((gsubS u1 u3).length ≤ 140737488355328 → (K (u0, (gsubS u1 u3)))))) ∧ ((decide ((gcmpS u1 u3) ≥ 0)) = false → ((wok u3 ∧ wok u1 ∧ u3.length ≤ 1000 ∧ u1.length ≤ u3.length ∧ wv u1 ≤ wv u3) ∧ ((gsubS u3 u1).length ≤ 140737488355328 → (K (u2, (gsubS u3 u1))))))))))))
def ggive_vc (u0 : BInt) (u1 : Bool) (u2 : List Int) (K : BInt → Prop) : Prop := (u0.abs.length ≤ 140737488355328 → (u2.length ≤ 140737488355328 → (K (⟨u1 && (decide ((u2.length : Int) > 0)), u2⟩ : BInt))))
def ggive (u0 : BInt) (u1 : Bool) (u2 : List Int) : BInt :=
 (⟨u1 && (decide ((u2.length : Int) > 0)), u2⟩ : BInt)
theorem ggive_ok (u0 : BInt) (u1 : Bool) (u2 : List Int) : ggive_vc u0 u1 u2 (fun r => r = ggive u0 u1 u2) := (fun _ => (fun _ => (by rfl)))
def ggiveA_vc (u0 : BRat) (u1 : Bool) (u2 : List Int) (K : BRat → Prop) : Prop := (u0.a.abs.length ≤ 140737488355328 → (u0.b.abs.length ≤ 140737488355328 → (u2.length ≤ 140737488355328 → (K (⟨(⟨u1 && (decide ((u2.length : Int) > 0)), u2⟩ : BInt), u0.b⟩ : BRat)))))
def ggiveA (u0 : BRat) (u1 : Bool) (u2 : List Int) : BRat :=
 (⟨(⟨u1 && (decide ((u2.length : Int) > 0)), u2⟩ : BInt), u0.b⟩ : BRat)
theorem ggiveA_ok (u0 : BRat) (u1 : Bool) (u2 : List Int) : ggiveA_vc u0 u1 u2 (fun r => r = ggiveA u0 u1 u2) := (fun _ => (fun _ => (fun _ => (by rfl))))
def ggiveB_vc (u0 : BRat) (u1 : Bool) (u2 : List Int) (K : BRat → Prop) : Prop := (u0.a.abs.length ≤ 140737488355328 → (u0.b.abs.length ≤ 140737488355328 → (u2.length ≤ 140737488355328 → (K (⟨u0.a, (⟨u1 && (decide ((u2.length : Int) > 0)), u2⟩ : BInt)⟩ : BRat)))))
def ggiveB (u0 : BRat) (u1 : Bool) (u2 : List Int) : BRat :=
 (⟨u0.a, (⟨u1 && (decide ((u2.length : Int) > 0)), u2⟩ : BInt)⟩ : BRat)
theorem ggiveB_ok (u0 : BRat) (u1 : Bool) (u2 : List Int) : ggiveB_vc u0 u1 u2 (fun r => r = ggiveB u0 u1 u2) := (fun _ => (fun _ => (fun _ => (by rfl))))
def gnew_vc (u0 : Int) (K : BInt → Prop) : Prop := (((decide (u0 < 0)) = true → ((0 ≤ (wu64 (0 - (wu64 u0))) ∧ (wu64 (0 - (wu64 u0))) ≤ 18446744073709551615) ∧ ((gwordsS (wu64 (0 - (wu64 u0)))).length ≤ 140737488355328 → (∀ r65, (ggive (⟨false, []⟩ : BInt) (decide (u0 < 0)) (gwordsS (wu64 (0 - (wu64 u0))))) = r65 → (r65.abs.length ≤ 140737488355328 → (K r65)))))) ∧ ((decide (u0 < 0)) = false → ((0 ≤ (wu64 u0) ∧ (wu64 u0) ≤ 18446744073709551615) ∧ ((gwordsS (wu64 u0)).length ≤ 140737488355328 → (∀ r110, (ggive (⟨false, []⟩ : BInt) (decide (u0 < 0)) (gwordsS (wu64 u0))) = r110 → (r110.abs.length ≤ 140737488355328 → (K r110)))))))
def rden_vc (u0 : BRat) (K : BRat → Prop) : Prop := (u0.a.abs.length ≤ 140737488355328 → (u0.b.abs.length ≤ 140737488355328 → ((((u0.b.abs.length : Int) == 0) = false) ∧ (K u0))))
def gnegA_vc (u0 : BRat) (K : BRat → Prop) : Prop := (u0.a.abs.length ≤ 140737488355328 → (u0.b.abs.length ≤ 140737488355328 → ((u0.a.abs.length ≤ 1000000) ∧ (K (ggiveA u0 (!u0.a.neg) (gtwinS u0.a.abs))))))
def gnegB_vc (u0 : BRat) (K : BRat → Prop) : Prop := (u0.a.abs.length ≤ 140737488355328 → (u0.b.abs.length ≤ 140737488355328 → ((u0.b.abs.length ≤ 1000000) ∧ (K (ggiveB u0 (!u0.b.neg) (gtwinS u0.b.abs))))))
def grightS (a : List Int) (n : Int) : List Int := ws (wv a / 2 ^ n.toNat)
theorem low_words {n : Nat} (hn : n ≤ 31) (u t : Nat) : (u + 18446744073709551616 * t) / 2 ^ n % 4294967296 = u / 2 ^ n % 4294967296 := by
 have e : 18446744073709551616 * t = 2 ^ n * (4294967296 * (2 ^ (32 - n) * t)) := by
  have e1 : 2 ^ n * 2 ^ (32 - n) = 4294967296 := by rw [← Nat.pow_add, show n + (32 - n) = 32 by omega]
  have e2 : 2 ^ n * (4294967296 * (2 ^ (32 - n) * t)) = (2 ^ n * 2 ^ (32 - n)) * (4294967296 * t) := by
   rw [Nat.mul_assoc (2 ^ n), Nat.mul_left_comm (2 ^ (32 - n)), Nat.mul_left_comm]
  rw [e2, e1, ← Nat.mul_assoc]
 rw [e, Nat.add_mul_div_left _ _ (Nat.two_pow_pos n), Nat.add_mul_mod_self_left]
theorem wv_drop {l : List Int} (h : wok l) {k : Nat} (hk : k ≤ l.length) : wv l / 4294967296 ^ k = wv (l.drop k) := by
 rw [wv_split l k hk]
 have := wv_lt (wok_take h k)
 rw [List.length_take, Nat.min_eq_left hk] at this
 rw [Nat.add_mul_div_left _ _ (Nat.pow_pos (by omega)), Nat.div_eq_of_lt this, Nat.zero_add]
theorem gright_ok (a : List Int) (s : Int) (h : wok a ∧ a.length ≤ 1000 ∧ 0 ≤ s ∧ s ≤ 31) : gright_vc a s (fun r => r = grightS a s) := by
 obtain ⟨ha, hl, hs⟩ := h
 obtain ⟨n, rfl⟩ : ∃ n : Nat, s = n := ⟨s.toNat, by omega⟩
 have hn : n ≤ 31 := by omega
 have e0 : ((n : Int)).tdiv 32 = 0 := by rw [Int.tdiv_eq_ediv_of_nonneg (by omega)]; omega
 have e1 : ((n : Int)).tmod 32 = n := by rw [Int.tmod_eq_emod_of_nonneg (by omega)]; omega
 have e2 : wu64 0 = 0 := by decide
 have e3 : w64 0 = 0 := by decide
 unfold gright_vc grightS
 rw [e0, e1, e2, e3, Int.toNat_natCast]
 intro _
 refine ⟨fun h1 => ?_, fun h1 => ?_⟩
 · have h1 := of_decide_eq_true h1
   have : a = [] := List.length_eq_zero_iff.1 (by omega)
   subst this
   show [] = ws (0 / 2 ^ n)
   rw [Nat.zero_div, ws_zero]
 · have e4 : w64 ((a.length : Int) - 0) = a.length := by rw [w64_eq _ (by omega)]; omega
   rw [e4]
   refine ⟨by omega, fun i z => ∃ k : Nat, i = k ∧ k ≤ a.length ∧ z.length = a.length ∧ wok z ∧ wv (z.take k) = wv a / 2 ^ n % 4294967296 ^ k, fun i _ => a.length - i.toNat, ⟨0, rfl, by omega, by simp, wok_rep _, by simp [wv, Nat.mod_one]⟩, ?_⟩
   rintro _ z ⟨k, rfl, hk, hz, hw, hv⟩
   have e5 : k < a.length → w64 ((k : Int) + 0) = k := fun h => by rw [w64_eq _ (by omega)]; omega
   have step : k < a.length → ∀ u : Nat, u / 2 ^ n % 4294967296 = wv (a.drop k) / 2 ^ n % 4294967296 →
     (∃ j : Nat, w64 ((k : Int) + 1) = j ∧ j ≤ a.length ∧ (z.set k (wu32 ((u / 2 ^ n : Nat) : Int))).length = a.length ∧ wok (z.set k (wu32 ((u / 2 ^ n : Nat) : Int))) ∧ wv ((z.set k (wu32 ((u / 2 ^ n : Nat) : Int))).take j) = wv a / 2 ^ n % 4294967296 ^ j) ∧ a.length - (w64 ((k : Int) + 1)).toNat < a.length - k := by
    intro hka u hu
    rw [w64_succ k (by omega), wu32_nat]
    refine ⟨⟨k + 1, rfl, by omega, by rw [List.length_set]; exact hz, wok_set hw _ _ (Nat.mod_lt _ (by decide)), ?_⟩, by rw [Int.toNat_natCast]; omega⟩
    rw [wv_take_set (by omega), hv, Nat.mod_pow_succ, hu, Nat.div_div_eq_div_mul, Nat.mul_comm (2 ^ n), ← Nat.div_div_eq_div_mul, wv_drop ha (by omega)]
   refine ⟨fun h2 => ?_, fun h2 => ?_⟩
   · have hka : k < a.length := by have := of_decide_eq_true h2; omega
     rw [e5 hka]
     refine ⟨by omega, fun q hq => ?_⟩
     rw [Int.toNat_natCast] at hq
     obtain ⟨k1, he⟩ := List.getElem?_eq_some_iff.1 hq
     obtain ⟨q, rfl, hq0⟩ := wok_at ha hq
     rw [wu64_eq (q : Int) (by omega), w64_succ k (by omega)]
     have hd : wv (a.drop k) = q + 4294967296 * wv (a.drop (k + 1)) := by
      rw [List.drop_eq_getElem_cons k1, he]
      rfl
     refine ⟨fun h3 => ?_, fun h3 => ⟨by omega, by omega, ?_⟩⟩
     · have hk2 : k + 1 < a.length := by have := of_decide_eq_true h3; omega
       refine ⟨by omega, fun p hp => ?_⟩
       rw [Int.toNat_natCast] at hp
       obtain ⟨k2, hf⟩ := List.getElem?_eq_some_iff.1 hp
       obtain ⟨p, rfl, hp0⟩ := wok_at ha hp
       have hd2 : wv (a.drop (k + 1)) = p + 4294967296 * wv (a.drop (k + 2)) := by
        rw [List.drop_eq_getElem_cons k2, hf]
        rfl
       have ew : bOr .u64 (q : Int) (bShl .u64 (p : Int) 32) = ((q + 4294967296 * p : Nat) : Int) := by
        have e1 : bShl .u64 (p : Int) 32 = ((p * 2 ^ 32 : Nat) : Int) := shlu p 32 (by omega) (by omega)
        rw [e1, bor64 q _ (by omega) (by omega), or_add (r := 32) hq0 rfl]
        congr 1
        omega
       rw [wu64_eq (p : Int) (by omega), ew, shru (q + 4294967296 * p) n (by omega) .u64 (by show n ≤ 64; omega), Int.toNat_natCast]
       refine ⟨by omega, by omega, ?_⟩
       have := step hka (q + 4294967296 * p) (by
        rw [hd, hd2, Nat.mul_add, ← Nat.add_assoc, ← Nat.mul_assoc]
        exact (low_words hn _ _).symm)
       rw [w64_succ k (by omega)] at this
       exact this
     · have hk2 : a.length = k + 1 := by have := of_decide_eq_false h3; omega
       rw [shru q n (by omega) .u64 (by show n ≤ 64; omega), Int.toNat_natCast]
       have hd2 : wv (a.drop (k + 1)) = 0 := by
        rw [List.drop_eq_nil_of_le (by omega)]
        rfl
       have := step hka q (by rw [hd, hd2, Nat.mul_zero, Nat.add_zero])
       rw [w64_succ k (by omega)] at this
       exact this
   · have hka : k = a.length := by have := of_decide_eq_false h2; omega
     subst hka
     intro _
     rw [gtrim_ws hw]
     have t1 : z.take a.length = z := List.take_of_length_le (by omega)
     rw [t1] at hv
     have := wv_lt ha
     have h3 : wv a / 2 ^ n ≤ wv a := Nat.div_le_self _ _
     rw [hv, Nat.mod_eq_of_lt (by omega)]
def gdivS (a b : List Int) : List Int × List Int := (ws (wv a / wv b), ws (wv a % wv b))
theorem gplain_small {l : List Int} (h : wv l < 18446744073709551616) : gplainS l = (wv l : Int) := by
 unfold gplainS
 rw [Nat.mod_eq_of_lt h]
theorem ws_two {n : Nat} (h : n < 18446744073709551616) : (ws n).length ≤ 2 := ws_len 2 n h
theorem can_wok {l : List Int} (h : l = ws (wv l)) : wok l := by rw [h]; exact ws_wok _
theorem can_two {l : List Int} (h : l = ws (wv l)) (hl : wv l < 18446744073709551616) : l.length ≤ 2 := by rw [h]; exact ws_two hl
theorem gdiv_ok (a b : List Int) (h : a = ws (wv a) ∧ b = ws (wv b) ∧ wv a < 18446744073709551616 ∧ wv b < 18446744073709551616 ∧ 0 < wv b) : gdiv_vc a b (fun r => r = gdivS a b) := by
 obtain ⟨ha, hb, la, lb, h0⟩ := h
 have a2 := can_two ha la
 have b2 := can_two hb lb
 intro _ _
 have hb0 : b.length ≠ 0 := by
  intro hc
  rw [List.length_eq_zero_iff] at hc
  rw [hc] at h0
  exact absurd h0 (Nat.not_lt_zero _)
 unfold gdivS
 refine ⟨by rw [beq_eq_false_iff_ne]; omega, ⟨by omega, by omega, ha, hb⟩, fun h1 => ⟨by omega, fun _ => ?_⟩, fun h1 => ⟨by rw [decide_eq_true_eq]; omega, can_wok ha, can_wok hb, ?_⟩⟩
 · have h1 := of_decide_eq_true h1
   have hlt : wv a < wv b := by
    unfold gcmpS at h1
    split at h1
    · assumption
    · split at h1 <;> omega
   rw [Nat.div_eq_of_lt hlt, Nat.mod_eq_of_lt hlt, ws_zero, ← ha]
   rfl
 · rw [gplain_small la, gplain_small lb]
   have e1 : ((wv a : Nat) : Int).tdiv ((wv b : Nat) : Int) = ((wv a / wv b : Nat) : Int) := by rw [Int.tdiv_eq_ediv_of_nonneg (by omega)]; norm_cast
   have e2 : ((wv a : Nat) : Int).tmod ((wv b : Nat) : Int) = ((wv a % wv b : Nat) : Int) := by rw [Int.tmod_eq_emod_of_nonneg (by omega)]; norm_cast
   have l1 : wv a / wv b ≤ wv a := Nat.div_le_self _ _
   have l2 : wv a % wv b < wv b := Nat.mod_lt _ h0
   rw [e1, e2]
   generalize wv a / wv b = Q at *
   generalize wv a % wv b = R at *
   rw [wu64_eq _ (by omega)]
   refine ⟨by omega, by omega, by omega, by omega, ?_⟩
   unfold gwordsS
   rw [Int.toNat_natCast, Int.toNat_natCast]
def gcomS (a b : List Int) : List Int := ws (Nat.gcd (wv a) (wv b))
theorem gcom_ok (a b : List Int) (h : a = ws (wv a) ∧ b = ws (wv b) ∧ wv a < 18446744073709551616 ∧ wv b < 18446744073709551616) : gcom_vc a b (fun r => r = gcomS a b) := by
 obtain ⟨ha, hb, la, lb⟩ := h
 have a2 := can_two ha la
 have b2 := can_two hb lb
 intro _ _
 unfold gcomS
 refine ⟨fun x y => x = a ∧ y = b, fun _ _ => 0, ⟨rfl, rfl⟩, ?_⟩
 rintro x y ⟨hx, hy⟩
 rw [hx, hy]
 clear hx hy
 refine ⟨by rw [decide_eq_false_iff_not]; omega, fun h1 => ?_, fun h1 => ⟨by rw [decide_eq_false_iff_not]; omega, can_wok ha, can_wok hb, fun x y => ∃ p q : Nat, x = p ∧ y = q ∧ p < 18446744073709551616 ∧ q < 18446744073709551616 ∧ Nat.gcd p q = Nat.gcd (wv a) (wv b), fun _ y => y.toNat, ⟨_, _, gplain_small la, gplain_small lb, la, lb, rfl⟩, ?_⟩⟩
 · have h1 : b.length = 0 := by have : (b.length : Int) = 0 := by simpa using h1
                                omega
   rw [List.length_eq_zero_iff] at h1
   subst h1
   show a = ws (Nat.gcd (wv a) 0)
   rw [Nat.gcd_zero_right]
   exact ha
 · rintro _ _ ⟨p, q, rfl, rfl, hp, hq, hg⟩
   refine ⟨fun h2 => ⟨by have := of_decide_eq_true h2; omega, ⟨q, p % q, rfl, ?_, hq, ?_, ?_⟩, ?_⟩, fun h2 => ⟨by omega, fun _ => ?_⟩⟩
   · rw [Int.tmod_eq_emod_of_nonneg (by omega)]
     norm_cast
   · have := of_decide_eq_true h2
     have : p % q < q := Nat.mod_lt _ (by omega)
     omega
   · rw [← hg, Nat.gcd_comm p q, Nat.gcd_rec q p, Nat.gcd_comm]
   · have := of_decide_eq_true h2
     have e : ((p : Nat) : Int).tmod ((q : Nat) : Int) = ((p % q : Nat) : Int) := by rw [Int.tmod_eq_emod_of_nonneg (by omega)]; norm_cast
     rw [e]
     have : p % q < q := Nat.mod_lt _ (by omega)
     (try dsimp only)
     omega
   · have := of_decide_eq_false h2
     have hq0 : q = 0 := by omega
     subst hq0
     rw [Nat.gcd_zero_right] at hg
     unfold gwordsS
     rw [Int.toNat_natCast, hg]
def gsumS (xn : Bool) (xa : List Int) (yn : Bool) (ya : List Int) : Bool × List Int :=
 if xn = yn then (xn, ws (wv xa + wv ya)) else if wv ya ≤ wv xa then (xn, ws (wv xa - wv ya)) else (yn, ws (wv ya - wv xa))
theorem len_le_of {a b : List Int} (ha : a = ws (wv a)) (hb : b = ws (wv b)) (h : wv b ≤ wv a) : b.length ≤ a.length := by
 rcases Nat.lt_or_ge a.length b.length with hc | hc
 · have : wv a < wv b := ws_lt_len (by rw [← ha, ← hb]; exact hc)
   omega
 · exact hc
theorem gsum_ok (xn : Bool) (xa : List Int) (yn : Bool) (ya : List Int) (h : xa = ws (wv xa) ∧ ya = ws (wv ya) ∧ wv xa < 18446744073709551616 ∧ wv ya < 18446744073709551616) : gsum_vc xn xa yn ya (fun r => r = gsumS xn xa yn ya) := by
 obtain ⟨ha, hb, la, lb⟩ := h
 have a2 := can_two ha la
 have b2 := can_two hb lb
 intro _ _
 unfold gsumS
 refine ⟨fun h1 => ⟨⟨can_wok ha, can_wok hb, by omega, by omega⟩, fun _ => ?_⟩, fun h1 => ⟨⟨by omega, by omega, ha, hb⟩, fun h2 => ?_, fun h2 => ?_⟩⟩
 · rw [if_pos (by simpa using h1)]
   rfl
 · have h2 := of_decide_eq_true h2
   have hle : wv ya ≤ wv xa := by
    unfold gcmpS at h2
    split at h2
    · omega
    · omega
   refine ⟨⟨can_wok ha, can_wok hb, by omega, len_le_of ha hb hle, hle⟩, fun _ => ?_⟩
   rw [if_neg (by simpa using h1), if_pos hle]
   rfl
 · have h2 := of_decide_eq_false h2
   have hle : wv xa < wv ya := by
    unfold gcmpS at h2
    split at h2
    · assumption
    · split at h2 <;> omega
   refine ⟨⟨can_wok hb, can_wok ha, by omega, len_le_of hb ha (by omega), by omega⟩, fun _ => ?_⟩
   rw [if_neg (by simpa using h1), if_neg (by omega)]
   rfl
def bz (z : Int) : BInt := ⟨decide (z < 0), ws z.natAbs⟩
def iv (x : BInt) : Int := if x.neg = true then -(wv x.abs : Int) else (wv x.abs : Int)
def bk (x : BInt) : Prop := x = bz (iv x) ∧ (iv x).natAbs < 18446744073709551616
theorem iv_bz (z : Int) : iv (bz z) = z := by
 unfold iv bz
 dsimp only
 rw [wv_ws]
 by_cases h : z < 0
 · rw [decide_eq_true h, if_pos rfl]
   omega
 · rw [decide_eq_false h, if_neg (by simp)]
   omega
theorem bk_bz {z : Int} (h : z.natAbs < 18446744073709551616) : bk (bz z) := by
 unfold bk
 rw [iv_bz]
 exact ⟨rfl, h⟩
theorem bk_abs {x : BInt} (h : bk x) : x.abs = ws (wv x.abs) ∧ wv x.abs = (iv x).natAbs ∧ wv x.abs < 18446744073709551616 ∧ x.neg = decide (iv x < 0) := by
 obtain ⟨h1, h2⟩ := h
 generalize iv x = z at *
 subst h1
 unfold bz
 dsimp only
 rw [wv_ws]
 exact ⟨rfl, rfl, h2, rfl⟩
theorem gnew_ok (x : Int) (h : -9223372036854775808 ≤ x ∧ x ≤ 9223372036854775807) : gnew_vc x (fun r => r = bz x) := by
 refine ⟨fun h1 => ?_, fun h1 => ?_⟩
 · have h1' := of_decide_eq_true h1
   have e : wu64 (0 - wu64 x) = -x := by
    rw [wu64_neg x (by omega), wu64_neg _ (by omega)]
    omega
   rw [e]
   refine ⟨by omega, fun _ r hr _ => ?_⟩
   subst hr
   show ggive _ _ _ = _
   unfold ggive bz gwordsS
   have e2 : (-x).toNat = x.natAbs := by omega
   have e3 : decide (((ws x.natAbs).length : Int) > 0) = true := by
    rw [decide_eq_true_eq]
    have : ¬ (ws x.natAbs).length = 0 := fun hc => by rw [ws_len0] at hc; omega
    omega
   rw [e2, e3, Bool.and_true]
 · have h1' := of_decide_eq_false h1
   rw [wu64_eq x (by omega)]
   refine ⟨by omega, fun _ r hr _ => ?_⟩
   subst hr
   show ggive _ _ _ = _
   unfold ggive bz gwordsS
   have e2 : x.toNat = x.natAbs := by omega
   rw [h1, Bool.false_and, e2]
def rdenS (r : BRat) : BRat := r
theorem rden_ok (r : BRat) (h : r.b.abs ≠ []) : rden_vc r (fun x => x = rdenS r) := by
 intro _ _
 refine ⟨?_, rfl⟩
 rw [beq_eq_false_iff_ne]
 intro hc
 have : r.b.abs.length = 0 := by omega
 exact h (List.length_eq_zero_iff.1 this)
def gnegAS (r : BRat) : BRat := ⟨⟨(!r.a.neg) && decide ((r.a.abs.length : Int) > 0), r.a.abs⟩, r.b⟩
theorem gnegA_ok (r : BRat) (h : r.a.abs.length ≤ 1000000) : gnegA_vc r (fun x => x = gnegAS r) := fun _ _ => ⟨h, rfl⟩
def gnegBS (r : BRat) : BRat := ⟨r.a, ⟨(!r.b.neg) && decide ((r.b.abs.length : Int) > 0), r.b.abs⟩⟩
theorem gnegB_ok (r : BRat) (h : r.b.abs.length ≤ 1000000) : gnegB_vc r (fun x => x = gnegBS r) := fun _ _ => ⟨h, rfl⟩
end Go.Proofs.YtdndfbamhnchfaaGreatDoor
set_option linter.unusedVariables false
set_option linter.unusedSimpArgs false
namespace Go.Proofs.YtdndfbamhnchfaaGreatDoor
open Go.Sy Go.RowKit
def gmulAB_vc (u0 : BInt) (u1 : BRat) (u2 : BRat) (K : (BInt × BRat × BRat) → Prop) : Prop := (u0.abs.length ≤ 140737488355328 → (u1.a.abs.length ≤ 140737488355328 → (u1.b.abs.length ≤ 140737488355328 → (u2.a.abs.length ≤ 140737488355328 → (u2.b.abs.length ≤ 140737488355328 → ((wok u1.a.abs ∧ wok u2.b.abs ∧ u1.a.abs.length ≤ 1000 ∧ u2.b.abs.length ≤ 1000) ∧ (K ((ggive u0 (u1.a.neg != u2.b.neg) (gmulS u1.a.abs u2.b.abs)), u1, u2))))))))
def gmulBA_vc (u0 : BInt) (u1 : BRat) (u2 : BRat) (K : (BInt × BRat × BRat) → Prop) : Prop := (u0.abs.length ≤ 140737488355328 → (u1.a.abs.length ≤ 140737488355328 → (u1.b.abs.length ≤ 140737488355328 → (u2.a.abs.length ≤ 140737488355328 → (u2.b.abs.length ≤ 140737488355328 → ((wok u1.b.abs ∧ wok u2.a.abs ∧ u1.b.abs.length ≤ 1000 ∧ u2.a.abs.length ≤ 1000) ∧ (K ((ggive u0 (u1.b.neg != u2.a.neg) (gmulS u1.b.abs u2.a.abs)), u1, u2))))))))
def gmulAA_vc (u0 : BInt) (u1 : BRat) (u2 : BRat) (K : (BInt × BRat × BRat) → Prop) : Prop := (u0.abs.length ≤ 140737488355328 → (u1.a.abs.length ≤ 140737488355328 → (u1.b.abs.length ≤ 140737488355328 → (u2.a.abs.length ≤ 140737488355328 → (u2.b.abs.length ≤ 140737488355328 → ((wok u1.a.abs ∧ wok u2.a.abs ∧ u1.a.abs.length ≤ 1000 ∧ u2.a.abs.length ≤ 1000) ∧ (K ((ggive u0 (u1.a.neg != u2.a.neg) (gmulS u1.a.abs u2.a.abs)), u1, u2))))))))
def gmulBB_vc (u0 : BInt) (u1 : BRat) (u2 : BRat) (K : (BInt × BRat × BRat) → Prop) : Prop := (u0.abs.length ≤ 140737488355328 → (u1.a.abs.length ≤ 140737488355328 → (u1.b.abs.length ≤ 140737488355328 → (u2.a.abs.length ≤ 140737488355328 → (u2.b.abs.length ≤ 140737488355328 → ((wok u1.b.abs ∧ wok u2.b.abs ∧ u1.b.abs.length ≤ 1000 ∧ u2.b.abs.length ≤ 1000) ∧ (K ((ggive u0 (u1.b.neg != u2.b.neg) (gmulS u1.b.abs u2.b.abs)), u1, u2))))))))
def gaddI_vc (u0 : BInt) (u1 : BInt) (u2 : BInt) (K : (BInt × BInt × BInt) → Prop) : Prop := (u0.abs.length ≤ 140737488355328 → (u1.abs.length ≤ 140737488355328 → (u2.abs.length ≤ 140737488355328 → ((u1.abs = ws (wv u1.abs) ∧ u2.abs = ws (wv u2.abs) ∧ wv u1.abs < 18446744073709551616 ∧ wv u2.abs < 18446744073709551616) ∧ (K ((ggive u0 (gsumS u1.neg u1.abs u2.neg u2.abs).1 (gsumS u1.neg u1.abs u2.neg u2.abs).2), u1, u2))))))
def rnorm_vc (u0 : BRat) (K : BRat → Prop) : Prop := (u0.a.abs.length ≤ 140737488355328 → (u0.b.abs.length ≤ 140737488355328 → ((((u0.b.abs.length : Int) == 0) = false) ∧ (∃ inv43 : BRat → Prop, ((u0.b.neg = true → ((u0.a.abs.length ≤ 1000000) ∧ (((gnegAS u0).b.abs.length ≤ 1000000) ∧ (inv43 (gnegBS (gnegAS u0)))))) ∧ (u0.b.neg = false → (inv43 u0))) ∧ (∀ (yb1 : BRat), inv43 yb1 → ((((yb1.a.abs.length : Int) == 0) = true → ((0 ≤ (1 : Int) ∧ (1 : Int) ≤ 18446744073709551615) ∧ ((gwordsS 1).length ≤ 140737488355328 → (∀ r126, (ggiveB yb1 false (gwordsS 1)) = r126 → (r126.a.abs.length ≤ 140737488355328 → (r126.b.abs.length ≤ 140737488355328 → (K r126))))))) ∧ (((yb1.a.abs.length : Int) == 0) = false → ((((yb1.b.abs.length : Int) == 1) = true → ((0 ≤ (0 : Int) ∧ (0 : Int) < (yb1.b.abs.length : Int)) ∧ (∀ q187, yb1.b.abs[(0 : Int).toNat]? = some q187 → (((q187 == 1) = true → (K yb1)) ∧ ((q187 == 1) = false → ((yb1.a.abs = ws (wv yb1.a.abs) ∧ yb1.b.abs = ws (wv yb1.b.abs) ∧ wv yb1.a.abs < 18446744073709551616 ∧ wv yb1.b.abs < 18446744073709551616) ∧ (((((gcomS yb1.a.abs yb1.b.abs).length : Int) == 1) = true → ((0 ≤ (0 : Int) ∧ (0 : Int) < ((gcomS yb1.a.abs yb1.b.abs).length : Int)) ∧ (∀ q267, (gcomS yb1.a.abs yb1.b.abs)[(0 : Int).toNat]? = some q267 → (((q267 == 1) = true → (K yb1)) ∧ ((q267 == 1) = false → ((yb1.a.abs = ws (wv yb1.a.abs) ∧ (gcomS yb1.a.abs yb1.b.abs) = ws (wv (gcomS yb1.a.abs yb1.b.abs)) ∧ wv yb1.a.abs < 18446744073709551616 ∧ wv (gcomS yb1.a.abs yb1.b.abs) < 18446744073709551616 ∧ 0 < wv (gcomS yb1.a.abs yb1.b.abs)) ∧ ((gdivS yb1.a.abs (gcomS yb1.a.abs yb1.b.abs)).1.length ≤ 140737488355328 → ((gdivS yb1.a.abs (gcomS yb1.a.abs yb1.b.abs)).2.length ≤ 140737488355328 → ((yb1.b.abs = ws (wv yb1.b.abs) ∧ (gcomS yb1.a.abs yb1.b.abs) = ws (wv (gcomS yb1.a.abs yb1.b.abs)) ∧ wv yb1.b.abs < 18446744073709551616 ∧ wv (gcomS yb1.a.abs yb1.b.abs) < 18446744073709551616 ∧ 0 < wv (gcomS yb1.a.abs yb1.b.abs)) ∧ ((gdivS yb1.b.abs (gcomS yb1.a.abs yb1.b.abs)).1.length ≤ 140737488355328 → ((gdivS yb1.b.abs (gcomS yb1.a.abs yb1.b.abs)).2.length ≤ 140737488355328 → (K (⟨(⟨yb1.a.neg, (gdivS yb1.a.abs (gcomS yb1.a.abs yb1.b.abs)).1⟩ : BInt), (⟨yb1.b.neg, (gdivS yb1.b.abs (gcomS yb1.a.abs yb1.b.abs)).1⟩ : BInt)⟩ : BRat))))))))))))) ∧ ((((gcomS yb1.a.abs yb1.b.abs).length : Int) == 1) = false → ((yb1.a.abs = ws (wv yb1.a.abs) ∧ (gcomS yb1.a.abs yb1.b.abs) = ws (wv (gcomS yb1.a.abs yb1.b.abs)) ∧ wv yb1.a.abs < 18446744073709551616 ∧ wv (gcomS yb1.a.abs yb1.b.abs) < 18446744073709551616 ∧ 0 < wv (gcomS yb1.a.abs yb1.b.abs)) ∧ ((gdivS yb1.a.abs (gcomS yb1.a.abs yb1.b.abs)).1.length ≤ 140737488355328 → ((gdivS yb1.a.abs (gcomS yb1.a.abs yb1.b.abs)).2.length ≤ 140737488355328 → ((yb1.b.abs = ws (wv yb1.b.abs) ∧ (gcomS yb1.a.abs yb1.b.abs) = ws (wv (gcomS yb1.a.abs yb1.b.abs)) ∧ wv yb1.b.abs < 18446744073709551616 ∧ wv (gcomS yb1.a.abs yb1.b.abs) < 18446744073709551616 ∧ 0 < wv (gcomS yb1.a.abs yb1.b.abs)) ∧ ((gdivS yb1.b.abs (gcomS yb1.a.abs yb1.b.abs)).1.length ≤ 140737488355328 → ((gdivS yb1.b.abs (gcomS yb1.a.abs yb1.b.abs)).2.length ≤ 140737488355328 → (K (⟨(⟨yb1.a.neg, (gdivS yb1.a.abs (gcomS yb1.a.abs yb1.b.abs)).1⟩ : BInt), (⟨yb1.b.neg, (gdivS yb1.b.abs (gcomS yb1.a.abs yb1.b.abs)).1⟩ : BInt)⟩ : BRat)))))))))))))))) ∧ (((yb1.b.abs.length : Int) == 1) = false → ((yb1.a.abs = ws (wv yb1.a.abs) ∧ yb1.b.abs = ws (wv yb1.b.abs) ∧ wv yb1.a.abs < 18446744073709551616 ∧ wv yb1.b.abs < 18446744073709551616) ∧ (((((gcomS yb1.a.abs yb1.b.abs).length : Int) == 1) = true → ((0 ≤ (0 : Int) ∧ (0 : Int) < ((gcomS yb1.a.abs yb1.b.abs).length : Int)) ∧ (∀ q605, (gcomS yb1.a.abs yb1.b.abs)[(0 : Int).toNat]? = some q605 → (((q605 == 1) = true → (K yb1)) ∧ ((q605 == 1) = false → ((yb1.a.abs = ws (wv yb1.a.abs) ∧ (gcomS yb1.a.abs yb1.b.abs) = ws (wv (gcomS yb1.a.abs yb1.b.abs)) ∧ wv yb1.a.abs < 18446744073709551616 ∧ wv (gcomS yb1.a.abs yb1.b.abs) < 18446744073709551616 ∧ 0 < wv (gcomS yb1.a.abs yb1.b.abs)) ∧ ((gdivS yb1.a.abs (gcomS yb1.a.abs yb1.b.abs)).1.length ≤ 140737488355328 → ((gdivS yb1.a.abs (gcomS yb1.a.abs yb1.b.abs)).2.length ≤ 140737488355328 → ((yb1.b.abs = ws (wv yb1.b.abs) ∧ (gcomS yb1.a.abs yb1.b.abs) = ws (wv (gcomS yb1.a.abs yb1.b.abs)) ∧ wv yb1.b.abs < 18446744073709551616 ∧ wv (gcomS yb1.a.abs yb1.b.abs) < 18446744073709551616 ∧ 0 < wv (gcomS yb1.a.abs yb1.b.abs)) ∧ ((gdivS yb1.b.abs (gcomS yb1.a.abs yb1.b.abs)).1.length ≤ 140737488355328 → ((gdivS yb1.b.abs (gcomS yb1.a.abs yb1.b.abs)).2.length ≤ 140737488355328 → (K (⟨(⟨yb1.a.neg, (gdivS yb1.a.abs (gcomS yb1.a.abs yb1.b.abs)).1⟩ : BInt), (⟨yb1.b.neg, (gdivS yb1.b.abs (gcomS yb1.a.abs yb1.b.abs)).1⟩ : BInt)⟩ : BRat))))))))))))) ∧ ((((gcomS yb1.a.abs yb1.b.abs).length : Int) == 1) = false → ((yb1.a.abs = ws (wv yb1.a.abs) ∧ (gcomS yb1.a.abs yb1.b.abs) = ws (wv (gcomS yb1.a.abs yb1.b.abs)) ∧ wv yb1.a.abs < 18446744073709551616 ∧ wv (gcomS yb1.a.abs yb1.b.abs) < 18446744073709551616 ∧ 0 < wv (gcomS yb1.a.abs yb1.b.abs)) ∧ ((gdivS yb1.a.abs (gcomS yb1.a.abs yb1.b.abs)).1.length ≤ 140737488355328 → ((gdivS yb1.a.abs (gcomS yb1.a.abs yb1.b.abs)).2.length ≤ 140737488355328 → ((yb1.b.abs = ws (wv yb1.b.abs) ∧ (gcomS yb1.a.abs yb1.b.abs) = ws (wv (gcomS yb1.a.abs yb1.b.abs)) ∧ wv yb1.b.abs < 18446744073709551616 ∧ wv (gcomS yb1.a.abs yb1.b.abs) < 18446744073709551616 ∧ 0 < wv (gcomS yb1.a.abs yb1.b.abs)) ∧ ((gdivS yb1.b.abs (gcomS yb1.a.abs yb1.b.abs)).1.length ≤ 140737488355328 → ((gdivS yb1.b.abs (gcomS yb1.a.abs yb1.b.abs)).2.length ≤ 140737488355328 → (K (⟨(⟨yb1.a.neg, (gdivS yb1.a.abs (gcomS yb1.a.abs yb1.b.abs)).1⟩ : BInt), (⟨yb1.b.neg, (gdivS yb1.b.abs (gcomS yb1.a.abs yb1.b.abs)).1⟩ : BInt)⟩ : BRat))))))))))))))))))))
def rnum_vc (u0 : BRat) (K : BRat → Prop) : Prop := (u0.a.abs.length ≤ 140737488355328 → (u0.b.abs.length ≤ 140737488355328 → (K u0)))
def gi64_vc (u0 : BInt) (K : (Int × BInt) → Prop) : Prop := (u0.abs.length ≤ 140737488355328 → (((decide ((u0.abs.length : Int) > 0)) = true → ((0 ≤ (0 : Int) ∧ (0 : Int) < (u0.abs.length : Int)) ∧ (∀ q50, u0.abs[(0 : Int).toNat]? = some q50 → (((decide ((u0.abs.length : Int) > 1)) = true → ((0 ≤ (1 : Int) ∧ (1 : Int) < (u0.abs.length : Int)) ∧ (∀ q94, u0.abs[(1 : Int).toNat]? = some q94 → ((u0.neg = true → (K (w64 (0 - (w64 (bOr .u64 (wu64 q50) (bShl .u64 (wu64 q94) 32)))), u0))) ∧ (u0.neg = false → (K (w64 (bOr .u64 (wu64 q50) (bShl .u64 (wu64 q94) 32)), u0))))))) ∧ ((decide ((u0.abs.length : Int) > 1)) = false → ((u0.neg = true → (K (w64 (0 - (w64 (wu64 q50))), u0))) ∧ (u0.neg = false → (K (w64 (wu64 q50), u0))))))))) ∧ ((decide ((u0.abs.length : Int) > 0)) = false → (((decide ((u0.abs.length : Int) > 1)) = true → ((0 ≤ (1 : Int) ∧ (1 : Int) < (u0.abs.length : Int)) ∧ (∀ q226, u0.abs[(1 : Int).toNat]? = some q226 → ((u0.neg = true → (K (w64 (0 - (w64 (bOr .u64 0 (bShl .u64 (wu64 q226) 32)))), u0))) ∧ (u0.neg = false → (K (w64 (bOr .u64 0 (bShl .u64 (wu64 q226) 32)), u0))))))) ∧ ((decide ((u0.abs.length : Int) > 1)) = false → ((u0.neg = true → (K (0, u0))) ∧ (u0.neg = false → (K (0, u0)))))))))
def gi64A_vc (u0 : BRat) (K : (Int × BRat) → Prop) : Prop := (u0.a.abs.length ≤ 140737488355328 → (u0.b.abs.length ≤ 140737488355328 → (((decide ((u0.a.abs.length : Int) > 0)) = true → ((0 ≤ (0 : Int) ∧ (0 : Int) < (u0.a.abs.length : Int)) ∧ (∀ q54, u0.a.abs[(0 : Int).toNat]? = some q54 → (((decide ((u0.a.abs.length : Int) > 1)) = true → ((0 ≤ (1 : Int) ∧ (1 : Int) < (u0.a.abs.length : Int)) ∧ (∀ q98, u0.a.abs[(1 : Int).toNat]? = some q98 → ((u0.a.neg = true → (K (w64 (0 - (w64 (bOr .u64 (wu64 q54) (bShl .u64 (wu64 q98) 32)))), u0))) ∧ (u0.a.neg = false → (K (w64 (bOr .u64 (wu64 q54) (bShl .u64 (wu64 q98) 32)), u0))))))) ∧ ((decide ((u0.a.abs.length : Int) > 1)) = false → ((u0.a.neg = true → (K (w64 (0 - (w64 (wu64 q54))), u0))) ∧ (u0.a.neg = false → (K (w64 (wu64 q54), u0))))))))) ∧ ((decide ((u0.a.abs.length : Int) > 0)) = false → (((decide ((u0.a.abs.length : Int) > 1)) = true → ((0 ≤ (1 : Int) ∧ (1 : Int) < (u0.a.abs.length : Int)) ∧ (∀ q230, u0.a.abs[(1 : Int).toNat]? = some q230 → ((u0.a.neg = true → (K (w64 (0 - (w64 (bOr .u64 0 (bShl .u64 (wu64 q230) 32)))), u0))) ∧ (u0.a.neg = false → (K (w64 (bOr .u64 0 (bShl .u64 (wu64 q230) 32)), u0))))))) ∧ ((decide ((u0.a.abs.length : Int) > 1)) = false → ((u0.a.neg = true → (K (0, u0))) ∧ (u0.a.neg = false → (K (0, u0))))))))))
def gsubI_vc (u0 : BInt) (u1 : BInt) (u2 : BInt) (K : (BInt × BInt × BInt) → Prop) : Prop := (u0.abs.length ≤ 140737488355328 → (u1.abs.length ≤ 140737488355328 → (u2.abs.length ≤ 140737488355328 → ((u1.abs = ws (wv u1.abs) ∧ u2.abs = ws (wv u2.abs) ∧ wv u1.abs < 18446744073709551616 ∧ wv u2.abs < 18446744073709551616) ∧ (K ((ggive u0 (gsumS u1.neg u1.abs (!u2.neg) u2.abs).1 (gsumS u1.neg u1.abs (!u2.neg) u2.abs).2), u1, u2))))))
def gcmpA_vc (u0 : BRat) (u1 : BInt) (K : (Int × BRat × BInt) → Prop) : Prop := (u0.a.abs.length ≤ 140737488355328 → (u0.b.abs.length ≤ 140737488355328 → (u1.abs.length ≤ 140737488355328 → (((u0.a.neg != u1.neg) = true → ((u0.a.neg = true → (K (-1, u0, u1))) ∧ (u0.a.neg = false → (K (1, u0, u1))))) ∧ ((u0.a.neg != u1.neg) = false → ((u0.a.abs.length ≤ 1000 ∧ u1.abs.length ≤ 1000 ∧ u0.a.abs = ws (wv u0.a.abs) ∧ u1.abs = ws (wv u1.abs)) ∧ ((u0.a.neg = true → (K (w64 (0 - (gcmpS u0.a.abs u1.abs)), u0, u1))) ∧ (u0.a.neg = false → (K ((gcmpS u0.a.abs u1.abs), u0, u1))))))))))
def gcmpB_vc (u0 : BRat) (u1 : BInt) (K : (Int × BRat × BInt) → Prop) : Prop := (u0.a.abs.length ≤ 140737488355328 → (u0.b.abs.length ≤ 140737488355328 → (u1.abs.length ≤ 140737488355328 → (((u0.b.neg != u1.neg) = true → ((u0.b.neg = true → (K (-1, u0, u1))) ∧ (u0.b.neg = false → (K (1, u0, u1))))) ∧ ((u0.b.neg != u1.neg) = false → ((u0.b.abs.length ≤ 1000 ∧ u1.abs.length ≤ 1000 ∧ u0.b.abs = ws (wv u0.b.abs) ∧ u1.abs = ws (wv u1.abs)) ∧ ((u0.b.neg = true → (K (w64 (0 - (gcmpS u0.b.abs u1.abs)), u0, u1))) ∧ (u0.b.neg = false → (K ((gcmpS u0.b.abs u1.abs), u0, u1))))))))))
def glshI_vc (u0 : BInt) (u1 : BInt) (u2 : Int) (K : (BInt × BInt) → Prop) : Prop := (u0.abs.length ≤ 140737488355328 → (u1.abs.length ≤ 140737488355328 → ((wok u1.abs ∧ u1.abs.length ≤ 1000 ∧ 0 ≤ u2 ∧ u2 ≤ 100000) ∧ (K ((ggive u0 u1.neg (gleftS u1.abs u2)), u1)))))
def grshI_vc (u0 : BInt) (u2 : Int) (K : BInt → Prop) : Prop := (u0.abs.length ≤ 140737488355328 → ((u0.neg = false) ∧ ((wok u0.abs ∧ u0.abs.length ≤ 1000 ∧ 0 ≤ u2 ∧ u2 ≤ 31) ∧ ((grightS u0.abs u2).length ≤ 140737488355328 → (∀ r51, (ggive u0 false (grightS u0.abs u2)) = r51 → (r51.abs.length ≤ 140737488355328 → (K r51)))))))
def gnegI_vc (u0 : BInt) (u1 : BInt) (K : (BInt × BInt) → Prop) : Prop := (u0.abs.length ≤ 140737488355328 → (u1.abs.length ≤ 140737488355328 → ((u1.abs.length ≤ 1000000) ∧ (K ((ggive u0 (!u1.neg) (gtwinS u1.abs)), u1)))))
theorem give_bz (z : BInt) (n : Bool) (v : Int) (h : n = decide (v < 0) ∨ v = 0) : ggive z n (ws v.natAbs) = bz v := by
 unfold ggive bz
 by_cases hv : v = 0
 · subst hv
   have e : ws (0 : Int).natAbs = [] := ws_zero
   rw [e]
   simp
 · have e : decide (((ws v.natAbs).length : Int) > 0) = true := by
     rw [decide_eq_true_eq]
     have : ¬ (ws v.natAbs).length = 0 := fun hc => by rw [ws_len0] at hc; omega
     omega
   rw [e, Bool.and_true]
   rcases h with h | h
   · rw [h]
   · exact absurd h hv
theorem mul_core {x y : BInt} (hx : bk x) (hy : bk y) (z : BInt) : ggive z (x.neg != y.neg) (gmulS x.abs y.abs) = bz (iv x * iv y) := by
 obtain ⟨_, x1, _, x2⟩ := bk_abs hx
 obtain ⟨_, y1, _, y2⟩ := bk_abs hy
 unfold gmulS
 rw [x1, y1, x2, y2, ← Int.natAbs_mul]
 generalize iv x = X
 generalize iv y = Y
 refine give_bz z _ _ ?_
 rcases Int.lt_trichotomy X 0 with h1 | h1 | h1
 · rcases Int.lt_trichotomy Y 0 with h2 | h2 | h2
   · have := Int.mul_pos_of_neg_of_neg h1 h2
     left
     rw [decide_eq_true h1, decide_eq_true h2, decide_eq_false (by omega)]
     rfl
   · right
     rw [h2, Int.mul_zero]
   · have := Int.mul_neg_of_neg_of_pos h1 h2
     left
     rw [decide_eq_true h1, decide_eq_false (by omega), decide_eq_true this]
     rfl
 · right
   rw [h1, Int.zero_mul]
 · rcases Int.lt_trichotomy Y 0 with h2 | h2 | h2
   · have := Int.mul_neg_of_pos_of_neg h1 h2
     left
     rw [decide_eq_false (by omega), decide_eq_true h2, decide_eq_true this]
     rfl
   · right
     rw [h2, Int.mul_zero]
   · have := Int.mul_pos h1 h2
     left
     rw [decide_eq_false (by omega), decide_eq_false (by omega), decide_eq_false (by omega)]
     rfl
theorem bk_len {x : BInt} (hx : bk x) : wok x.abs ∧ x.abs.length ≤ 2 := by
 obtain ⟨x0, _, x2, _⟩ := bk_abs hx
 exact ⟨can_wok x0, can_two x0 x2⟩
theorem sum_core {x y : BInt} (hx : bk x) (hy : bk y) (z : BInt) : ggive z (gsumS x.neg x.abs y.neg y.abs).1 (gsumS x.neg x.abs y.neg y.abs).2 = bz (iv x + iv y) := by
 obtain ⟨_, x1, _, x2⟩ := bk_abs hx
 obtain ⟨_, y1, _, y2⟩ := bk_abs hy
 unfold gsumS
 rw [x1, y1, x2, y2]
 generalize iv x = X
 generalize iv y = Y
 split
 · rename_i h
   have h : (X < 0 ↔ Y < 0) := by
    have h := congrArg (· = true) h
    simpa using h
   have e : X.natAbs + Y.natAbs = (X + Y).natAbs := by omega
   dsimp only
   rw [e]
   refine give_bz z _ _ ?_
   by_cases h0 : X + Y = 0
   · exact .inr h0
   · left
     exact decide_eq_decide.2 (by omega)
 · rename_i h
   have h : ¬ (X < 0 ↔ Y < 0) := fun hc => h (decide_eq_decide.2 hc)
   split
   · have e : X.natAbs - Y.natAbs = (X + Y).natAbs := by omega
     dsimp only
     rw [e]
     refine give_bz z _ _ ?_
     by_cases h0 : X + Y = 0
     · exact .inr h0
     · left
       exact decide_eq_decide.2 (by omega)
   · have e : Y.natAbs - X.natAbs = (X + Y).natAbs := by omega
     dsimp only
     rw [e]
     refine give_bz z _ _ ?_
     by_cases h0 : X + Y = 0
     · exact .inr h0
     · left
       exact decide_eq_decide.2 (by omega)
def gmulABS (z : BInt) (x y : BRat) : BInt × BRat × BRat := (bz (iv x.a * iv y.b), x, y)
theorem gmulAB_ok (z : BInt) (x y : BRat) (h : bk x.a ∧ bk y.b) : gmulAB_vc z x y (fun r => r = gmulABS z x y) := by
 intro _ _ _ _ _
 obtain ⟨a1, a2⟩ := bk_len h.1
 obtain ⟨b1, b2⟩ := bk_len h.2
 refine ⟨⟨a1, b1, by omega, by omega⟩, ?_⟩
 unfold gmulABS
 rw [mul_core h.1 h.2]
def gmulBAS (z : BInt) (x y : BRat) : BInt × BRat × BRat := (bz (iv x.b * iv y.a), x, y)
theorem gmulBA_ok (z : BInt) (x y : BRat) (h : bk x.b ∧ bk y.a) : gmulBA_vc z x y (fun r => r = gmulBAS z x y) := by
 intro _ _ _ _ _
 obtain ⟨a1, a2⟩ := bk_len h.1
 obtain ⟨b1, b2⟩ := bk_len h.2
 refine ⟨⟨a1, b1, by omega, by omega⟩, ?_⟩
 unfold gmulBAS
 rw [mul_core h.1 h.2]
def gmulAAS (z : BInt) (x y : BRat) : BInt × BRat × BRat := (bz (iv x.a * iv y.a), x, y)
theorem gmulAA_ok (z : BInt) (x y : BRat) (h : bk x.a ∧ bk y.a) : gmulAA_vc z x y (fun r => r = gmulAAS z x y) := by
 intro _ _ _ _ _
 obtain ⟨a1, a2⟩ := bk_len h.1
 obtain ⟨b1, b2⟩ := bk_len h.2
 refine ⟨⟨a1, b1, by omega, by omega⟩, ?_⟩
 unfold gmulAAS
 rw [mul_core h.1 h.2]
def gmulBBS (z : BInt) (x y : BRat) : BInt × BRat × BRat := (bz (iv x.b * iv y.b), x, y)
theorem gmulBB_ok (z : BInt) (x y : BRat) (h : bk x.b ∧ bk y.b) : gmulBB_vc z x y (fun r => r = gmulBBS z x y) := by
 intro _ _ _ _ _
 obtain ⟨a1, a2⟩ := bk_len h.1
 obtain ⟨b1, b2⟩ := bk_len h.2
 refine ⟨⟨a1, b1, by omega, by omega⟩, ?_⟩
 unfold gmulBBS
 rw [mul_core h.1 h.2]
def gaddIS (z x y : BInt) : BInt × BInt × BInt := (bz (iv x + iv y), x, y)
theorem gaddI_ok (z x y : BInt) (h : bk x ∧ bk y) : gaddI_vc z x y (fun r => r = gaddIS z x y) := by
 intro _ _ _
 obtain ⟨a0, _, a2, _⟩ := bk_abs h.1
 obtain ⟨b0, _, b2, _⟩ := bk_abs h.2
 refine ⟨⟨a0, b0, a2, b2⟩, ?_⟩
 unfold gaddIS
 rw [sum_core h.1 h.2]
def rnumS (r : BRat) : BRat := r
theorem rnum_ok (r : BRat) : rnum_vc r (fun x => x = rnumS r) := fun _ _ => rfl
def bs (x : BInt) : Prop := x = bz (iv x) ∧ (iv x).natAbs < 9223372036854775808
def gi64S (x : BInt) : Int × BInt := (iv x, x)
def gi64AS (x : BRat) : Int × BRat := (iv x.a, x)
theorem word2 (n m : Nat) (hn : n < 4294967296) (hm : m < 4294967296) : bOr .u64 (n : Int) (bShl .u64 (m : Int) 32) = ((n + 4294967296 * m : Nat) : Int) := by
 have e1 : bShl .u64 (m : Int) 32 = ((m * 2 ^ 32 : Nat) : Int) := shlu m 32 (by omega) (by omega)
 rw [e1, bor64 n _ (by omega) (by omega), or_add (r := 32) hn rfl]
 congr 1
 omega
theorem i64_core (neg : Bool) (l : List Int) (n : Nat) (hl : l = ws n) (hn : n < 9223372036854775808) {A : Int → Prop} (hA : A (if neg = true then -(n : Int) else (n : Int))) : ((((decide ((l.length : Int) > 0)) = true → ((0 ≤ (0 : Int) ∧ (0 : Int) < (l.length : Int)) ∧ (∀ q50, l[(0 : Int).toNat]? = some q50 → (((decide ((l.length : Int) > 1)) = true → ((0 ≤ (1 : Int) ∧ (1 : Int) < (l.length : Int)) ∧ (∀ q95, l[(1 : Int).toNat]? = some q95 → ((neg = true → (A (w64 (0 - (w64 (bOr .u64 (wu64 q50) (bShl .u64 (wu64 q95) 32))))))) ∧ (neg = false → (A (w64 (bOr .u64 (wu64 q50) (bShl .u64 (wu64 q95) 32))))))))) ∧ ((decide ((l.length : Int) > 1)) = false → ((neg = true → (A (w64 (0 - (w64 (wu64 q50)))))) ∧ (neg = false → (A (w64 (wu64 q50)))))))))) ∧ ((decide ((l.length : Int) > 0)) = false → (((decide ((l.length : Int) > 1)) = true → ((0 ≤ (1 : Int) ∧ (1 : Int) < (l.length : Int)) ∧ (∀ q227, l[(1 : Int).toNat]? = some q227 → ((neg = true → (A (w64 (0 - (w64 (bOr .u64 0 (bShl .u64 (wu64 q227) 32))))))) ∧ (neg = false → (A (w64 (bOr .u64 0 (bShl .u64 (wu64 q227) 32))))))))) ∧ ((decide ((l.length : Int) > 1)) = false → ((neg = true → (A (0))) ∧ (neg = false → (A (0))))))))) := by
 by_cases h0 : n = 0
 · subst h0
   rw [ws_zero] at hl
   subst hl
   refine ⟨fun h => (by cases h), fun _ => ⟨fun h => (by cases h), fun _ => ⟨fun h => ?_, fun h => ?_⟩⟩⟩
   · rw [h] at hA
     exact hA
   · rw [h] at hA
     exact hA
 · rw [ws_pos h0] at hl
   by_cases h1 : n / 4294967296 = 0
   · rw [h1, ws_zero] at hl
     subst hl
     refine ⟨fun _ => ⟨by (simp <;> omega), fun q hq => ⟨fun h => absurd h (by simp), fun _ => ?_⟩⟩, fun h => absurd h (by simp)⟩
     cases hq
     have e : n % 4294967296 = n := by omega
     rw [e, wu64_eq (n : Int) (by omega), w64_eq (n : Int) (by omega), w64_eq (0 - (n : Int)) (by omega)]
     refine ⟨fun h => ?_, fun h => ?_⟩
     · rw [h, if_pos rfl] at hA
       rw [Int.zero_sub]
       exact hA
     · rw [h] at hA
       exact hA
   · have h2 : n / 4294967296 / 4294967296 = 0 := by omega
     rw [ws_pos h1, h2, ws_zero] at hl
     subst hl
     refine ⟨fun _ => ⟨by (simp <;> omega), fun q hq => ⟨fun _ => ⟨by (simp <;> omega), fun p hp => ?_⟩, fun h => absurd h (by simp)⟩⟩, fun h => absurd h (by simp <;> omega)⟩
     cases hq
     cases hp
     have e : n % 4294967296 + 4294967296 * (n / 4294967296 % 4294967296) = n := by omega
     rw [wu64_eq _ (by omega), wu64_eq _ (by omega), word2 _ _ (Nat.mod_lt _ (by decide)) (Nat.mod_lt _ (by decide)), e, w64_eq (n : Int) (by omega), w64_eq (0 - (n : Int)) (by omega)]
     refine ⟨fun h => ?_, fun h => ?_⟩
     · rw [h, if_pos rfl] at hA
       rw [Int.zero_sub]
       exact hA
     · rw [h] at hA
       exact hA
theorem bs_bk {x : BInt} (h : bs x) : bk x := ⟨h.1, Nat.lt_trans h.2 (by decide)⟩
theorem gi64_ok (x : BInt) (h : bs x) : gi64_vc x (fun r => r = gi64S x) := by
 intro _
 obtain ⟨a0, a1, _, _⟩ := bk_abs (bs_bk h)
 have h2 := h.2
 rw [← a1] at h2
 exact i64_core x.neg x.abs (wv x.abs) a0 h2 (A := fun v => (v, x) = gi64S x) rfl
theorem gi64A_ok (x : BRat) (h : bs x.a) : gi64A_vc x (fun r => r = gi64AS x) := by
 intro _ _
 obtain ⟨a0, a1, _, _⟩ := bk_abs (bs_bk h)
 have h2 := h.2
 rw [← a1] at h2
 exact i64_core x.a.neg x.a.abs (wv x.a.abs) a0 h2 (A := fun v => (v, x) = gi64AS x) rfl
def nrm0 (a b : Int) : BRat := ⟨bz (a.tdiv (Int.gcd a b)), bz (b.tdiv (Int.gcd a b))⟩
def nrm (a b : Int) : BRat := if b < 0 then nrm0 (-a) (-b) else nrm0 a b
theorem tdiv_abs_sign {a : Int} {g : Nat} (hg : (g : Int) ∣ a) (h0 : g ≠ 0) : (a.tdiv g).natAbs = a.natAbs / g ∧ (a.tdiv g < 0 ↔ a < 0) := by
 obtain ⟨c, rfl⟩ := hg
 have hgp : 0 < (g : Int) := by omega
 rw [Int.mul_tdiv_cancel_left _ (by omega), Int.natAbs_mul, Int.natAbs_natCast, Nat.mul_div_cancel_left _ (by omega)]
 refine ⟨rfl, fun h => Int.mul_neg_of_pos_of_neg hgp h, fun h => ?_⟩
 rcases Int.lt_or_le c 0 with hc | hc
 · exact hc
 · have := Int.mul_nonneg (Int.le_of_lt hgp) hc
   omega
theorem norm_rest (r : BRat) (ha : bk r.a) (hb : bk r.b) (h0 : 0 < iv r.b) {A : BRat → Prop} (hA : A (nrm0 (iv r.a) (iv r.b))) : (((((r.a.abs.length : Int) == 0) = true → ((0 ≤ (1 : Int) ∧ (1 : Int) ≤ 18446744073709551615) ∧ ((gwordsS 1).length ≤ 140737488355328 → (∀ r994, (ggiveB r false (gwordsS 1)) = r994 → (r994.a.abs.length ≤ 140737488355328 → (r994.b.abs.length ≤ 140737488355328 → (A r994))))))) ∧ (((r.a.abs.length : Int) == 0) = false → ((((r.b.abs.length : Int) == 1) = true → ((0 ≤ (0 : Int) ∧ (0 : Int) < (r.b.abs.length : Int)) ∧ (∀ q1056, r.b.abs[(0 : Int).toNat]? = some q1056 → (((q1056 == 1) = true → (A r)) ∧ ((q1056 == 1) = false → ((r.a.abs = ws (wv r.a.abs) ∧ r.b.abs = ws (wv r.b.abs) ∧ wv r.a.abs < 18446744073709551616 ∧ wv r.b.abs < 18446744073709551616) ∧ (((((gcomS r.a.abs r.b.abs).length : Int) == 1) = true → ((0 ≤ (0 : Int) ∧ (0 : Int) < ((gcomS r.a.abs r.b.abs).length : Int)) ∧ (∀ q1137, (gcomS r.a.abs r.b.abs)[(0 : Int).toNat]? = some q1137 → (((q1137 == 1) = true → (A r)) ∧ ((q1137 == 1) = false → ((r.a.abs = ws (wv r.a.abs) ∧ (gcomS r.a.abs r.b.abs) = ws (wv (gcomS r.a.abs r.b.abs)) ∧ wv r.a.abs < 18446744073709551616 ∧ wv (gcomS r.a.abs r.b.abs) < 18446744073709551616 ∧ 0 < wv (gcomS r.a.abs r.b.abs)) ∧ ((gdivS r.a.abs (gcomS r.a.abs r.b.abs)).1.length ≤ 140737488355328 → ((gdivS r.a.abs (gcomS r.a.abs r.b.abs)).2.length ≤ 140737488355328 → ((r.b.abs = ws (wv r.b.abs) ∧ (gcomS r.a.abs r.b.abs) = ws (wv (gcomS r.a.abs r.b.abs)) ∧ wv r.b.abs < 18446744073709551616 ∧ wv (gcomS r.a.abs r.b.abs) < 18446744073709551616 ∧ 0 < wv (gcomS r.a.abs r.b.abs)) ∧ ((gdivS r.b.abs (gcomS r.a.abs r.b.abs)).1.length ≤ 140737488355328 → ((gdivS r.b.abs (gcomS r.a.abs r.b.abs)).2.length ≤ 140737488355328 → (A (⟨(⟨r.a.neg, (gdivS r.a.abs (gcomS r.a.abs r.b.abs)).1⟩ : BInt), (⟨r.b.neg, (gdivS r.b.abs (gcomS r.a.abs r.b.abs)).1⟩ : BInt)⟩ : BRat))))))))))))) ∧ ((((gcomS r.a.abs r.b.abs).length : Int) == 1) = false → ((r.a.abs = ws (wv r.a.abs) ∧ (gcomS r.a.abs r.b.abs) = ws (wv (gcomS r.a.abs r.b.abs)) ∧ wv r.a.abs < 18446744073709551616 ∧ wv (gcomS r.a.abs r.b.abs) < 18446744073709551616 ∧ 0 < wv (gcomS r.a.abs r.b.abs)) ∧ ((gdivS r.a.abs (gcomS r.a.abs r.b.abs)).1.length ≤ 140737488355328 → ((gdivS r.a.abs (gcomS r.a.abs r.b.abs)).2.length ≤ 140737488355328 → ((r.b.abs = ws (wv r.b.abs) ∧ (gcomS r.a.abs r.b.abs) = ws (wv (gcomS r.a.abs r.b.abs)) ∧ wv r.b.abs < 18446744073709551616 ∧ wv (gcomS r.a.abs r.b.abs) < 18446744073709551616 ∧ 0 < wv (gcomS r.a.abs r.b.abs)) ∧ ((gdivS r.b.abs (gcomS r.a.abs r.b.abs)).1.length ≤ 140737488355328 → ((gdivS r.b.abs (gcomS r.a.abs r.b.abs)).2.length ≤ 140737488355328 → (A (⟨(⟨r.a.neg, (gdivS r.a.abs (gcomS r.a.abs r.b.abs)).1⟩ : BInt), (⟨r.b.neg, (gdivS r.b.abs (gcomS r.a.abs r.b.abs)).1⟩ : BInt)⟩ : BRat)))))))))))))))) ∧ (((r.b.abs.length : Int) == 1) = false → ((r.a.abs = ws (wv r.a.abs) ∧ r.b.abs = ws (wv r.b.abs) ∧ wv r.a.abs < 18446744073709551616 ∧ wv r.b.abs < 18446744073709551616) ∧ (((((gcomS r.a.abs r.b.abs).length : Int) == 1) = true → ((0 ≤ (0 : Int) ∧ (0 : Int) < ((gcomS r.a.abs r.b.abs).length : Int)) ∧ (∀ q1479, (gcomS r.a.abs r.b.abs)[(0 : Int).toNat]? = some q1479 → (((q1479 == 1) = true → (A r)) ∧ ((q1479 == 1) = false → ((r.a.abs = ws (wv r.a.abs) ∧ (gcomS r.a.abs r.b.abs) = ws (wv (gcomS r.a.abs r.b.abs)) ∧ wv r.a.abs < 18446744073709551616 ∧ wv (gcomS r.a.abs r.b.abs) < 18446744073709551616 ∧ 0 < wv (gcomS r.a.abs r.b.abs)) ∧ ((gdivS r.a.abs (gcomS r.a.abs r.b.abs)).1.length ≤ 140737488355328 → ((gdivS r.a.abs (gcomS r.a.abs r.b.abs)).2.length ≤ 140737488355328 → ((r.b.abs = ws (wv r.b.abs) ∧ (gcomS r.a.abs r.b.abs) = ws (wv (gcomS r.a.abs r.b.abs)) ∧ wv r.b.abs < 18446744073709551616 ∧ wv (gcomS r.a.abs r.b.abs) < 18446744073709551616 ∧ 0 < wv (gcomS r.a.abs r.b.abs)) ∧ ((gdivS r.b.abs (gcomS r.a.abs r.b.abs)).1.length ≤ 140737488355328 → ((gdivS r.b.abs (gcomS r.a.abs r.b.abs)).2.length ≤ 140737488355328 → (A (⟨(⟨r.a.neg, (gdivS r.a.abs (gcomS r.a.abs r.b.abs)).1⟩ : BInt), (⟨r.b.neg, (gdivS r.b.abs (gcomS r.a.abs r.b.abs)).1⟩ : BInt)⟩ : BRat))))))))))))) ∧ ((((gcomS r.a.abs r.b.abs).length : Int) == 1) = false → ((r.a.abs = ws (wv r.a.abs) ∧ (gcomS r.a.abs r.b.abs) = ws (wv (gcomS r.a.abs r.b.abs)) ∧ wv r.a.abs < 18446744073709551616 ∧ wv (gcomS r.a.abs r.b.abs) < 18446744073709551616 ∧ 0 < wv (gcomS r.a.abs r.b.abs)) ∧ ((gdivS r.a.abs (gcomS r.a.abs r.b.abs)).1.length ≤ 140737488355328 → ((gdivS r.a.abs (gcomS r.a.abs r.b.abs)).2.length ≤ 140737488355328 → ((r.b.abs = ws (wv r.b.abs) ∧ (gcomS r.a.abs r.b.abs) = ws (wv (gcomS r.a.abs r.b.abs)) ∧ wv r.b.abs < 18446744073709551616 ∧ wv (gcomS r.a.abs r.b.abs) < 18446744073709551616 ∧ 0 < wv (gcomS r.a.abs r.b.abs)) ∧ ((gdivS r.b.abs (gcomS r.a.abs r.b.abs)).1.length ≤ 140737488355328 → ((gdivS r.b.abs (gcomS r.a.abs r.b.abs)).2.length ≤ 140737488355328 → (A (⟨(⟨r.a.neg, (gdivS r.a.abs (gcomS r.a.abs r.b.abs)).1⟩ : BInt), (⟨r.b.neg, (gdivS r.b.abs (gcomS r.a.abs r.b.abs)).1⟩ : BInt)⟩ : BRat)))))))))))))))) := by
 obtain ⟨a0, a1, a2, a3⟩ := bk_abs ha
 obtain ⟨b0, b1, b2, b3⟩ := bk_abs hb
 have hbn : r.b.neg = false := by rw [b3]; exact decide_eq_false (by omega)
 have hg0 : Nat.gcd (wv r.a.abs) (wv r.b.abs) ≠ 0 := by
  have : 0 < Nat.gcd (wv r.a.abs) (wv r.b.abs) := Nat.gcd_pos_of_pos_right _ (by omega)
  omega
 have hG : Int.gcd (iv r.a) (iv r.b) = Nat.gcd (wv r.a.abs) (wv r.b.abs) := by rw [a1, b1]; rfl
 have hone : (gwordsS 1) = [1] := by decide +kernel
 have hdiv : (⟨(⟨r.a.neg, (gdivS r.a.abs (gcomS r.a.abs r.b.abs)).1⟩ : BInt), (⟨r.b.neg, (gdivS r.b.abs (gcomS r.a.abs r.b.abs)).1⟩ : BInt)⟩ : BRat) = nrm0 (iv r.a) (iv r.b) := by
  unfold nrm0 gdivS gcomS
  rw [hG]
  dsimp only
  rw [wv_ws]
  obtain ⟨p1, p2⟩ := tdiv_abs_sign (a := iv r.a) (g := Nat.gcd (wv r.a.abs) (wv r.b.abs)) (by rw [← hG]; exact Int.gcd_dvd_left ..) hg0
  obtain ⟨q1, q2⟩ := tdiv_abs_sign (a := iv r.b) (g := Nat.gcd (wv r.a.abs) (wv r.b.abs)) (by rw [← hG]; exact Int.gcd_dvd_right ..) hg0
  unfold bz
  rw [p1, q1, ← a1, ← b1, a3, b3]
  congr 2
  · exact decide_eq_decide.2 p2.symm
  · exact decide_eq_decide.2 q2.symm
 have hsame : Nat.gcd (wv r.a.abs) (wv r.b.abs) = 1 → r = nrm0 (iv r.a) (iv r.b) := by
  intro h
  unfold nrm0
  rw [hG, h]
  show r = ⟨bz ((iv r.a).tdiv 1), bz ((iv r.b).tdiv 1)⟩
  rw [Int.tdiv_one, Int.tdiv_one, ← ha.1, ← hb.1]
 have hcom : gcomS r.a.abs r.b.abs = ws (wv (gcomS r.a.abs r.b.abs)) := by unfold gcomS; rw [wv_ws]
 have hcv : wv (gcomS r.a.abs r.b.abs) = Nat.gcd (wv r.a.abs) (wv r.b.abs) := by unfold gcomS; rw [wv_ws]
 have hcl : wv (gcomS r.a.abs r.b.abs) < 18446744073709551616 := by
  have := Nat.gcd_le_right (wv r.a.abs) (show 0 < wv r.b.abs by omega)
  omega
 have hlen : ∀ q, ((gcomS r.a.abs r.b.abs).length : Int) = 1 → (gcomS r.a.abs r.b.abs)[(0 : Int).toNat]? = some q → q = 1 → Nat.gcd (wv r.a.abs) (wv r.b.abs) = 1 := by
  intro q h1 h2 h3
  subst h3
  rw [← hcv]
  generalize gcomS r.a.abs r.b.abs = l at *
  match l, h1, h2 with
  | [x], _, h2 =>
   cases h2
   rfl
  | [], h1, _ => simp at h1
  | _ :: _ :: _, h1, _ => simp at h1; omega
 have hpre : (r.a.abs = ws (wv r.a.abs) ∧ r.b.abs = ws (wv r.b.abs) ∧ wv r.a.abs < 18446744073709551616 ∧ wv r.b.abs < 18446744073709551616) := ⟨a0, b0, a2, b2⟩
 have hpa : (r.a.abs = ws (wv r.a.abs) ∧ (gcomS r.a.abs r.b.abs) = ws (wv (gcomS r.a.abs r.b.abs)) ∧ wv r.a.abs < 18446744073709551616 ∧ wv (gcomS r.a.abs r.b.abs) < 18446744073709551616 ∧ 0 < wv (gcomS r.a.abs r.b.abs)) := ⟨a0, hcom, a2, hcl, by omega⟩
 have hpb : (r.b.abs = ws (wv r.b.abs) ∧ (gcomS r.a.abs r.b.abs) = ws (wv (gcomS r.a.abs r.b.abs)) ∧ wv r.b.abs < 18446744073709551616 ∧ wv (gcomS r.a.abs r.b.abs) < 18446744073709551616 ∧ 0 < wv (gcomS r.a.abs r.b.abs)) := ⟨b0, hcom, b2, hcl, by omega⟩
 have hlen1 : ∀ l : List Int, ((l.length : Int) == 1) = true → (0 : Int) ≤ 0 ∧ (0 : Int) < (l.length : Int) := by
  intro l h
  have h : (l.length : Int) = 1 := by simpa using h
  omega
 have hlast : ((gdivS r.a.abs (gcomS r.a.abs r.b.abs)).1.length ≤ 140737488355328 → (gdivS r.a.abs (gcomS r.a.abs r.b.abs)).2.length ≤ 140737488355328 → True) := fun _ _ => trivial
 refine ⟨fun h1 => ⟨by omega, fun _ x hx _ _ => ?_⟩, fun h1 => ⟨fun h2 => ⟨hlen1 _ h2, fun q hq => ⟨fun h3 => ?_, fun h3 => ⟨hpre, fun h4 => ⟨hlen1 _ h4, fun p hp => ⟨fun h5 => ?_, fun h5 => ⟨hpa, fun _ _ => ⟨hpb, fun _ _ => ?_⟩⟩⟩⟩, fun h4 => ⟨hpa, fun _ _ => ⟨hpb, fun _ _ => ?_⟩⟩⟩⟩⟩, fun h2 => ⟨hpre, fun h4 => ⟨hlen1 _ h4, fun p hp => ⟨fun h5 => ?_, fun h5 => ⟨hpa, fun _ _ => ⟨hpb, fun _ _ => ?_⟩⟩⟩⟩, fun h4 => ⟨hpa, fun _ _ => ⟨hpb, fun _ _ => ?_⟩⟩⟩⟩⟩
 · subst hx
   have hz : r.a.abs.length = 0 := by have : (r.a.abs.length : Int) = 0 := by simpa using h1
                                      omega
   have hz0 : wv r.a.abs = 0 := by
    rw [List.length_eq_zero_iff] at hz
    rw [hz]
    rfl
   have hiv : iv r.a = 0 := by omega
   have e : ggiveB r false (gwordsS 1) = nrm0 (iv r.a) (iv r.b) := by
    unfold nrm0 ggiveB
    rw [hG, hz0, Nat.gcd_zero_left, hiv, Int.zero_tdiv, hone, b1]
    have e1 : ((iv r.b).natAbs : Int) = iv r.b := by omega
    rw [e1, Int.tdiv_self (by omega), ← hiv, ← ha.1]
    have e3 : bz 1 = ⟨false, [1]⟩ := by decide +kernel
    rw [e3]
    rfl
   rw [e]
   exact hA
 · have h3 : q = 1 := by simpa using h3
   subst h3
   have hb1 : wv r.b.abs = 1 := by
    have h2 : (r.b.abs.length : Int) = 1 := by simpa using h2
    generalize r.b.abs = l at h2 hq
    match l, h2, hq with
    | [x], _, hq =>
     cases hq
     rfl
    | [], h2, _ => simp at h2
    | _ :: _ :: _, h2, _ => simp at h2; omega
   rw [hsame (by rw [hb1, Nat.gcd_one_right])]
   have e := hsame (by rw [hb1, Nat.gcd_one_right])
   rw [← e]
   rw [← e] at hA
   exact hA
 · have e := hsame (hlen p (by simpa using h4) hp (by simpa using h5))
   rw [← e] at hA
   exact hA
 · rw [hdiv]
   exact hA
 · rw [hdiv]
   exact hA
 · have e := hsame (hlen p (by simpa using h4) hp (by simpa using h5))
   rw [← e] at hA
   exact hA
 · rw [hdiv]
   exact hA
 · rw [hdiv]
   exact hA
theorem neg_give {x : BInt} (h : bk x) : (⟨(!x.neg) && decide ((x.abs.length : Int) > 0), x.abs⟩ : BInt) = bz (-(iv x)) := by
 obtain ⟨x0, x1, _, x3⟩ := bk_abs h
 have := give_bz ⟨false, []⟩ (!x.neg) (-(iv x)) (by
  rw [x3]
  by_cases h0 : iv x = 0
  · right
    omega
  · left
    by_cases h1 : iv x < 0
    · rw [decide_eq_true h1, decide_eq_false (by omega)]
      rfl
    · rw [decide_eq_false h1, decide_eq_true (by omega)]
      rfl)
 rw [Int.natAbs_neg, ← x1, ← x0] at this
 exact this
def rnormS (r : BRat) : BRat := nrm (iv r.a) (iv r.b)
theorem rnorm_ok (r : BRat) (h : bk r.a ∧ bk r.b ∧ iv r.b ≠ 0) : rnorm_vc r (fun x => x = rnormS r) := by
 obtain ⟨ha, hb, h0⟩ := h
 obtain ⟨a0, a1, a2, a3⟩ := bk_abs ha
 obtain ⟨b0, b1, b2, b3⟩ := bk_abs hb
 obtain ⟨_, la⟩ := bk_len ha
 obtain ⟨_, lb⟩ := bk_len hb
 intro _ _
 unfold rnormS nrm
 refine ⟨?_, fun y => bk y.a ∧ bk y.b ∧ 0 < iv y.b ∧ nrm0 (iv y.a) (iv y.b) = (if iv r.b < 0 then nrm0 (-(iv r.a)) (-(iv r.b)) else nrm0 (iv r.a) (iv r.b)), ⟨fun h1 => ⟨by omega, by show r.b.abs.length ≤ 1000000; omega, ?_⟩, fun h1 => ?_⟩, fun y hy => norm_rest y hy.1 hy.2.1 hy.2.2.1 (A := fun x => x = if iv r.b < 0 then nrm0 (-(iv r.a)) (-(iv r.b)) else nrm0 (iv r.a) (iv r.b)) hy.2.2.2⟩
 · rw [beq_eq_false_iff_ne]
   intro hc
   have hc : r.b.abs.length = 0 := by omega
   rw [List.length_eq_zero_iff] at hc
   rw [hc] at b1
   have : (0 : Nat) = (iv r.b).natAbs := b1
   omega
 · have hneg : iv r.b < 0 := by rw [b3] at h1; exact of_decide_eq_true h1
   have e : gnegBS (gnegAS r) = ⟨bz (-(iv r.a)), bz (-(iv r.b))⟩ := by
    unfold gnegBS gnegAS
    dsimp only
    rw [neg_give ha, neg_give hb]
   rw [if_pos hneg, e]
   refine ⟨bk_bz (by have := ha.2; omega), bk_bz (by have := hb.2; omega), by show 0 < iv (bz _); rw [iv_bz]; omega, ?_⟩
   show nrm0 (iv (bz _)) (iv (bz _)) = _
   rw [iv_bz, iv_bz]
 · have hneg : ¬ iv r.b < 0 := by rw [b3] at h1; exact of_decide_eq_false h1
   rw [if_neg hneg]
   exact ⟨ha, hb, by omega, rfl⟩
end Go.Proofs.YtdndfbamhnchfaaGreatDoor
set_option linter.unusedVariables false
set_option linter.unusedSimpArgs false
namespace Go.Proofs.YtdndfbamhnchfaaGreatDoor
open Go.Sy Go.RowKit
def rsf_vc (u0 : BRat) (u1 : BInt) (u2 : BInt) (K : (BRat × BInt × BInt) → Prop) : Prop := (u0.a.abs.length ≤ 140737488355328 → (u0.b.abs.length ≤ 140737488355328 → (u1.abs.length ≤ 140737488355328 → (u2.abs.length ≤ 140737488355328 → ((((u2.abs.length : Int) == 0) = false) ∧ ((u1.abs.length ≤ 1000000) ∧ ((u2.abs.length ≤ 1000000) ∧ ((bk (⟨(ggive (⟨false, []⟩ : BInt) u1.neg (gtwinS u1.abs)), (ggive (⟨false, []⟩ : BInt) u2.neg (gtwinS u2.abs))⟩ : BRat).a ∧ bk (⟨(ggive (⟨false, []⟩ : BInt) u1.neg (gtwinS u1.abs)), (ggive (⟨false, []⟩ : BInt) u2.neg (gtwinS u2.abs))⟩ : BRat).b ∧ iv (⟨(ggive (⟨false, []⟩ : BInt) u1.neg (gtwinS u1.abs)), (ggive (⟨false, []⟩ : BInt) u2.neg (gtwinS u2.abs))⟩ : BRat).b ≠ 0) ∧ (∀ r221, (rnormS (⟨(ggive (⟨false, []⟩ : BInt) u1.neg (gtwinS u1.abs)), (ggive (⟨false, []⟩ : BInt) u2.neg (gtwinS u2.abs))⟩ : BRat)) = r221 → (r221.a.abs.length ≤ 140737488355328 → (r221.b.abs.length ≤ 140737488355328 → (K (r221, u1, u2)))))))))))))
theorem sum_core2 {x y : BInt} (hx : bk x) (hy : bk y) (z : BInt) : ggive z (gsumS x.neg x.abs (!y.neg) y.abs).1 (gsumS x.neg x.abs (!y.neg) y.abs).2 = bz (iv x - iv y) := by
 obtain ⟨_, x1, _, x2⟩ := bk_abs hx
 obtain ⟨_, y1, _, y2⟩ := bk_abs hy
 unfold gsumS
 rw [x1, y1, x2, y2]
 generalize iv x = X
 generalize iv y = Y
 have hn : (!decide (Y < 0)) = decide (0 ≤ Y) := by rw [← decide_not]; exact decide_eq_decide.2 (by omega)
 rw [hn]
 split
 · rename_i h
   have h : (X < 0 ↔ 0 ≤ Y) := by
    have h := congrArg (· = true) h
    simpa using h
   have e : X.natAbs + Y.natAbs = (X - Y).natAbs := by omega
   dsimp only
   rw [e]
   refine give_bz z _ _ ?_
   by_cases h0 : X - Y = 0
   · exact .inr h0
   · left
     exact decide_eq_decide.2 (by omega)
 · rename_i h
   have h : ¬ (X < 0 ↔ 0 ≤ Y) := fun hc => h (decide_eq_decide.2 hc)
   split
   · have e : X.natAbs - Y.natAbs = (X - Y).natAbs := by omega
     dsimp only
     rw [e]
     refine give_bz z _ _ ?_
     by_cases h0 : X - Y = 0
     · exact .inr h0
     · left
       exact decide_eq_decide.2 (by omega)
   · have e : Y.natAbs - X.natAbs = (X - Y).natAbs := by omega
     dsimp only
     rw [e]
     refine give_bz z _ _ ?_
     by_cases h0 : X - Y = 0
     · exact .inr h0
     · left
       exact decide_eq_decide.2 (by omega)
def gsubIS (z x y : BInt) : BInt × BInt × BInt := (bz (iv x - iv y), x, y)
theorem gsubI_ok (z x y : BInt) (h : bk x ∧ bk y) : gsubI_vc z x y (fun r => r = gsubIS z x y) := by
 intro _ _ _
 obtain ⟨a0, _, a2, _⟩ := bk_abs h.1
 obtain ⟨b0, _, b2, _⟩ := bk_abs h.2
 refine ⟨⟨a0, b0, a2, b2⟩, ?_⟩
 unfold gsubIS
 rw [sum_core2 h.1 h.2]
def zcmp (x y : Int) : Int := if x < y then -1 else if y < x then 1 else 0
def gcmpAS (r : BRat) (y : BInt) : Int × BRat × BInt := (zcmp (iv r.a) (iv y), r, y)
def gcmpBS (r : BRat) (y : BInt) : Int × BRat × BInt := (zcmp (iv r.b) (iv y), r, y)
theorem cmp_core {x y : BInt} (hx : bk x) (hy : bk y) {A : Int → Prop} (hA : A (zcmp (iv x) (iv y))) : (((x.neg != y.neg) = true → ((x.neg = true → (A (-1))) ∧ (x.neg = false → (A 1)))) ∧ ((x.neg != y.neg) = false → ((x.abs.length ≤ 1000 ∧ y.abs.length ≤ 1000 ∧ x.abs = ws (wv x.abs) ∧ y.abs = ws (wv y.abs)) ∧ ((x.neg = true → (A (w64 (0 - (gcmpS x.abs y.abs))))) ∧ (x.neg = false → (A (gcmpS x.abs y.abs))))))) := by
 obtain ⟨x0, x1, x2, x3⟩ := bk_abs hx
 obtain ⟨y0, y1, y2, y3⟩ := bk_abs hy
 obtain ⟨_, lx⟩ := bk_len hx
 obtain ⟨_, ly⟩ := bk_len hy
 unfold zcmp at hA
 unfold gcmpS
 rw [x3, y3, x1, y1]
 generalize iv x = X at *
 generalize iv y = Y at *
 refine ⟨fun h1 => ⟨fun h2 => ?_, fun h2 => ?_⟩, fun h1 => ⟨⟨by omega, by omega, by rw [← x1]; exact x0, by rw [← y1]; exact y0⟩, fun h2 => ?_, fun h2 => ?_⟩⟩
 · have h2' := of_decide_eq_true h2
   have h3 : ¬ Y < 0 := by
    intro h
    rw [h2, decide_eq_true h] at h1
    cases h1
   rw [if_pos (by omega)] at hA
   exact hA
 · have h2' := of_decide_eq_false h2
   have h3 : Y < 0 := by
    rcases Int.lt_or_le Y 0 with h | h
    · exact h
    · rw [h2, decide_eq_false (by omega)] at h1
      cases h1
   rw [if_neg (by omega), if_pos (by omega)] at hA
   exact hA
 · have h2' := of_decide_eq_true h2
   have h3 : Y < 0 := by
    rcases Int.lt_or_le Y 0 with h | h
    · exact h
    · rw [h2, decide_eq_false (show ¬ Y < 0 by omega)] at h1
      cases h1
   rcases Int.lt_trichotomy X Y with h | h | h
   · rw [if_pos h] at hA
     rw [if_neg (by omega), if_pos (by omega)]
     exact hA
   · rw [if_neg (by omega), if_neg (by omega)] at hA
     rw [if_neg (by omega), if_neg (by omega)]
     exact hA
   · rw [if_neg (by omega), if_pos h] at hA
     rw [if_pos (by omega)]
     exact hA
 · have h2' := of_decide_eq_false h2
   have h3 : ¬ Y < 0 := by
    intro h
    rw [h2, decide_eq_true h] at h1
    cases h1
   rcases Int.lt_trichotomy X Y with h | h | h
   · rw [if_pos h] at hA
     rw [if_pos (by omega)]
     exact hA
   · rw [if_neg (by omega), if_neg (by omega)] at hA
     rw [if_neg (by omega), if_neg (by omega)]
     exact hA
   · rw [if_neg (by omega), if_pos h] at hA
     rw [if_neg (by omega), if_pos (by omega)]
     exact hA
theorem gcmpA_ok (r : BRat) (y : BInt) (h : bk r.a ∧ bk y) : gcmpA_vc r y (fun x => x = gcmpAS r y) := fun _ _ _ => cmp_core h.1 h.2 (A := fun v => (v, r, y) = gcmpAS r y) rfl
theorem gcmpB_ok (r : BRat) (y : BInt) (h : bk r.b ∧ bk y) : gcmpB_vc r y (fun x => x = gcmpBS r y) := fun _ _ _ => cmp_core h.1 h.2 (A := fun v => (v, r, y) = gcmpBS r y) rfl
def glshIS (z x : BInt) (n : Int) : BInt × BInt := (bz (iv x * 2 ^ n.toNat), x)
theorem glshI_ok (z x : BInt) (n : Int) (h : bk x ∧ 0 ≤ iv x ∧ 0 ≤ n ∧ n ≤ 100) : glshI_vc z x n (fun r => r = glshIS z x n) := by
 obtain ⟨hx, h0, h1, h2⟩ := h
 obtain ⟨x0, x1, _, x3⟩ := bk_abs hx
 obtain ⟨a1, a2⟩ := bk_len hx
 intro _ _
 refine ⟨⟨a1, by omega, by omega, by omega⟩, ?_⟩
 unfold glshIS gleftS
 have e : wv x.abs * 2 ^ n.toNat = (iv x * 2 ^ n.toNat).natAbs := by
  rw [Int.natAbs_mul, ← x1, Int.natAbs_pow]
  rfl
 rw [e, give_bz z x.neg (iv x * 2 ^ n.toNat) ?_]
 left
 have hp : (0 : Int) < 2 ^ n.toNat := Int.pow_pos (by decide)
 have := Int.mul_nonneg h0 (Int.le_of_lt hp)
 rw [x3, decide_eq_false (by omega), decide_eq_false (by omega)]
def grshIS (x : BInt) (n : Int) : BInt := bz (iv x / 2 ^ n.toNat)
theorem grshI_ok (x : BInt) (n : Int) (h : bk x ∧ 0 ≤ iv x ∧ n = 1) : grshI_vc x n (fun r => r = grshIS x n) := by
 obtain ⟨hx, h0, rfl⟩ := h
 obtain ⟨x0, x1, _, x3⟩ := bk_abs hx
 obtain ⟨a1, a2⟩ := bk_len hx
 intro _
 refine ⟨by rw [x3]; exact decide_eq_false (by omega), ⟨a1, by omega, by omega, by omega⟩, fun _ => ?_⟩
 rintro _ rfl _
 unfold grshIS grightS
 have e : wv x.abs / 2 ^ (1 : Int).toNat = (iv x / 2 ^ (1 : Int).toNat).natAbs := by
  show wv x.abs / 2 ^ 1 = (iv x / 2 ^ 1).natAbs
  rw [x1]
  omega
 rw [e, give_bz x false (iv x / 2 ^ (1 : Int).toNat) ?_]
 left
 symm
 refine decide_eq_false ?_
 show ¬ iv x / 2 ^ 1 < 0
 omega
def gnegIS (z x : BInt) : BInt × BInt := (bz (-(iv x)), x)
theorem gnegI_ok (z x : BInt) (h : bk x) : gnegI_vc z x (fun r => r = gnegIS z x) := by
 obtain ⟨_, lx⟩ := bk_len h
 intro _ _
 refine ⟨by omega, ?_⟩
 have := neg_give h
 unfold gnegIS
 rw [← this]
 rfl
theorem set_core {x : BInt} (hx : bk x) (z : BInt) : ggive z x.neg (gtwinS x.abs) = x := by
 obtain ⟨x0, x1, _, x3⟩ := bk_abs hx
 have := give_bz z x.neg (iv x) (.inl x3)
 rw [← x1, ← x0, ← hx.1] at this
 exact this
def rsfS (z : BRat) (a b : BInt) : BRat × BInt × BInt := (nrm (iv a) (iv b), a, b)
theorem iv_ne {x : BInt} (hx : bk x) (h : iv x ≠ 0) : x.abs ≠ [] := by
 obtain ⟨_, x1, _, _⟩ := bk_abs hx
 intro hc
 rw [hc] at x1
 have : (0 : Nat) = (iv x).natAbs := x1
 omega
theorem rsf_ok (z : BRat) (a b : BInt) (h : bk a ∧ bk b ∧ iv b ≠ 0) : rsf_vc z a b (fun r => r = rsfS z a b) := by
 obtain ⟨ha, hb, h0⟩ := h
 obtain ⟨_, la⟩ := bk_len ha
 obtain ⟨_, lb⟩ := bk_len hb
 have hne := iv_ne hb h0
 intro _ _ _ _
 rw [set_core ha, set_core hb]
 refine ⟨?_, by omega, by omega, ⟨ha, hb, h0⟩, ?_⟩
 · rw [beq_eq_false_iff_ne]
   intro hc
   exact hne (List.length_eq_zero_iff.1 (by omega))
 · rintro r rfl _ _
   rfl
end Go.Proofs.YtdndfbamhnchfaaGreatDoor
set_option linter.unusedVariables false
set_option linter.unusedSimpArgs false
namespace Go.Proofs.YtdndfbamhnchfaaGreatDoor
open Go.Sy Go.RowKit
def rsf64_vc (u0 : BRat) (u1 : Int) (u2 : Int) (K : BRat → Prop) : Prop := (u0.a.abs.length ≤ 140737488355328 → (u0.b.abs.length ≤ 140737488355328 → ((-9223372036854775808 ≤ u1 ∧ u1 ≤ 9223372036854775807) ∧ ((-9223372036854775808 ≤ u2 ∧ u2 ≤ 9223372036854775807) ∧ ((bk (bz u1) ∧ bk (bz u2) ∧ iv (bz u2) ≠ 0) ∧ (∀ r52, (rsfS u0 (bz u1) (bz u2)) = r52 → (r52.1.a.abs.length ≤ 140737488355328 → (r52.1.b.abs.length ≤ 140737488355328 → (r52.2.1.abs.length ≤ 140737488355328 → (r52.2.2.abs.length ≤ 140737488355328 → (K r52.1)))))))))))
def rsi_vc (u0 : BRat) (u1 : Int) (K : BRat → Prop) : Prop := (u0.a.abs.length ≤ 140737488355328 → (u0.b.abs.length ≤ 140737488355328 → ((-9223372036854775808 ≤ u1 ∧ u1 ≤ 9223372036854775807) ∧ ((-9223372036854775808 ≤ (1 : Int) ∧ (1 : Int) ≤ 9223372036854775807) ∧ ((bk (bz u1) ∧ bk (bz 1) ∧ iv (bz 1) ≠ 0) ∧ (∀ r50, (rsfS u0 (bz u1) (bz 1)) = r50 → (r50.1.a.abs.length ≤ 140737488355328 → (r50.1.b.abs.length ≤ 140737488355328 → (r50.2.1.abs.length ≤ 140737488355328 → (r50.2.2.abs.length ≤ 140737488355328 → (K r50.1)))))))))))
def radd_vc (u0 : BRat) (u2 : BRat) (K : (BRat × BRat) → Prop) : Prop := (u0.a.abs.length ≤ 140737488355328 → (u0.b.abs.length ≤ 140737488355328 → (u2.a.abs.length ≤ 140737488355328 → (u2.b.abs.length ≤ 140737488355328 → ((u2.b.abs ≠ []) ∧ (∀ r60, (rdenS u2) = r60 → (r60.a.abs.length ≤ 140737488355328 → (r60.b.abs.length ≤ 140737488355328 → ((bk u0.a ∧ bk r60.b) ∧ (∀ r95, (gmulABS (⟨false, []⟩ : BInt) u0 r60) = r95 → (r95.1.abs.length ≤ 140737488355328 → (r95.2.1.a.abs.length ≤ 140737488355328 → (r95.2.1.b.abs.length ≤ 140737488355328 → (r95.2.2.a.abs.length ≤ 140737488355328 → (r95.2.2.b.abs.length ≤ 140737488355328 → ((r95.2.1.b.abs ≠ []) ∧ (∀ r135, (rdenS r95.2.1) = r135 → (r135.a.abs.length ≤ 140737488355328 → (r135.b.abs.length ≤ 140737488355328 → ((bk r95.2.2.a ∧ bk r135.b) ∧ (∀ r170, (gmulABS (⟨false, []⟩ : BInt) r95.2.2 r135) = r170 → (r170.1.abs.length ≤ 140737488355328 → (r170.2.1.a.abs.length ≤ 140737488355328 → (r170.2.1.b.abs.length ≤ 140737488355328 → (r170.2.2.a.abs.length ≤ 140737488355328 → (r170.2.2.b.abs.length ≤ 140737488355328 → ((bk r95.1 ∧ bk r170.1) ∧ (∀ r217, (gaddIS (⟨false, []⟩ : BInt) r95.1 r170.1) = r217 → (r217.1.abs.length ≤ 140737488355328 → (r217.2.1.abs.length ≤ 140737488355328 → (r217.2.2.abs.length ≤ 140737488355328 → ((r170.2.2.b.abs ≠ []) ∧ (∀ r264, (rdenS r170.2.2) = r264 → (r264.a.abs.length ≤ 140737488355328 → (r264.b.abs.length ≤ 140737488355328 → ((r170.2.1.b.abs ≠ []) ∧ (∀ r287, (rdenS r170.2.1) = r287 → (r287.a.abs.length ≤ 140737488355328 → (r287.b.abs.length ≤ 140737488355328 → ((bk r264.b ∧ bk r287.b) ∧ (∀ r308, (gmulBBS (⟨false, []⟩ : BInt) r264 r287) = r308 → (r308.1.abs.length ≤ 140737488355328 → (r308.2.1.a.abs.length ≤ 140737488355328 → (r308.2.1.b.abs.length ≤ 140737488355328 → (r308.2.2.a.abs.length ≤ 140737488355328 → (r308.2.2.b.abs.length ≤ 140737488355328 → ((bk r217.1 ∧ bk r308.1 ∧ iv r308.1 ≠ 0) ∧ (∀ r341, (rsfS r308.2.1 r217.1 r308.1) = r341 → (r341.1.a.abs.length ≤ 140737488355328 → (r341.1.b.abs.length ≤ 140737488355328 → (r341.2.1.abs.length ≤ 140737488355328 → (r341.2.2.abs.length ≤ 140737488355328 → (K (r341.1, r308.2.2))))))))))))))))))))))))))))))))))))))))))))))))))))))
def rdenom_vc (u0 : BRat) (K : (BRat × BInt) → Prop) : Prop := (u0.a.abs.length ≤ 140737488355328 → (u0.b.abs.length ≤ 140737488355328 → ((u0.b.abs ≠ []) ∧ (∀ r27, (rdenS u0) = r27 → (r27.a.abs.length ≤ 140737488355328 → (r27.b.abs.length ≤ 140737488355328 → ((r27.b.abs.length ≤ 1000000) ∧ (K (r27, (ggive (⟨false, []⟩ : BInt) r27.b.neg (gtwinS r27.b.abs)))))))))))
def rsub_vc (u0 : BRat) (u2 : BRat) (K : (BRat × BRat) → Prop) : Prop := (u0.a.abs.length ≤ 140737488355328 → (u0.b.abs.length ≤ 140737488355328 → (u2.a.abs.length ≤ 140737488355328 → (u2.b.abs.length ≤ 140737488355328 → ((u2.b.abs ≠ []) ∧ (∀ r60, (rdenS u2) = r60 → (r60.a.abs.length ≤ 140737488355328 → (r60.b.abs.length ≤ 140737488355328 → ((bk u0.a ∧ bk r60.b) ∧ (∀ r95, (gmulABS (⟨false, []⟩ : BInt) u0 r60) = r95 → (r95.1.abs.length ≤ 140737488355328 → (r95.2.1.a.abs.length ≤ 140737488355328 → (r95.2.1.b.abs.length ≤ 140737488355328 → (r95.2.2.a.abs.length ≤ 140737488355328 → (r95.2.2.b.abs.length ≤ 140737488355328 → ((r95.2.1.b.abs ≠ []) ∧ (∀ r135, (rdenS r95.2.1) = r135 → (r135.a.abs.length ≤ 140737488355328 → (r135.b.abs.length ≤ 140737488355328 → ((bk r95.2.2.a ∧ bk r135.b) ∧ (∀ r170, (gmulABS (⟨false, []⟩ : BInt) r95.2.2 r135) = r170 → (r170.1.abs.length ≤ 140737488355328 → (r170.2.1.a.abs.length ≤ 140737488355328 → (r170.2.1.b.abs.length ≤ 140737488355328 → (r170.2.2.a.abs.length ≤ 140737488355328 → (r170.2.2.b.abs.length ≤ 140737488355328 → ((bk r95.1 ∧ bk r170.1) ∧ (∀ r217, (gsubIS (⟨false, []⟩ : BInt) r95.1 r170.1) = r217 → (r217.1.abs.length ≤ 140737488355328 → (r217.2.1.abs.length ≤ 140737488355328 → (r217.2.2.abs.length ≤ 140737488355328 → ((r170.2.2.b.abs ≠ []) ∧ (∀ r264, (rdenS r170.2.2) = r264 → (r264.a.abs.length ≤ 140737488355328 → (r264.b.abs.length ≤ 140737488355328 → ((r170.2.1.b.abs ≠ []) ∧ (∀ r287, (rdenS r170.2.1) = r287 → (r287.a.abs.length ≤ 140737488355328 → (r287.b.abs.length ≤ 140737488355328 → ((bk r264.b ∧ bk r287.b) ∧ (∀ r308, (gmulBBS (⟨false, []⟩ : BInt) r264 r287) = r308 → (r308.1.abs.length ≤ 140737488355328 → (r308.2.1.a.abs.length ≤ 140737488355328 → (r308.2.1.b.abs.length ≤ 140737488355328 → (r308.2.2.a.abs.length ≤ 140737488355328 → (r308.2.2.b.abs.length ≤ 140737488355328 → ((bk r217.1 ∧ bk r308.1 ∧ iv r308.1 ≠ 0) ∧ (∀ r341, (rsfS r308.2.1 r217.1 r308.1) = r341 → (r341.1.a.abs.length ≤ 140737488355328 → (r341.1.b.abs.length ≤ 140737488355328 → (r341.2.1.abs.length ≤ 140737488355328 → (r341.2.2.abs.length ≤ 140737488355328 → (K (r341.1, r308.2.2))))))))))))))))))))))))))))))))))))))))))))))))))))))
def rmul_vc (u0 : BRat) (u2 : BRat) (K : (BRat × BRat) → Prop) : Prop := (u0.a.abs.length ≤ 140737488355328 → (u0.b.abs.length ≤ 140737488355328 → (u2.a.abs.length ≤ 140737488355328 → (u2.b.abs.length ≤ 140737488355328 → ((bk u0.a ∧ bk u2.a) ∧ (∀ r69, (gmulAAS (⟨false, []⟩ : BInt) u0 u2) = r69 → (r69.1.abs.length ≤ 140737488355328 → (r69.2.1.a.abs.length ≤ 140737488355328 → (r69.2.1.b.abs.length ≤ 140737488355328 → (r69.2.2.a.abs.length ≤ 140737488355328 → (r69.2.2.b.abs.length ≤ 140737488355328 → ((r69.2.1.b.abs ≠ []) ∧ (∀ r109, (rdenS r69.2.1) = r109 → (r109.a.abs.length ≤ 140737488355328 → (r109.b.abs.length ≤ 140737488355328 → ((r69.2.2.b.abs ≠ []) ∧ (∀ r137, (rdenS r69.2.2) = r137 → (r137.a.abs.length ≤ 140737488355328 → (r137.b.abs.length ≤ 140737488355328 → ((bk r109.b ∧ bk r137.b) ∧ (∀ r172, (gmulBBS (⟨false, []⟩ : BInt) r109 r137) = r172 → (r172.1.abs.length ≤ 140737488355328 → (r172.2.1.a.abs.length ≤ 140737488355328 → (r172.2.1.b.abs.length ≤ 140737488355328 → (r172.2.2.a.abs.length ≤ 140737488355328 → (r172.2.2.b.abs.length ≤ 140737488355328 → ((bk r69.1 ∧ bk r172.1 ∧ iv r172.1 ≠ 0) ∧ (∀ r212, (rsfS r172.2.1 r69.1 r172.1) = r212 → (r212.1.a.abs.length ≤ 140737488355328 → (r212.1.b.abs.length ≤ 140737488355328 → (r212.2.1.abs.length ≤ 140737488355328 → (r212.2.2.abs.length ≤ 140737488355328 → (K (r212.1, r172.2.2))))))))))))))))))))))))))))))))))
def rquo_vc (u0 : BRat) (u2 : BRat) (K : (BRat × BRat) → Prop) : Prop := (u0.a.abs.length ≤ 140737488355328 → (u0.b.abs.length ≤ 140737488355328 → (u2.a.abs.length ≤ 140737488355328 → (u2.b.abs.length ≤ 140737488355328 → ((u2.b.abs ≠ []) ∧ (∀ r62, (rdenS u2) = r62 → (r62.a.abs.length ≤ 140737488355328 → (r62.b.abs.length ≤ 140737488355328 → ((bk u0.a ∧ bk r62.b) ∧ (∀ r97, (gmulABS (⟨false, []⟩ : BInt) u0 r62) = r97 → (r97.1.abs.length ≤ 140737488355328 → (r97.2.1.a.abs.length ≤ 140737488355328 → (r97.2.1.b.abs.length ≤ 140737488355328 → (r97.2.2.a.abs.length ≤ 140737488355328 → (r97.2.2.b.abs.length ≤ 140737488355328 → ((r97.2.1.b.abs ≠ []) ∧ (∀ r137, (rdenS r97.2.1) = r137 → (r137.a.abs.length ≤ 140737488355328 → (r137.b.abs.length ≤ 140737488355328 → ((bk r137.b ∧ bk r97.2.2.a) ∧ (∀ r172, (gmulBAS (⟨false, []⟩ : BInt) r137 r97.2.2) = r172 → (r172.1.abs.length ≤ 140737488355328 → (r172.2.1.a.abs.length ≤ 140737488355328 → (r172.2.1.b.abs.length ≤ 140737488355328 → (r172.2.2.a.abs.length ≤ 140737488355328 → (r172.2.2.b.abs.length ≤ 140737488355328 → ((bk r97.1 ∧ bk r172.1 ∧ iv r172.1 ≠ 0) ∧ (∀ r212, (rsfS r172.2.1 r97.1 r172.1) = r212 → (r212.1.a.abs.length ≤ 140737488355328 → (r212.1.b.abs.length ≤ 140737488355328 → (r212.2.1.abs.length ≤ 140737488355328 → (r212.2.2.abs.length ≤ 140737488355328 → (K (r212.1, r172.2.2))))))))))))))))))))))))))))))))))
def risint_vc (u0 : BRat) (K : (Bool × BRat) → Prop) : Prop := (u0.a.abs.length ≤ 140737488355328 → (u0.b.abs.length ≤ 140737488355328 → ((u0.b.abs ≠ []) ∧ (∀ r22, (rdenS u0) = r22 → (r22.a.abs.length ≤ 140737488355328 → (r22.b.abs.length ≤ 140737488355328 → ((-9223372036854775808 ≤ (1 : Int) ∧ (1 : Int) ≤ 9223372036854775807) ∧ ((bk r22.b ∧ bk (bz 1)) ∧ (∀ r56, (gcmpBS r22 (bz 1)) = r56 → (r56.2.1.a.abs.length ≤ 140737488355328 → (r56.2.1.b.abs.length ≤ 140737488355328 → (r56.2.2.abs.length ≤ 140737488355328 → (K (r56.1 == 0, r56.2.1))))))))))))))
def rsf64S (z : BRat) (a b : Int) : BRat := nrm a b
theorem rsf64_ok (z : BRat) (a b : Int) (h : b ≠ 0 ∧ (-9223372036854775808 ≤ a ∧ a ≤ 9223372036854775807) ∧ -9223372036854775808 ≤ b ∧ b ≤ 9223372036854775807) : rsf64_vc z a b (fun r => r = rsf64S z a b) := by
 intro _ _
 refine ⟨h.2.1, h.2.2, ⟨bk_bz (by omega), bk_bz (by omega), by rw [iv_bz]; exact h.1⟩, ?_⟩
 rintro r rfl _ _ _ _
 unfold rsfS rsf64S
 dsimp only
 rw [iv_bz, iv_bz]
def rsiS (z : BRat) (a : Int) : BRat := nrm a 1
theorem rsi_ok (z : BRat) (a : Int) (h : -9223372036854775808 ≤ a ∧ a ≤ 9223372036854775807) : rsi_vc z a (fun r => r = rsiS z a) := by
 intro _ _
 refine ⟨h, by omega, ⟨bk_bz (by omega), bk_bz (by decide), by rw [iv_bz]; decide⟩, ?_⟩
 rintro r rfl _ _ _ _
 unfold rsfS rsiS
 dsimp only
 rw [iv_bz, iv_bz]
def rk (r : BRat) : Prop := bk r.a ∧ bk r.b ∧ 0 < iv r.b
def rlow (x y : BRat) : Prop := (iv x.a * iv y.b).natAbs < 18446744073709551616 ∧ (iv y.a * iv x.b).natAbs < 18446744073709551616 ∧ (iv x.a * iv y.b + iv y.a * iv x.b).natAbs < 18446744073709551616 ∧ (iv x.b * iv y.b).natAbs < 18446744073709551616
theorem rk_ne {r : BRat} (h : rk r) : r.b.abs ≠ [] := iv_ne h.2.1 (by have := h.2.2; omega)
def raddS (x y : BRat) : BRat × BRat := (nrm (iv x.a * iv y.b + iv y.a * iv x.b) (iv x.b * iv y.b), y)
theorem radd_ok (x y : BRat) (h : rk x ∧ rk y ∧ rlow x y) : radd_vc x y (fun r => r = raddS x y) := by
 obtain ⟨hx, hy, h1, h2, h3, h4⟩ := h
 have hb0 := Int.mul_pos hx.2.2 hy.2.2
 intro _ _ _ _
 refine ⟨rk_ne hy, ?_⟩
 rintro r rfl _ _
 refine ⟨⟨hx.1, hy.2.1⟩, ?_⟩
 rintro r rfl _ _ _ _ _
 refine ⟨rk_ne hx, ?_⟩
 rintro r rfl _ _
 refine ⟨⟨hy.1, hx.2.1⟩, ?_⟩
 rintro r rfl _ _ _ _ _
 refine ⟨⟨bk_bz h1, bk_bz h2⟩, ?_⟩
 rintro r rfl _ _ _
 refine ⟨rk_ne hx, ?_⟩
 rintro r rfl _ _
 refine ⟨rk_ne hy, ?_⟩
 rintro r rfl _ _
 refine ⟨⟨hx.2.1, hy.2.1⟩, ?_⟩
 rintro r rfl _ _ _ _ _
 have e : (gaddIS (⟨false, []⟩ : BInt) (gmulABS (⟨false, []⟩ : BInt) x (rdenS y)).1 (gmulABS (⟨false, []⟩ : BInt) (gmulABS (⟨false, []⟩ : BInt) x (rdenS y)).2.2 (rdenS (gmulABS (⟨false, []⟩ : BInt) x (rdenS y)).2.1)).1).1 = bz (iv x.a * iv y.b + iv y.a * iv x.b) := by
  unfold gaddIS gmulABS rdenS
  dsimp only
  rw [iv_bz, iv_bz]
 rw [e]
 refine ⟨⟨bk_bz h3, bk_bz h4, by show iv (bz _) ≠ 0; rw [iv_bz]; show iv x.b * iv y.b ≠ 0; omega⟩, ?_⟩
 rintro r rfl _ _ _ _
 show (nrm (iv (bz _)) (iv (bz _)), y) = _
 rw [iv_bz, iv_bz]
 rfl
def rdenomS (r : BRat) : BRat × BInt := (r, r.b)
theorem rdenom_ok (r : BRat) (h : bk r.b ∧ r.b.abs ≠ []) : rdenom_vc r (fun x => x = rdenomS r) := by
 obtain ⟨hb, hne⟩ := h
 obtain ⟨_, lb⟩ := bk_len hb
 intro _ _
 refine ⟨hne, ?_⟩
 rintro x rfl _ _
 refine ⟨by show r.b.abs.length ≤ 1000000; omega, ?_⟩
 show (r, ggive _ r.b.neg (gtwinS r.b.abs)) = _
 rw [set_core hb]
 rfl
end Go.Proofs.YtdndfbamhnchfaaGreatDoor
set_option linter.unusedVariables false
set_option linter.unusedSimpArgs false
namespace Go.Proofs.YtdndfbamhnchfaaGreatDoor
open Go.Sy Go.RowKit
def rlows (x y : BRat) : Prop := (iv x.a * iv y.b).natAbs < 18446744073709551616 ∧ (iv y.a * iv x.b).natAbs < 18446744073709551616 ∧ (iv x.a * iv y.b - iv y.a * iv x.b).natAbs < 18446744073709551616 ∧ (iv x.b * iv y.b).natAbs < 18446744073709551616
def rsubS (x y : BRat) : BRat × BRat := (nrm (iv x.a * iv y.b - iv y.a * iv x.b) (iv x.b * iv y.b), y)
theorem rsub_ok (x y : BRat) (h : rk x ∧ rk y ∧ rlows x y) : rsub_vc x y (fun r => r = rsubS x y) := by
 obtain ⟨hx, hy, h1, h2, h3, h4⟩ := h
 have hb0 := Int.mul_pos hx.2.2 hy.2.2
 intro _ _ _ _
 refine ⟨rk_ne hy, ?_⟩
 rintro r rfl _ _
 refine ⟨⟨hx.1, hy.2.1⟩, ?_⟩
 rintro r rfl _ _ _ _ _
 refine ⟨rk_ne hx, ?_⟩
 rintro r rfl _ _
 refine ⟨⟨hy.1, hx.2.1⟩, ?_⟩
 rintro r rfl _ _ _ _ _
 refine ⟨⟨bk_bz h1, bk_bz h2⟩, ?_⟩
 rintro r rfl _ _ _
 refine ⟨rk_ne hx, ?_⟩
 rintro r rfl _ _
 refine ⟨rk_ne hy, ?_⟩
 rintro r rfl _ _
 refine ⟨⟨hx.2.1, hy.2.1⟩, ?_⟩
 rintro r rfl _ _ _ _ _
 have e : (gsubIS (⟨false, []⟩ : BInt) (gmulABS (⟨false, []⟩ : BInt) x (rdenS y)).1 (gmulABS (⟨false, []⟩ : BInt) (gmulABS (⟨false, []⟩ : BInt) x (rdenS y)).2.2 (rdenS (gmulABS (⟨false, []⟩ : BInt) x (rdenS y)).2.1)).1).1 = bz (iv x.a * iv y.b - iv y.a * iv x.b) := by
  unfold gsubIS gmulABS rdenS
  dsimp only
  rw [iv_bz, iv_bz]
 rw [e]
 refine ⟨⟨bk_bz h3, bk_bz h4, by show iv (bz _) ≠ 0; rw [iv_bz]; show iv x.b * iv y.b ≠ 0; omega⟩, ?_⟩
 rintro r rfl _ _ _ _
 show (nrm (iv (bz _)) (iv (bz _)), y) = _
 rw [iv_bz, iv_bz]
 rfl
def rlowm (x y : BRat) : Prop := (iv x.a * iv y.a).natAbs < 18446744073709551616 ∧ (iv x.b * iv y.b).natAbs < 18446744073709551616
def rmulS (x y : BRat) : BRat × BRat := (nrm (iv x.a * iv y.a) (iv x.b * iv y.b), y)
theorem rmul_ok (x y : BRat) (h : rk x ∧ rk y ∧ rlowm x y) : rmul_vc x y (fun r => r = rmulS x y) := by
 obtain ⟨hx, hy, h1, h2⟩ := h
 have hb0 := Int.mul_pos hx.2.2 hy.2.2
 intro _ _ _ _
 refine ⟨⟨hx.1, hy.1⟩, ?_⟩
 rintro r rfl _ _ _ _ _
 refine ⟨rk_ne hx, ?_⟩
 rintro r rfl _ _
 refine ⟨rk_ne hy, ?_⟩
 rintro r rfl _ _
 refine ⟨⟨hx.2.1, hy.2.1⟩, ?_⟩
 rintro r rfl _ _ _ _ _
 refine ⟨⟨bk_bz h1, bk_bz h2, by show iv (bz _) ≠ 0; rw [iv_bz]; show iv x.b * iv y.b ≠ 0; omega⟩, ?_⟩
 rintro r rfl _ _ _ _
 show (nrm (iv (bz _)) (iv (bz _)), y) = _
 rw [iv_bz, iv_bz]
 rfl
def rlowq (x y : BRat) : Prop := (iv x.a * iv y.b).natAbs < 18446744073709551616 ∧ (iv x.b * iv y.a).natAbs < 18446744073709551616 ∧ iv y.a ≠ 0
def rquoS (x y : BRat) : BRat × BRat := (nrm (iv x.a * iv y.b) (iv x.b * iv y.a), y)
theorem rquo_ok (x y : BRat) (h : rk x ∧ rk y ∧ rlowq x y) : rquo_vc x y (fun r => r = rquoS x y) := by
 obtain ⟨hx, hy, h1, h2, h3⟩ := h
 have hb0 : iv x.b * iv y.a ≠ 0 := Int.mul_ne_zero (by have := hx.2.2; omega) h3
 intro _ _ _ _
 refine ⟨rk_ne hy, ?_⟩
 rintro r rfl _ _
 refine ⟨⟨hx.1, hy.2.1⟩, ?_⟩
 rintro r rfl _ _ _ _ _
 refine ⟨rk_ne hx, ?_⟩
 rintro r rfl _ _
 refine ⟨⟨hx.2.1, hy.1⟩, ?_⟩
 rintro r rfl _ _ _ _ _
 refine ⟨⟨bk_bz h1, bk_bz h2, by show iv (bz _) ≠ 0; rw [iv_bz]; exact hb0⟩, ?_⟩
 rintro r rfl _ _ _ _
 show (nrm (iv (bz _)) (iv (bz _)), y) = _
 rw [iv_bz, iv_bz]
 rfl
def risintS (r : BRat) : Bool × BRat := (decide (iv r.b = 1), r)
theorem risint_ok (r : BRat) (h : rk r) : risint_vc r (fun x => x = risintS r) := by
 intro _ _
 refine ⟨rk_ne h, ?_⟩
 rintro _ rfl _ _
 refine ⟨by decide, ⟨h.2.1, bk_bz (by decide)⟩, ?_⟩
 rintro _ rfl _ _ _
 show (zcmp (iv r.b) (iv (bz 1)) == 0, r) = (decide (iv r.b = 1), r)
 rw [iv_bz]
 congr 1
 unfold zcmp
 rcases Int.lt_trichotomy (iv r.b) 1 with h1 | h1 | h1
 · rw [if_pos h1, decide_eq_false (by omega)]
   rfl
 · rw [if_neg (by omega), if_neg (by omega), decide_eq_true h1]
   rfl
 · rw [if_neg (by omega), if_pos h1, decide_eq_false (by omega)]
   rfl
end Go.Proofs.YtdndfbamhnchfaaGreatDoor
set_option linter.unusedVariables false
set_option linter.unusedSimpArgs false
namespace Go.Proofs.YtdndfbamhnchfaaGreatDoor
open Go.Sy Go.RowKit
def rmean_vc (u0 : Signal) (u1 : Int) (K : Reading → Prop) : Prop := ((u0.Div ≠ 0 ∧ (-9223372036854775808 ≤ (w64 (u1 * u0.Mul)) ∧ (w64 (u1 * u0.Mul)) ≤ 9223372036854775807) ∧ -9223372036854775808 ≤ u0.Div ∧ u0.Div ≤ 9223372036854775807) ∧ (∀ r36, (rsf64S (⟨(⟨false, []⟩ : BInt), (⟨false, []⟩ : BInt)⟩ : BRat) (w64 (u1 * u0.Mul)) u0.Div) = r36 → (r36.a.abs.length ≤ 140737488355328 → (r36.b.abs.length ≤ 140737488355328 → ((-9223372036854775808 ≤ u0.Add ∧ u0.Add ≤ 9223372036854775807) ∧ (∀ r73, (rsiS (⟨(⟨false, []⟩ : BInt), (⟨false, []⟩ : BInt)⟩ : BRat) u0.Add) = r73 → (r73.a.abs.length ≤ 140737488355328 → (r73.b.abs.length ≤ 140737488355328 → ((rk r36 ∧ rk r73 ∧ rlow r36 r73) ∧ (∀ r94, (raddS r36 r73) = r94 → (r94.1.a.abs.length ≤ 140737488355328 → (r94.1.b.abs.length ≤ 140737488355328 → (r94.2.a.abs.length ≤ 140737488355328 → (r94.2.b.abs.length ≤ 140737488355328 → ((bs (rnumS r94.1).a) ∧ ((bk (gi64AS (rnumS r94.1)).2.b ∧ (gi64AS (rnumS r94.1)).2.b.abs ≠ []) ∧ ((bs (rdenomS (gi64AS (rnumS r94.1)).2).2) ∧ (K (⟨u0.Name, (gi64AS (rnumS r94.1)).1, (gi64S (rdenomS (gi64AS (rnumS r94.1)).2).2).1⟩ : Reading)))))))))))))))))))
theorem nrm0_is {a b : Int} (hb : 0 < b) : ∃ g x y : Int, 0 < g ∧ 0 < y ∧ a = g * x ∧ b = g * y ∧ nrm0 a b = ⟨bz x, bz y⟩ ∧ Int.gcd x y = 1 := by
 have hg : 0 < Int.gcd a b := Int.gcd_pos_of_ne_zero_right _ (by omega)
 obtain ⟨x, hx⟩ : ((Int.gcd a b : Nat) : Int) ∣ a := Int.gcd_dvd_left ..
 obtain ⟨y, hy⟩ : ((Int.gcd a b : Nat) : Int) ∣ b := Int.gcd_dvd_right ..
 have hgi : (0 : Int) < (Int.gcd a b : Nat) := by omega
 have hy0 : 0 < y := by
  rcases Int.lt_or_le 0 y with h | h
  · exact h
  · have := Int.mul_nonpos_of_nonneg_of_nonpos (Int.le_of_lt hgi) h
    omega
 have h1 : Int.gcd a b = Int.gcd a b * Int.gcd x y := by
  have := Int.gcd_mul_left ((Int.gcd a b : Nat) : Int) x y
  rw [← hx, ← hy, Int.natAbs_natCast] at this
  exact this
 refine ⟨(Int.gcd a b : Nat), x, y, hgi, hy0, hx, hy, ?_, ?_⟩
 · unfold nrm0
   generalize Int.gcd a b = g at *
   rw [hx, hy, Int.mul_tdiv_cancel_left _ (by omega), Int.mul_tdiv_cancel_left _ (by omega)]
 · have h2 : Int.gcd a b * 1 = Int.gcd a b * Int.gcd x y := by rw [Nat.mul_one]; exact h1
   exact (Nat.eq_of_mul_eq_mul_left hg h2).symm
theorem abs_part {g x a : Int} (hg : 0 < g) (h : a = g * x) : x.natAbs ≤ a.natAbs := by
 rw [h, Int.natAbs_mul]
 have : 1 * x.natAbs ≤ g.natAbs * x.natAbs := Nat.mul_le_mul_right _ (by omega)
 omega
theorem nrm_one (a : Int) : nrm a 1 = ⟨bz a, bz 1⟩ := by
 unfold nrm nrm0
 rw [if_neg (by omega)]
 have : Int.gcd a 1 = 1 := by simp
 rw [this]
 show (⟨bz (a.tdiv 1), bz ((1 : Int).tdiv 1)⟩ : BRat) = _
 rw [Int.tdiv_one, Int.tdiv_one]
theorem nrm_pos {a b : Int} (h : 0 < b) : nrm a b = nrm0 a b := by unfold nrm; rw [if_neg (by omega)]
theorem nrm0_scale {g x y : Int} (hg : 0 < g) : nrm0 (g * x) (g * y) = nrm0 x y := by
 unfold nrm0
 rw [Int.gcd_mul_left]
 have e : ((g.natAbs * Int.gcd x y : Nat) : Int) = g * ((Int.gcd x y : Nat) : Int) := by
  rw [Int.natCast_mul]
  congr 1
  omega
 rw [e, Int.mul_tdiv_mul_of_pos _ _ hg, Int.mul_tdiv_mul_of_pos _ _ hg]
theorem rmean_ok (s : Signal) (n : Int) (h : factS s ∧ -1099511627776 ≤ n ∧ n ≤ 1099511627776) : rmean_vc s n (fun r => r = meanS s n) := by
 obtain ⟨⟨m0, m1, m2, d1, d2, a1, a2⟩, n1, n2⟩ := h
 have hN := mul_abs (a := n) (b := s.Mul) (A := 1099511627776) (B := 1000000) ⟨n1, n2⟩ ⟨m1, m2⟩
 unfold rmean_vc
 rw [w64_eq (n * s.Mul) (by omega)]
 refine ⟨⟨by omega, by omega, by omega⟩, ?_⟩
 rintro _ rfl _ _
 refine ⟨by omega, ?_⟩
 rintro _ rfl _ _
 have hA := mul_abs (a := s.Add) (b := s.Div) (A := 1000000) (B := 1000000) ⟨a1, a2⟩ ⟨by omega, d2⟩
 have hmean : meanS s n = ⟨s.Name, iv (nrm0 (n * s.Mul + s.Add * s.Div) s.Div).a, iv (nrm0 (n * s.Mul + s.Add * s.Div) s.Div).b⟩ := by
  unfold nrm0 meanS ngcd
  dsimp only
  rw [iv_bz, iv_bz]
 rw [hmean]
 generalize n * s.Mul = N at *
 obtain ⟨g, x, y, hg, hy, hx1, hy1, hq, _⟩ := nrm0_is (a := N) (b := s.Div) (by omega)
 have e36 : rsf64S (⟨(⟨false, []⟩ : BInt), (⟨false, []⟩ : BInt)⟩ : BRat) N s.Div = ⟨bz x, bz y⟩ := by
  unfold rsf64S
  rw [nrm_pos (by omega), hq]
 have e73 : rsiS (⟨(⟨false, []⟩ : BInt), (⟨false, []⟩ : BInt)⟩ : BRat) s.Add = ⟨bz s.Add, bz 1⟩ := nrm_one _
 rw [e36, e73]
 have bx := abs_part hg hx1
 have by' := abs_part hg hy1
 have hAy := mul_abs (a := s.Add) (b := y) (A := 1000000) (B := 1000000) ⟨a1, a2⟩ (by omega)
 refine ⟨⟨⟨bk_bz (by omega), bk_bz (by omega), ?_⟩, ⟨bk_bz (by omega), bk_bz (by decide), ?_⟩, ?_⟩, ?_⟩
 · show 0 < iv (bz y)
   rw [iv_bz]
   exact hy
 · show 0 < iv (bz 1)
   rw [iv_bz]
   decide
 · unfold rlow
   dsimp only
   rw [iv_bz, iv_bz, iv_bz, iv_bz, Int.mul_one, Int.mul_one]
   omega
 have e94 : raddS (⟨bz x, bz y⟩ : BRat) ⟨bz s.Add, bz 1⟩ = (nrm0 (N + s.Add * s.Div) s.Div, ⟨bz s.Add, bz 1⟩) := by
  unfold raddS
  dsimp only
  rw [iv_bz, iv_bz, iv_bz, iv_bz, Int.mul_one, Int.mul_one, nrm_pos hy]
  have e1 : N + s.Add * s.Div = g * (x + s.Add * y) := by
   rw [Int.mul_add, ← hx1, hy1]
   congr 1
   rw [← Int.mul_assoc, ← Int.mul_assoc, Int.mul_comm s.Add g]
  rw [e1, hy1, nrm0_scale hg]
 rw [e94]
 obtain ⟨g2, x2, y2, hg2, hy2, hx3, hy3, hq2, _⟩ := nrm0_is (a := N + s.Add * s.Div) (b := s.Div) (by omega)
 have bx2 := abs_part hg2 hx3
 have by2 := abs_part hg2 hy3
 rw [hq2]
 rintro _ rfl _ _ _ _
 have k1 : bs (bz x2) := by unfold bs; rw [iv_bz]; exact ⟨rfl, by omega⟩
 have k2 : bs (bz y2) := by unfold bs; rw [iv_bz]; exact ⟨rfl, by omega⟩
 exact ⟨k1, ⟨bs_bk k2, iv_ne (bs_bk k2) (by show iv (bz y2) ≠ 0; rw [iv_bz]; omega)⟩, k2, rfl⟩
end Go.Proofs.YtdndfbamhnchfaaGreatDoor
set_option linter.unusedVariables false
set_option linter.unusedSimpArgs false
namespace Go.Proofs.YtdndfbamhnchfaaGreatDoor
open Go.Sy Go.RowKit
def runm_vc (u0 : Signal) (u1 : Int) (u2 : Int) (K : (Int × Int) → Prop) : Prop := ((((((decide (u2 < 1)) || (decide (u2 > 1000000))) || (decide (u1 > 1099511627776))) || (decide (u1 < (-1099511627776)))) = true → (K (0, 3))) ∧ (((((decide (u2 < 1)) || (decide (u2 > 1000000))) || (decide (u1 > 1099511627776))) || (decide (u1 < (-1099511627776)))) = false → ((u2 ≠ 0 ∧ (-9223372036854775808 ≤ u1 ∧ u1 ≤ 9223372036854775807) ∧ -9223372036854775808 ≤ u2 ∧ u2 ≤ 9223372036854775807) ∧ (∀ r67, (rsf64S (⟨(⟨false, []⟩ : BInt), (⟨false, []⟩ : BInt)⟩ : BRat) u1 u2) = r67 → (r67.a.abs.length ≤ 140737488355328 → (r67.b.abs.length ≤ 140737488355328 → ((-9223372036854775808 ≤ u0.Add ∧ u0.Add ≤ 9223372036854775807) ∧ (∀ r104, (rsiS (⟨(⟨false, []⟩ : BInt), (⟨false, []⟩ : BInt)⟩ : BRat) u0.Add) = r104 → (r104.a.abs.length ≤ 140737488355328 → (r104.b.abs.length ≤ 140737488355328 → ((rk r67 ∧ rk r104 ∧ rlows r67 r104) ∧ (∀ r125, (rsubS r67 r104) = r125 → (r125.1.a.abs.length ≤ 140737488355328 → (r125.1.b.abs.length ≤ 140737488355328 → (r125.2.a.abs.length ≤ 140737488355328 → (r125.2.b.abs.length ≤ 140737488355328 → ((-9223372036854775808 ≤ u0.Div ∧ u0.Div ≤ 9223372036854775807) ∧ (∀ r168, (rsiS (⟨(⟨false, []⟩ : BInt), (⟨false, []⟩ : BInt)⟩ : BRat) u0.Div) = r168 → (r168.a.abs.length ≤ 140737488355328 → (r168.b.abs.length ≤ 140737488355328 → ((rk r125.1 ∧ rk r168 ∧ rlowm r125.1 r168) ∧ (∀ r189, (rmulS r125.1 r168) = r189 → (r189.1.a.abs.length ≤ 140737488355328 → (r189.1.b.abs.length ≤ 140737488355328 → (r189.2.a.abs.length ≤ 140737488355328 → (r189.2.b.abs.length ≤ 140737488355328 → ((-9223372036854775808 ≤ u0.Mul ∧ u0.Mul ≤ 9223372036854775807) ∧ (∀ r232, (rsiS (⟨(⟨false, []⟩ : BInt), (⟨false, []⟩ : BInt)⟩ : BRat) u0.Mul) = r232 → (r232.a.abs.length ≤ 140737488355328 → (r232.b.abs.length ≤ 140737488355328 → ((rk r189.1 ∧ rk r232 ∧ rlowq r189.1 r232) ∧ (∀ r253, (rquoS r189.1 r232) = r253 → (r253.1.a.abs.length ≤ 140737488355328 → (r253.1.b.abs.length ≤ 140737488355328 → (r253.2.a.abs.length ≤ 140737488355328 → (r253.2.b.abs.length ≤ 140737488355328 → ((rk r253.1) ∧ (∀ r285, (risintS r253.1) = r285 → (r285.2.a.abs.length ≤ 140737488355328 → (r285.2.b.abs.length ≤ 140737488355328 → (((!r285.1) = true → (K (0, 4))) ∧ ((!r285.1) = false → ((-9223372036854775808 ≤ (0 : Int) ∧ (0 : Int) ≤ 9223372036854775807) ∧ ((-9223372036854775808 ≤ (1 : Int) ∧ (1 : Int) ≤ 9223372036854775807) ∧ ((bk (bz 1) ∧ 0 ≤ iv (bz 1) ∧ 0 ≤ (wu64 u0.Size) ∧ (wu64 u0.Size) ≤ 100) ∧ ((u0.Signed = true → ((bk (glshIS (⟨false, []⟩ : BInt) (bz 1) (wu64 u0.Size)).1 ∧ 0 ≤ iv (glshIS (⟨false, []⟩ : BInt) (bz 1) (wu64 u0.Size)).1 ∧ (1 : Int) = 1) ∧ (∀ r431, (grshIS (glshIS (⟨false, []⟩ : BInt) (bz 1) (wu64 u0.Size)).1 1) = r431 → (r431.abs.length ≤ 140737488355328 → ((bk r431) ∧ (∀ r453, (gnegIS (bz 0) r431) = r453 → (r453.1.abs.length ≤ 140737488355328 → (r453.2.abs.length ≤ 140737488355328 → (∀ r475, (rnumS r285.2) = r475 → (r475.a.abs.length ≤ 140737488355328 → (r475.b.abs.length ≤ 140737488355328 → ((bk r475.a ∧ bk r453.1) ∧ (∀ r498, (gcmpAS r475 r453.1) = r498 → (r498.2.1.a.abs.length ≤ 140737488355328 → (r498.2.1.b.abs.length ≤ 140737488355328 → (r498.2.2.abs.length ≤ 140737488355328 → (((decide (r498.1 < 0)) = true → (K (0, 3))) ∧ ((decide (r498.1 < 0)) = false → (∀ r549, (rnumS r498.2.1) = r549 → (r549.a.abs.length ≤ 140737488355328 → (r549.b.abs.length ≤ 140737488355328 → ((bk r549.a ∧ bk r453.2) ∧ (∀ r572, (gcmpAS r549 r453.2) = r572 → (r572.2.1.a.abs.length ≤ 140737488355328 → (r572.2.1.b.abs.length ≤ 140737488355328 → (r572.2.2.abs.length ≤ 140737488355328 → (((decide (r572.1 ≥ 0)) = true → (K (0, 3))) ∧ ((decide (r572.1 ≥ 0)) = false → (∀ r610, (rnumS r572.2.1) = r610 → (r610.a.abs.length ≤ 140737488355328 → (r610.b.abs.length ≤ 140737488355328 → ((bs r610.a) ∧ (∀ r631, (gi64AS r610) = r631 → (r631.2.a.abs.length ≤ 140737488355328 → (r631.2.b.abs.length ≤ 140737488355328 → (K (r631.1, 0))))))))))))))))))))))))))))))))))))) ∧ (u0.Signed = false → (∀ r658, (rnumS r285.2) = r658 → (r658.a.abs.length ≤ 140737488355328 → (r658.b.abs.length ≤ 140737488355328 → ((bk r658.a ∧ bk (bz 0)) ∧ (∀ r681, (gcmpAS r658 (bz 0)) = r681 → (r681.2.1.a.abs.length ≤ 140737488355328 → (r681.2.1.b.abs.length ≤ 140737488355328 → (r681.2.2.abs.length ≤ 140737488355328 → (((decide (r681.1 < 0)) = true → (K (0, 3))) ∧ ((decide (r681.1 < 0)) = false → (∀ r732, (rnumS r681.2.1) = r732 → (r732.a.abs.length ≤ 140737488355328 → (r732.b.abs.length ≤ 140737488355328 → ((bk r732.a ∧ bk (glshIS (⟨false, []⟩ : BInt) (bz 1) (wu64 u0.Size)).1) ∧ (∀ r755, (gcmpAS r732 (glshIS (⟨false, []⟩ : BInt) (bz 1) (wu64 u0.Size)).1) = r755 → (r755.2.1.a.abs.length ≤ 140737488355328 → (r755.2.1.b.abs.length ≤ 140737488355328 → (r755.2.2.abs.length ≤ 140737488355328 → (((decide (r755.1 ≥ 0)) = true → (K (0, 3))) ∧ ((decide (r755.1 ≥ 0)) = false → (∀ r793, (rnumS r755.2.1) = r793 → (r793.a.abs.length ≤ 140737488355328 → (r793.b.abs.length ≤ 140737488355328 → ((bs r793.a) ∧ (∀ r814, (gi64AS r793) = r814 → (r814.2.a.abs.length ≤ 140737488355328 → (r814.2.b.abs.length ≤ 140737488355328 → (K (r814.1, 0))))))))))))))))))))))))))))))))))))))))))))))))))))))))))))))))))))))))))))
theorem ngcd_coprime {a b : Int} (h : b ≠ 0) : ngcd (a.tdiv (ngcd a b)) (b.tdiv (ngcd a b)) = 1 := by
 have hp := ngcd_pos (a := a) h
 have e1 : a.tdiv (ngcd a b) = a / ngcd a b := Int.tdiv_eq_ediv_of_dvd (ngcd_left a b)
 have e2 : b.tdiv (ngcd a b) = b / ngcd a b := Int.tdiv_eq_ediv_of_dvd (ngcd_right a b)
 rw [e1, e2]
 unfold ngcd at *
 rw [Int.gcd_ediv_gcd_ediv_gcd (by omega)]
 rfl
theorem dvd_co {a b c : Int} (h : a ∣ b * c) (hg : ngcd a b = 1) : a ∣ c := by
 have hn : Nat.gcd a.natAbs b.natAbs = 1 := by
  have : ((Nat.gcd a.natAbs b.natAbs : Nat) : Int) = 1 := hg
  omega
 have h1 : a.natAbs ∣ b.natAbs * c.natAbs := by rw [← Int.natAbs_mul]; exact Int.natAbs_dvd_natAbs.2 h
 exact Int.natAbs_dvd_natAbs.1 (Nat.Coprime.dvd_of_dvd_mul_left hn h1)
theorem ngcd_comm (a b : Int) : ngcd a b = ngcd b a := by unfold ngcd; rw [Int.gcd_comm]
theorem ngcd_neg_left (a b : Int) : ngcd (-a) b = ngcd a b := by unfold ngcd; rw [Int.neg_gcd]
theorem ngcd_neg_right (a b : Int) : ngcd a (-b) = ngcd a b := by unfold ngcd; rw [Int.gcd_neg]
theorem ngcd_dvd {a b : Int} (hb : 0 < b) (h : b ∣ a) : ngcd a b = b := by unfold ngcd; rw [Int.gcd_eq_right (by omega) h]
theorem rawN_back {mul div add num den n : Int} (hm : mul ≠ 0) (hd : 0 < den) (h : n * mul * den = (num - add * den) * div) : rawN mul div add num den = (n, true) := by
 unfold rawN
 dsimp only
 generalize num - add * den = up at *
 have g0 := ngcd_pos (a := div) hm
 have g1 := Int.tdiv_mul_cancel (ngcd_left div mul)
 have g2 := Int.tdiv_mul_cancel (ngcd_right div mul)
 have gc := ngcd_coprime (a := div) hm
 generalize ngcd div mul = g at *
 generalize div.tdiv g = a0 at *
 generalize mul.tdiv g = b0 at *
 have hb0 : b0 ≠ 0 := by intro e; rw [e, Int.zero_mul] at g2; exact hm g2.symm
 obtain ⟨a, b, ha, hb, hbp, hab, heq⟩ : ∃ a b : Int, (if b0 < 0 then -a0 else a0) = a ∧ (if b0 < 0 then -b0 else b0) = b ∧ 0 < b ∧ ngcd a b = 1 ∧ n * b * den = up * a := by
  have h2 : n * b0 * den = up * a0 := by
   have : n * b0 * den * g = up * a0 * g := by
    have e1 : n * b0 * den * g = n * (b0 * g) * den := by ac_rfl
    have e2 : up * a0 * g = up * (a0 * g) := by ac_rfl
    rw [e1, e2, g1, g2, h]
   exact Int.eq_of_mul_eq_mul_right (by omega) this
  by_cases hn : b0 < 0
  · refine ⟨-a0, -b0, by rw [if_pos hn], by rw [if_pos hn], by omega, by rw [ngcd_neg_left, ngcd_neg_right, gc], ?_⟩
    rw [Int.mul_neg, Int.neg_mul, Int.mul_neg, h2]
  · exact ⟨a0, b0, by rw [if_neg hn], by rw [if_neg hn], by omega, gc, h2⟩
 rw [ha, hb]
 clear ha hb h g1 g2 gc hb0
 have k1 := Int.tdiv_mul_cancel (ngcd_left up den)
 have k2 := Int.tdiv_mul_cancel (ngcd_right up den)
 have kc := ngcd_coprime (a := up) (b := den) (by omega)
 have k0 := ngcd_pos (a := up) (b := den) (by omega)
 generalize ngcd up den = k at *
 generalize up.tdiv k = up1 at *
 generalize den.tdiv k = den1 at *
 have hd1 : 0 < den1 := by
  rcases Int.lt_trichotomy den1 0 with e | e | e
  · have := Int.mul_neg_of_neg_of_pos e k0; omega
  · rw [e, Int.zero_mul] at k2; omega
  · exact e
 have heq2 : n * b * den1 = up1 * a := by
  have : n * b * den1 * k = up1 * a * k := by
   have e1 : n * b * den1 * k = n * b * (den1 * k) := by ac_rfl
   have e2 : up1 * a * k = (up1 * k) * a := by ac_rfl
   rw [e1, e2, k1, k2, heq]
  exact Int.eq_of_mul_eq_mul_right (by omega) this
 have hda : den1 ∣ a := dvd_co (b := up1) ⟨n * b, by rw [← heq2]; ac_rfl⟩ (by rw [ngcd_comm]; exact kc)
 rw [ngcd_dvd hd1 hda]
 obtain ⟨a1, rfl⟩ := hda
 rw [Int.mul_tdiv_cancel_left _ (by omega : den1 ≠ 0), Int.tdiv_self (by omega)]
 have heq3 : n * b = up1 * a1 := by
  have : n * b * den1 = up1 * a1 * den1 := by rw [heq2]; ac_rfl
  exact Int.eq_of_mul_eq_mul_right (by omega) this
 have hba : ngcd b a1 = 1 := by
  have h1 : ngcd b a1 ∣ ngcd (den1 * a1) b := by
   unfold ngcd
   exact Int.natCast_dvd_natCast.2 (Nat.dvd_gcd (by rw [Int.natAbs_mul]; exact Nat.dvd_trans (Nat.gcd_dvd_right _ _) (Nat.dvd_mul_left _ _)) (Nat.gcd_dvd_left _ _))
  rw [hab] at h1
  have h2 := Int.le_of_dvd (by decide) h1
  have h3 := ngcd_pos (a := a1) (b := b) (by omega)
  rw [ngcd_comm] at h3
  omega
 have hbu : b ∣ up1 := dvd_co (b := a1) ⟨n, by rw [Int.mul_comm a1, ← heq3]; ac_rfl⟩ hba
 rw [ngcd_dvd hbp hbu]
 obtain ⟨u, rfl⟩ := hbu
 rw [Int.mul_tdiv_cancel_left _ (by omega : b ≠ 0), Int.tdiv_self (by omega)]
 have : n = u * a1 := by
  have : n * b = u * a1 * b := by rw [heq3]; ac_rfl
  exact Int.eq_of_mul_eq_mul_right (by omega) this
 rw [this]
 rfl
theorem nrm_is {a b : Int} (hb : b ≠ 0) : ∃ g x y : Int, g ≠ 0 ∧ 0 < y ∧ a = g * x ∧ b = g * y ∧ nrm a b = ⟨bz x, bz y⟩ ∧ Int.gcd x y = 1 := by
 by_cases h : b < 0
 · obtain ⟨g, x, y, h1, h2, h3, h4, h5, h6⟩ := nrm0_is (a := -a) (b := -b) (by omega)
   refine ⟨-g, x, y, by omega, h2, ?_, ?_, ?_, h6⟩
   · rw [Int.neg_mul, ← h3]
     omega
   · rw [Int.neg_mul, ← h4]
     omega
   · unfold nrm
     rw [if_pos h]
     exact h5
 · obtain ⟨g, x, y, h1, h2, h3, h4, h5, h6⟩ := nrm0_is (a := a) (b := b) (by omega)
   exact ⟨g, x, y, by omega, h2, h3, h4, by rw [nrm_pos (by omega)]; exact h5, h6⟩
theorem abs_part2 {g x a : Int} (hg : g ≠ 0) (h : a = g * x) : x.natAbs ≤ a.natAbs := by
 rw [h, Int.natAbs_mul]
 have : 1 * x.natAbs ≤ g.natAbs * x.natAbs := Nat.mul_le_mul_right _ (by omega)
 omega
theorem zcmp_lt {x y : Int} : decide (zcmp x y < 0) = decide (x < y) := by
 unfold zcmp
 rw [decide_eq_decide]
 split
 · rename_i h
   exact ⟨fun _ => h, fun _ => by decide⟩
 · rename_i h
   split
   · exact ⟨fun hc => absurd hc (by decide), fun hc => absurd hc h⟩
   · exact ⟨fun hc => absurd hc (by decide), fun hc => absurd hc h⟩
theorem zcmp_ge {x y : Int} : decide (zcmp x y ≥ 0) = decide (y ≤ x) := by
 unfold zcmp
 rw [decide_eq_decide]
 split
 · exact ⟨fun hc => absurd hc (by decide), fun hc => by omega⟩
 · split
   · exact ⟨fun _ => by omega, fun _ => by decide⟩
   · exact ⟨fun _ => by omega, fun _ => by decide⟩
theorem unm_tail (R : BRat) (x L U : Int) (hR : R.a = bz x) (bx : x.natAbs < 9223372036854775808) (bL : L.natAbs < 18446744073709551616) (bU : U.natAbs < 18446744073709551616) {A : Int × Int → Prop} (h1 : x < L → A (0, 3)) (h2 : U ≤ x → A (0, 3)) (h3 : L ≤ x → x < U → A (x, 0)) : (∀ r743, (rnumS R) = r743 → (r743.a.abs.length ≤ 140737488355328 → (r743.b.abs.length ≤ 140737488355328 → ((bk r743.a ∧ bk (bz L)) ∧ (∀ r766, (gcmpAS r743 (bz L)) = r766 → (r766.2.1.a.abs.length ≤ 140737488355328 → (r766.2.1.b.abs.length ≤ 140737488355328 → (r766.2.2.abs.length ≤ 140737488355328 → (((decide (r766.1 < 0)) = true → (A (0, 3))) ∧ ((decide (r766.1 < 0)) = false → (∀ r817, (rnumS r766.2.1) = r817 → (r817.a.abs.length ≤ 140737488355328 → (r817.b.abs.length ≤ 140737488355328 → ((bk r817.a ∧ bk (bz U)) ∧ (∀ r840, (gcmpAS r817 (bz U)) = r840 → (r840.2.1.a.abs.length ≤ 140737488355328 → (r840.2.1.b.abs.length ≤ 140737488355328 → (r840.2.2.abs.length ≤ 140737488355328 → (((decide (r840.1 ≥ 0)) = true → (A (0, 3))) ∧ ((decide (r840.1 ≥ 0)) = false → (∀ r878, (rnumS r840.2.1) = r878 → (r878.a.abs.length ≤ 140737488355328 → (r878.b.abs.length ≤ 140737488355328 → ((bs r878.a) ∧ (∀ r899, (gi64AS r878) = r899 → (r899.2.a.abs.length ≤ 140737488355328 → (r899.2.b.abs.length ≤ 140737488355328 → (A (r899.1, 0))))))))))))))))))))))))))))) := by
 have ka : bk R.a := by rw [hR]; exact bk_bz (by omega)
 have ks : bs R.a := by
  rw [hR]
  unfold bs
  rw [iv_bz]
  exact ⟨rfl, bx⟩
 have hiv : iv R.a = x := by rw [hR, iv_bz]
 rintro _ rfl _ _
 refine ⟨⟨ka, bk_bz bL⟩, ?_⟩
 rintro _ rfl _ _ _
 have e1 : (gcmpAS (rnumS R) (bz L)).1 = zcmp x L := by
  show zcmp (iv R.a) (iv (bz L)) = _
  rw [hiv, iv_bz]
 rw [e1, zcmp_lt]
 refine ⟨fun h => h1 (of_decide_eq_true h), fun h => ?_⟩
 have h := of_decide_eq_false h
 rintro _ rfl _ _
 refine ⟨⟨ka, bk_bz bU⟩, ?_⟩
 rintro _ rfl _ _ _
 have e2 : (gcmpAS (rnumS (gcmpAS (rnumS R) (bz L)).2.1) (bz U)).1 = zcmp x U := by
  show zcmp (iv R.a) (iv (bz U)) = _
  rw [hiv, iv_bz]
 rw [e2, zcmp_ge]
 refine ⟨fun h => h2 (of_decide_eq_true h), fun h' => ?_⟩
 have h' := of_decide_eq_false h'
 rintro _ rfl _ _
 refine ⟨ks, ?_⟩
 rintro _ rfl _ _
 show A (iv R.a, 0)
 rw [hiv]
 exact h3 (by omega) (by omega)
set_option maxHeartbeats 0 in
theorem runm_ok (s : Signal) (num den : Int) (h : checkS s 64 = 0) : runm_vc s num den (fun r => r = rawS s num den) := by
 obtain ⟨⟨_, _, z1, z2⟩, ⟨m0, m1, m2, d1, d2, a1, a2⟩, _, _⟩ := check_zero h
 unfold rawS
 rw [if_neg (show ¬ checkS s 64 ≠ 0 by rw [h]; simp)]
 refine ⟨fun h1 => ?_, fun h1 => ?_⟩
 · rw [if_pos]
   simp only [Bool.or_eq_true, decide_eq_true_eq] at h1
   omega
 simp only [Bool.or_eq_false_iff, decide_eq_false_iff_not] at h1
 rw [if_neg (by omega)]
 refine ⟨by omega, ?_⟩
 obtain ⟨g, x, y, hg, hy, hx1, hy1, hq1, _⟩ := nrm_is (a := num) (b := den) (by omega)
 have bx := abs_part2 hg hx1
 have bY := abs_part2 hg hy1
 have e67 : rsf64S (⟨(⟨false, []⟩ : BInt), (⟨false, []⟩ : BInt)⟩ : BRat) num den = ⟨bz x, bz y⟩ := hq1
 rw [e67]
 rintro _ rfl _ _
 refine ⟨by omega, ?_⟩
 have e104 : rsiS (⟨(⟨false, []⟩ : BInt), (⟨false, []⟩ : BInt)⟩ : BRat) s.Add = ⟨bz s.Add, bz 1⟩ := nrm_one _
 rw [e104]
 rintro _ rfl _ _
 have hAy := mul_abs (a := s.Add) (b := y) (A := 1000000) (B := 1000000) ⟨a1, a2⟩ (by omega)
 have rk1 : ∀ z : Int, z.natAbs < 18446744073709551616 → rk ⟨bz z, bz 1⟩ := fun z hz => ⟨bk_bz hz, bk_bz (by decide), by show 0 < iv (bz 1); rw [iv_bz]; decide⟩
 have rk2 : ∀ z w : Int, z.natAbs < 18446744073709551616 → w.natAbs < 18446744073709551616 → 0 < w → rk ⟨bz z, bz w⟩ := fun z w hz hw h0 => ⟨bk_bz hz, bk_bz hw, by show 0 < iv (bz w); rw [iv_bz]; exact h0⟩
 refine ⟨⟨rk2 x y (by omega) (by omega) hy, rk1 s.Add (by omega), ?_⟩, ?_⟩
 · unfold rlows
   dsimp only
   rw [iv_bz, iv_bz, iv_bz, iv_bz, Int.mul_one, Int.mul_one]
   omega
 obtain ⟨g2, x2, y2, hg2, hy2, hx3, hy3, hq2, _⟩ := nrm_is (a := x - s.Add * y) (b := y) (by omega)
 have bx2 := abs_part2 hg2 hx3
 have bY2 := abs_part2 hg2 hy3
 have e125 : rsubS (⟨bz x, bz y⟩ : BRat) ⟨bz s.Add, bz 1⟩ = (⟨bz x2, bz y2⟩, ⟨bz s.Add, bz 1⟩) := by
  unfold rsubS
  dsimp only
  rw [iv_bz, iv_bz, iv_bz, iv_bz, Int.mul_one, Int.mul_one, hq2]
 rw [e125]
 rintro _ rfl _ _ _ _
 refine ⟨by omega, ?_⟩
 have e168 : rsiS (⟨(⟨false, []⟩ : BInt), (⟨false, []⟩ : BInt)⟩ : BRat) s.Div = ⟨bz s.Div, bz 1⟩ := nrm_one _
 rw [e168]
 rintro _ rfl _ _
 have hxd := mul_abs (a := x2) (b := s.Div) (A := 2099511627776) (B := 1000000) (by omega) ⟨by omega, d2⟩
 refine ⟨⟨rk2 x2 y2 (by omega) (by omega) hy2, rk1 s.Div (by omega), ?_⟩, ?_⟩
 · unfold rlowm
   dsimp only
   rw [iv_bz, iv_bz, iv_bz, iv_bz, Int.mul_one]
   omega
 obtain ⟨g3, x3, y3, hg3, hy3', hx4, hy4, hq3, _⟩ := nrm_is (a := x2 * s.Div) (b := y2) (by omega)
 have bx3 := abs_part2 hg3 hx4
 have bY3 := abs_part2 hg3 hy4
 have e189 : rmulS (⟨bz x2, bz y2⟩ : BRat) ⟨bz s.Div, bz 1⟩ = (⟨bz x3, bz y3⟩, ⟨bz s.Div, bz 1⟩) := by
  unfold rmulS
  dsimp only
  rw [iv_bz, iv_bz, iv_bz, iv_bz, Int.mul_one, hq3]
 rw [e189]
 rintro _ rfl _ _ _ _
 refine ⟨by omega, ?_⟩
 have e232 : rsiS (⟨(⟨false, []⟩ : BInt), (⟨false, []⟩ : BInt)⟩ : BRat) s.Mul = ⟨bz s.Mul, bz 1⟩ := nrm_one _
 rw [e232]
 rintro _ rfl _ _
 have hym := mul_abs (a := y3) (b := s.Mul) (A := 1000000) (B := 1000000) (by omega) ⟨m1, m2⟩
 have hym0 : y3 * s.Mul ≠ 0 := Int.mul_ne_zero (by omega) m0
 refine ⟨⟨rk2 x3 y3 (by omega) (by omega) hy3', rk1 s.Mul (by omega), ?_⟩, ?_⟩
 · unfold rlowq
   dsimp only
   rw [iv_bz, iv_bz, iv_bz, iv_bz, Int.mul_one]
   exact ⟨by omega, by omega, m0⟩
 obtain ⟨g4, x4, y4, hg4, hy4', hx5, hy5, hq4, hco⟩ := nrm_is (a := x3) (b := y3 * s.Mul) hym0
 have bx4 := abs_part2 hg4 hx5
 have bY4 := abs_part2 hg4 hy5
 have e253 : rquoS (⟨bz x3, bz y3⟩ : BRat) ⟨bz s.Mul, bz 1⟩ = (⟨bz x4, bz y4⟩, ⟨bz s.Mul, bz 1⟩) := by
  unfold rquoS
  dsimp only
  rw [iv_bz, iv_bz, iv_bz, iv_bz, Int.mul_one, hq4]
 rw [e253]
 rintro _ rfl _ _ _ _
 refine ⟨rk2 x4 y4 (by omega) (by omega) hy4', ?_⟩
 have e286 : risintS (⟨bz x4, bz y4⟩ : BRat) = (decide (y4 = 1), ⟨bz x4, bz y4⟩) := by
  unfold risintS
  dsimp only
  rw [iv_bz]
 rw [e286]
 rintro _ rfl _ _
 have hrel : x4 * (den * s.Mul) = y4 * ((num - s.Add * den) * s.Div) := by
  have r1 : num - s.Add * den = g * (g2 * x2) := by
   rw [hx1, hy1, Int.mul_left_comm s.Add g y, ← Int.mul_sub, hx3]
  have r2 : den = g * (g2 * (g3 * y3)) := by rw [hy1, hy3, hy4]
  have r3 : x4 * (y3 * s.Mul) = y4 * x3 := by
   rw [hy5, hx5, Int.mul_left_comm, Int.mul_left_comm y4 g4, Int.mul_comm x4 y4]
  have r4 : (num - s.Add * den) * s.Div = g * (g2 * (g3 * x3)) := by
   rw [r1, Int.mul_assoc, Int.mul_assoc, hx4]
  rw [r4]
  have r5 : den * s.Mul = g * (g2 * (g3 * (y3 * s.Mul))) := by rw [r2, Int.mul_assoc, Int.mul_assoc, Int.mul_assoc]
  rw [r5, Int.mul_left_comm x4 g, Int.mul_left_comm x4 g2, Int.mul_left_comm x4 g3, r3, Int.mul_left_comm y4 g, Int.mul_left_comm y4 g2, Int.mul_left_comm y4 g3]
 have hdm : den * s.Mul ≠ 0 := Int.mul_ne_zero (by omega) m0
 refine ⟨fun h2 => ?_, fun h2 => ?_⟩
 · have h2 : ¬ y4 = 1 := by simpa using h2
   rw [if_pos]
   cases hr : (rawN s.Mul s.Div s.Add num den).2 with
   | false => rfl
   | true =>
    exfalso
    have hs := rawN_sound hr
    generalize (rawN s.Mul s.Div s.Add num den).1 = n at hs
    have h9 : y4 * (n * s.Mul * den) = (y4 * n) * (den * s.Mul) := by rw [Int.mul_assoc n, Int.mul_comm s.Mul den, ← Int.mul_assoc y4]
    rw [← hs, h9] at hrel
    have := Int.eq_of_mul_eq_mul_right hdm hrel
    rw [this, Int.gcd_mul_right_left] at hco
    omega
 have h2 : y4 = 1 := by simpa using h2
 subst h2
 rw [Int.one_mul] at hrel
 have hraw : rawN s.Mul s.Div s.Add num den = (x4, true) := rawN_back m0 (by omega) (by rw [← hrel, Int.mul_assoc, Int.mul_comm s.Mul den])
 rw [hraw, if_neg (by simp)]
 dsimp only
 obtain ⟨S, hS⟩ : ∃ S : Nat, s.Size = ((S + 1 : Nat) : Int) := ⟨s.Size.toNat - 1, by omega⟩
 have hw : wu64 s.Size = ((S + 1 : Nat) : Int) := by rw [hS, wu64_eq _ (by omega)]
 have hp : (2 : Int) ^ S ≤ 549755813888 := by
  have : 2 ^ S ≤ 2 ^ 39 := Nat.pow_le_pow_right (by omega) (by omega)
  have e : ((2 ^ S : Nat) : Int) = (2 : Int) ^ S := by norm_cast
  omega
 have hp0 : (0 : Int) < 2 ^ S := Int.pow_pos (by decide)
 have hps : (2 : Int) ^ (S + 1) = 2 * 2 ^ S := by rw [Int.pow_succ]; omega
 have eL : glshIS (⟨false, []⟩ : BInt) (bz 1) (wu64 s.Size) = (bz (2 * 2 ^ S), bz 1) := by
  unfold glshIS
  rw [hw, iv_bz, Int.toNat_natCast, hps, Int.one_mul]
 rw [eL]
 refine ⟨by decide, by decide, ⟨bk_bz (by decide), by rw [iv_bz]; decide, by omega, by omega⟩, fun hsg => ⟨⟨bk_bz (by omega), by show 0 ≤ iv (bz _); rw [iv_bz]; omega, rfl⟩, ?_⟩, fun hsg => ?_⟩
 · have eR : grshIS (bz (2 * 2 ^ S)) 1 = bz (2 ^ S) := by
     unfold grshIS
     rw [iv_bz]
     congr 1
     show 2 * 2 ^ S / 2 ^ 1 = _
     omega
   rw [eR]
   rintro _ rfl _
   refine ⟨bk_bz (by omega), ?_⟩
   have eN : gnegIS (bz 0) (bz (2 ^ S)) = (bz (-(2 ^ S)), bz (2 ^ S)) := by
    unfold gnegIS
    rw [iv_bz]
   rw [eN]
   rintro _ rfl _ _
   have hlo : lowS s = -(2 ^ S) := by
    unfold lowS
    rw [if_pos hsg, hS, Int.toNat_natCast, Nat.add_sub_cancel]
   have hhi : highS s = 2 ^ S - 1 := by
    unfold highS
    rw [if_pos hsg, hS, Int.toNat_natCast, Nat.add_sub_cancel]
   rw [hlo, hhi]
   dsimp only
   refine unm_tail ⟨bz x4, bz 1⟩ x4 (-(2 ^ S)) (2 ^ S) rfl (by omega) (by omega) (by omega) (A := fun r => r = if x4 < -2 ^ S ∨ 2 ^ S - 1 < x4 then (0, 3) else (x4, 0)) (fun h => ?_) (fun h => ?_) (fun h h' => ?_)
   · rw [if_pos (by omega)]
   · rw [if_pos (by omega)]
   · rw [if_neg (by omega)]
 · have hlo : lowS s = 0 := by
     unfold lowS
     rw [if_neg (by rw [hsg]; simp)]
   have hhi : highS s = 2 * 2 ^ S - 1 := by
    unfold highS
    rw [if_neg (by rw [hsg]; simp), hS, Int.toNat_natCast, hps]
   rw [hlo, hhi]
   dsimp only
   refine unm_tail ⟨bz x4, bz 1⟩ x4 0 (2 * 2 ^ S) rfl (by omega) (by decide) (by omega) (A := fun r => r = if x4 < 0 ∨ 2 * 2 ^ S - 1 < x4 then (0, 3) else (x4, 0)) (fun h => ?_) (fun h => ?_) (fun h h' => ?_)
   · rw [if_pos (by omega)]
   · rw [if_pos (by omega)]
   · rw [if_neg (by omega)]
end Go.Proofs.YtdndfbamhnchfaaGreatDoor
set_option linter.unusedVariables false
set_option linter.unusedSimpArgs false
namespace Go.Proofs.YtdndfbamhnchfaaGreatDoor
open Go.Sy Go.RowKit
def rreads_vc (u0 : Message) (u1 : Frame) (K : ((List Reading) × Int) → Prop) : Prop := (u0.Signals.length ≤ 140737488355328 → (u1.Data.length ≤ 140737488355328 → (((((u1.ID != u0.ID) || (u1.Long != u0.Long)) || u1.Remote) = true → (K (([] : List Reading), 8))) ∧ ((((u1.ID != u0.ID) || (u1.Long != u0.Long)) || u1.Remote) = false → (((decide ((u1.Data.length : Int) < u0.Size)) = true → (K (([] : List Reading), 7))) ∧ ((decide ((u1.Data.length : Int) < u0.Size)) = false → (∃ inv103 : (List Reading) → Int → Prop, ∃ mu103 : (List Reading) → Int → Nat, inv103 ([] : List Reading) 0 ∧ (∀ (x6 : List Reading) (x34 : Int), inv103 x6 x34 → (((decide (x34 < (u0.Signals.length : Int))) = true → ((0 ≤ x34 ∧ x34 < (u0.Signals.length : Int)) ∧ (∀ q128, u0.Signals[x34.toNat]? = some q128 → ((-1 ≤ q128.Key ∧ therepre u0 q128 u1.Data) ∧ (((mthereS u0 q128 u1.Data) = true → ((inD q128 u1.Data) ∧ ((factS q128 ∧ -1099511627776 ≤ (getS q128 u1.Data) ∧ (getS q128 u1.Data) ≤ 1099511627776) ∧ (((x6.length + 1) * 32 ≤ 140737488355328) ∧ (inv103 (x6 ++ [(meanS q128 (getS q128 u1.Data))]) (w64 (x34 + 1)) ∧ mu103 (x6 ++ [(meanS q128 (getS q128 u1.Data))]) (w64 (x34 + 1)) < mu103 x6 x34))))) ∧ ((mthereS u0 q128 u1.Data) = false → (inv103 x6 (w64 (x34 + 1)) ∧ mu103 x6 (w64 (x34 + 1)) < mu103 x6 x34))))))) ∧ ((decide (x34 < (u0.Signals.length : Int))) = false → (K (x6, 0))))))))))))
def rreadsS (m : Message) (f : Frame) : List Reading × Int :=
 if f.ID ≠ m.ID ∨ f.Long ≠ m.Long ∨ f.Remote = true then ([], 8) else
 if (f.Data.length : Int) < m.Size then ([], 7) else (readL m f.Data m.Signals, 0)
theorem rreads_ok (m : Message) (f : Frame) (h : mcheckS m = 0 ∧ isBytes f.Data) : rreads_vc m f (fun r => r = rreadsS m f) := by
 obtain ⟨hm, hd⟩ := h
 intro _ _
 refine ⟨fun h3 => ?_, fun h3 => ⟨fun h4 => ?_, fun h4 => ?_⟩⟩
 · have h3 : f.ID ≠ m.ID ∨ f.Long ≠ m.Long ∨ f.Remote = true := by
     simp only [Bool.or_eq_true, bne_iff_ne] at h3
     rcases h3 with (h3 | h3) | h3
     · exact .inl h3
     · exact .inr (.inl h3)
     · exact .inr (.inr h3)
   unfold rreadsS
   rw [if_pos h3]
 all_goals have h3 : ¬ (f.ID ≠ m.ID ∨ f.Long ≠ m.Long ∨ f.Remote = true) := by
             simp only [Bool.or_eq_false_iff, bne_eq_false_iff_eq] at h3
             intro hc
             rcases hc with hc | hc | hc
             · exact hc h3.1.1
             · exact hc h3.1.2
             · rw [h3.2] at hc; cases hc
 · have h4 := of_decide_eq_true h4
   unfold rreadsS
   rw [if_neg h3, if_pos h4]
 have h4 := of_decide_eq_false h4
 have hS : rreadsS m f = (readL m f.Data m.Signals, 0) := by
  unfold rreadsS
  rw [if_neg h3, if_neg h4]
 rw [hS]
 have H := mcheck_zero hm
 have hfew := H.few
 refine ⟨fun l i => ∃ k : Nat, i = k ∧ k ≤ m.Signals.length ∧ l = readL m f.Data (m.Signals.take k), fun _ i => m.Signals.length - i.toNat, ⟨0, rfl, by omega, rfl⟩, ?_⟩
 rintro _ _ ⟨k, rfl, hk, rfl⟩
 refine ⟨fun h5 => ?_, fun h5 => ?_⟩
 · have hkl : k < m.Signals.length := by have := of_decide_eq_true h5; omega
   refine ⟨by omega, fun s hs => ?_⟩
   rw [Int.toNat_natCast] at hs
   have hmem := List.mem_of_getElem? hs
   have hck := H.sigs s hmem
   have hrl : ∀ l, readL m f.Data (m.Signals.take k ++ l) = readL m f.Data (m.Signals.take k) ++ readL m f.Data l := fun l => by unfold readL; rw [List.filter_append, List.map_append]
   have hnext : ∀ l, l = readL m f.Data (m.Signals.take (k + 1)) → (∃ j : Nat, w64 ((k : Int) + 1) = j ∧ j ≤ m.Signals.length ∧ l = readL m f.Data (m.Signals.take j)) ∧ m.Signals.length - (w64 ((k : Int) + 1)).toNat < m.Signals.length - k := fun l hl => by
    rw [w64_succ k (by omega)]
    exact ⟨⟨k + 1, rfl, by omega, hl⟩, by rw [Int.toNat_natCast]; omega⟩
   refine ⟨⟨(check_key hck).1, there_pre H hmem hd (by omega)⟩, fun h6 => ⟨inD_le hck hd (by omega), fact_of hck _, ?_, hnext _ ?_⟩, fun h6 => hnext _ ?_⟩
   · have : (readL m f.Data (m.Signals.take k)).length ≤ k := by
       unfold readL
       rw [List.length_map]
       refine Nat.le_trans (List.length_filter_le _ _) ?_
       rw [List.length_take]
       omega
     omega
   · rw [take_next _ _ _ hs, hrl]
     congr 1
     simp [readL, h6]
   · rw [take_next _ _ _ hs, hrl]
     simp [readL, h6]
 · have hkl : k = m.Signals.length := by have := of_decide_eq_false h5; omega
   subst hkl
   rw [List.take_length]
end Go.Proofs.YtdndfbamhnchfaaGreatDoor
set_option linter.unusedVariables false
set_option linter.unusedSimpArgs false
namespace Go.Proofs.YtdndfbamhnchfaaGreatDoor
open Go.Sy Go.RowKit
def rsame_vc (u0 : Frame) (u1 : Frame) (K : Bool → Prop) : Prop := (u0.Data.length ≤ 140737488355328 → (u1.Data.length ≤ 140737488355328 → (K ((((((u0.ID == u1.ID) && (u0.Long == u1.Long)) && (u0.Fast == u1.Fast)) && (u0.Remote == u1.Remote)) && (u0.Size == u1.Size)) && (beqS u0.Data u1.Data)))))
def mrepack_vc (u0 : Message) (u1 : Message) (u2 : Frame) (K : (Frame × Int) → Prop) : Prop := (u0.Signals.length ≤ 140737488355328 → (u1.Signals.length ≤ 140737488355328 → (u2.Data.length ≤ 140737488355328 → ((((mcheckS u1) != 0) = true → (K ((⟨0, false, false, false, 0, []⟩ : Frame), (mcheckS u1)))) ∧ (((mcheckS u1) != 0) = false → ((isBytes u2.Data) ∧ ((readS u0 u2).1.length ≤ 140737488355328 → ((((readS u0 u2).2 != 0) = true → (K ((⟨0, false, false, false, 0, []⟩ : Frame), (readS u0 u2).2))) ∧ (((readS u0 u2).2 != 0) = false → ((0 ≤ u1.Size ∧ u1.Size ≤ u1.Size ∧ u1.Size * 1 ≤ 140737488355328) ∧ (∃ inv189 : (List Int) → Prop, (((decide (u1.Chooser ≥ 0)) = true → ((0 ≤ u1.Chooser ∧ u1.Chooser < (u1.Signals.length : Int)) ∧ (∀ q570, u1.Signals[u1.Chooser.toNat]? = some q570 → (∃ inv596 : Int → (List Int) → Prop, ∃ mu596 : Int → (List Int) → Nat, inv596 0 (List.replicate u1.Size.toNat (0 : Int)) ∧ (∀ (x10 : Int) (zg1440v : List Int), inv596 x10 zg1440v → (((decide (x10 < ((readS u0 u2).1.length : Int))) = true → (∃ inv620 : (List Int) → Prop, ((0 ≤ x10 ∧ x10 < ((readS u0 u2).1.length : Int)) ∧ (∀ q652, (readS u0 u2).1[x10.toNat]? = some q652 → (((q652.Name != q570.Name) = true → (inv620 zg1440v)) ∧ ((q652.Name != q570.Name) = false → ((((rawS q570 q652.Num q652.Den).2 == 0) = true → ((inD q570 zg1440v) ∧ ((putS q570 zg1440v (rawS q570 q652.Num q652.Den).1).length ≤ 140737488355328 → (inv620 (putS q570 zg1440v (rawS q570 q652.Num q652.Den).1))))) ∧ (((rawS q570 q652.Num q652.Den).2 == 0) = false → (inv620 zg1440v))))))) ∧ (∀ (zg1440vv : List Int), inv620 zg1440vv → (inv596 (w64 (x10 + 1)) zg1440vv ∧ mu596 (w64 (x10 + 1)) zg1440vv < mu596 x10 zg1440v)))) ∧ ((decide (x10 < ((readS u0 u2).1.length : Int))) = false → (inv189 zg1440v)))))))) ∧ ((decide (u1.Chooser ≥ 0)) = false → (inv189 (List.replicate u1.Size.toNat (0 : Int))))) ∧ (∀ (zg1440 : List Int), inv189 zg1440 → (∃ inv215 : (List Int) → Prop, (∃ inv247 : Int → (List Int) → Prop, ∃ mu247 : Int → (List Int) → Nat, inv247 0 zg1440 ∧ (∀ (x54 : Int) (zg1440vv : List Int), inv247 x54 zg1440vv → (((decide (x54 < (u1.Signals.length : Int))) = true → (∃ inv271 : (List Int) → Prop, ((0 ≤ x54 ∧ x54 < (u1.Signals.length : Int)) ∧ (∀ q304, u1.Signals[x54.toNat]? = some q304 → (((x54 != u1.Chooser) = true → ((therepre u1 q304 zg1440vv) ∧ (((mthereS u1 q304 zg1440vv) = true → (∃ inv378 : Int → (List Int) → Prop, ∃ mu378 : Int → (List Int) → Nat, inv378 0 zg1440vv ∧ (∀ (x10 : Int) (zg1440vvvv : List Int), inv378 x10 zg1440vvvv → (((decide (x10 < ((readS u0 u2).1.length : Int))) = true → (∃ inv406 : (List Int) → Prop, ((0 ≤ x10 ∧ x10 < ((readS u0 u2).1.length : Int)) ∧ (∀ q442, (readS u0 u2).1[x10.toNat]? = some q442 → (((q442.Name != q304.Name) = true → (inv406 zg1440vvvv)) ∧ ((q442.Name != q304.Name) = false → ((((rawS q304 q442.Num q442.Den).2 == 0) = true → ((inD q304 zg1440vvvv) ∧ ((putS q304 zg1440vvvv (rawS q304 q442.Num q442.Den).1).length ≤ 140737488355328 → (inv406 (putS q304 zg1440vvvv (rawS q304 q442.Num q442.Den).1))))) ∧ (((rawS q304 q442.Num q442.Den).2 == 0) = false → (inv406 zg1440vvvv))))))) ∧ (∀ (zg1440vvvvv : List Int), inv406 zg1440vvvvv → (inv378 (w64 (x10 + 1)) zg1440vvvvv ∧ mu378 (w64 (x10 + 1)) zg1440vvvvv < mu378 x10 zg1440vvvv)))) ∧ ((decide (x10 < ((readS u0 u2).1.length : Int))) = false → (inv271 zg1440vvvv)))))) ∧ ((mthereS u1 q304 zg1440vv) = false → (inv271 zg1440vv))))) ∧ ((x54 != u1.Chooser) = false → (inv271 zg1440vv))))) ∧ (∀ (zg1440vvv : List Int), inv271 zg1440vvv → (inv247 (w64 (x54 + 1)) zg1440vvv ∧ mu247 (w64 (x54 + 1)) zg1440vvv < mu247 x54 zg1440vv)))) ∧ ((decide (x54 < (u1.Signals.length : Int))) = false → (inv215 zg1440vv))))) ∧ (∀ (zg1440v : List Int), inv215 zg1440v → (K ((⟨u1.ID, u1.Long, false, false, 0, zg1440v⟩ : Frame), 0))))))))))))))))
def rsameS (a b : Frame) : Bool := (((((a.ID == b.ID) && (a.Long == b.Long)) && (a.Fast == b.Fast)) && (a.Remote == b.Remote)) && (a.Size == b.Size)) && (beqS a.Data b.Data)
theorem rsame_ok (a b : Frame) : rsame_vc a b (fun r => r = rsameS a b) := fun _ _ => rfl
def put1 (s : Signal) (d : List Int) (r : Reading) : List Int := if r.Name = s.Name ∧ (rawS s r.Num r.Den).2 = 0 then putS s d (rawS s r.Num r.Den).1 else d
def putAll (s : Signal) (l : List Reading) (d : List Int) : List Int := l.foldl (put1 s) d
theorem put1_bytes {s : Signal} {d : List Int} (hd : isBytes d) (r : Reading) : isBytes (put1 s d r) ∧ (put1 s d r).length = d.length := by
 unfold put1
 split
 · exact ⟨putS_bytes hd _, putS_len _ _ _⟩
 · exact ⟨hd, rfl⟩
theorem putAll_bytes (s : Signal) : ∀ (l : List Reading) {d : List Int}, isBytes d → isBytes (putAll s l d) ∧ (putAll s l d).length = d.length := by
 intro l
 induction l with
 | nil => intro d hd; exact ⟨hd, rfl⟩
 | cons r l ih =>
  intro d hd
  obtain ⟨h1, h2⟩ := put1_bytes (s := s) hd r
  obtain ⟨h3, h4⟩ := ih h1
  exact ⟨h3, h4.trans h2⟩
theorem putAll_loop {s : Signal} {size : Int} (hck : checkS s size = 0) (l : List Reading) (hl : l.length ≤ 140737488355328) (d0 : List Int) (hd0 : isBytes d0) (hs : size ≤ (d0.length : Int)) {A : List Int → Prop} (hA : A (putAll s l d0)) : (∃ inv653 : Int → (List Int) → Prop, ∃ mu653 : Int → (List Int) → Nat, inv653 0 d0 ∧ (∀ (x10 : Int) (zg1270v : List Int), inv653 x10 zg1270v → (((decide (x10 < (l.length : Int))) = true → (∃ inv677 : (List Int) → Prop, ((0 ≤ x10 ∧ x10 < (l.length : Int)) ∧ (∀ q709, l[x10.toNat]? = some q709 → (((q709.Name != s.Name) = true → (inv677 zg1270v)) ∧ ((q709.Name != s.Name) = false → ((((rawS s q709.Num q709.Den).2 == 0) = true → ((inD s zg1270v) ∧ ((putS s zg1270v (rawS s q709.Num q709.Den).1).length ≤ 140737488355328 → (inv677 (putS s zg1270v (rawS s q709.Num q709.Den).1))))) ∧ (((rawS s q709.Num q709.Den).2 == 0) = false → (inv677 zg1270v))))))) ∧ (∀ (zg1270vv : List Int), inv677 zg1270vv → (inv653 (w64 (x10 + 1)) zg1270vv ∧ mu653 (w64 (x10 + 1)) zg1270vv < mu653 x10 zg1270v)))) ∧ ((decide (x10 < (l.length : Int))) = false → (A zg1270v))))) := by
 refine ⟨fun i d => ∃ k : Nat, i = k ∧ k ≤ l.length ∧ isBytes d ∧ d.length = d0.length ∧ putAll s (l.drop k) d = putAll s l d0, fun i _ => l.length - i.toNat, ⟨0, rfl, by omega, hd0, rfl, rfl⟩, ?_⟩
 rintro _ d ⟨k, rfl, hk, hd, hdl, hp⟩
 refine ⟨fun h1 => ?_, fun h1 => ?_⟩
 · have hkl : k < l.length := by have := of_decide_eq_true h1; omega
   refine ⟨fun d => isBytes d ∧ d.length = d0.length ∧ putAll s (l.drop (k + 1)) d = putAll s l d0, ⟨by omega, fun r hr => ?_⟩, fun d' hd' => ?_⟩
   · rw [Int.toNat_natCast] at hr
     rw [drop_this _ _ _ hr] at hp
     have hp : putAll s (l.drop (k + 1)) (put1 s d r) = putAll s l d0 := hp
     unfold put1 at hp
     refine ⟨fun h2 => ?_, fun h2 => ⟨fun h3 => ⟨inD_le hck hd (by omega), fun _ => ?_⟩, fun h3 => ?_⟩⟩
     · have h2 : ¬ r.Name = s.Name := by simpa using h2
       rw [if_neg (fun hc => h2 hc.1)] at hp
       exact ⟨hd, hdl, hp⟩
     · have h2 : r.Name = s.Name := by simpa using h2
       have h3 : (rawS s r.Num r.Den).2 = 0 := by simpa using h3
       rw [if_pos ⟨h2, h3⟩] at hp
       exact ⟨putS_bytes hd _, by rw [putS_len]; exact hdl, hp⟩
     · have h3 : ¬ (rawS s r.Num r.Den).2 = 0 := by simpa using h3
       rw [if_neg (fun hc => h3 hc.2)] at hp
       exact ⟨hd, hdl, hp⟩
   · rw [w64_succ k (by omega)]
     exact ⟨⟨k + 1, rfl, by omega, hd'⟩, by (try dsimp only); omega⟩
 · have hkl : k = l.length := by have := of_decide_eq_false h1; omega
   subst hkl
   rw [List.drop_length] at hp
   have hp : d = putAll s l d0 := hp
   rw [hp]
   exact hA
def repL (m : Message) (l : List Reading) : Int → List Signal → List Int → List Int
 | _, [], d => d
 | i, s :: r, d => repL m l (i + 1) r (if i ≠ m.Chooser ∧ mthereS m s d = true then putAll s l d else d)
def repack0 (m : Message) (l : List Reading) : List Int := if 0 ≤ m.Chooser then putAll (chooserOf m) l (List.replicate m.Size.toNat 0) else List.replicate m.Size.toNat 0
def repackS (a m : Message) (f : Frame) : Frame × Int :=
 if mcheckS m ≠ 0 then (zeroF, mcheckS m) else if (readS a f).2 ≠ 0 then (zeroF, (readS a f).2) else
 (⟨m.ID, m.Long, false, false, 0, repL m (readS a f).1 0 m.Signals (repack0 m (readS a f).1)⟩, 0)
theorem mrepack_ok (a m : Message) (f : Frame) (hf : isBytes f.Data) : mrepack_vc a m f (fun r => r = repackS a m f) := by
 intro _ _ _
 refine ⟨fun h1 => ?_, fun h1 => ⟨hf, fun hrl => ⟨fun h2 => ?_, fun h2 => ?_⟩⟩⟩
 · have h1 : mcheckS m ≠ 0 := by simpa using h1
   unfold repackS
   rw [if_pos h1]
   rfl
 all_goals have h1 : ¬ mcheckS m ≠ 0 := by simpa using h1
 · have h2 : (readS a f).2 ≠ 0 := by simpa using h2
   unfold repackS
   rw [if_neg h1, if_pos h2]
   rfl
 have h2 : ¬ (readS a f).2 ≠ 0 := by simpa using h2
 have H := mcheck_zero (Classical.not_not.1 h1)
 have hsz := H.size
 have hfew := H.few
 have hS : repackS a m f = (⟨m.ID, m.Long, false, false, 0, repL m (readS a f).1 0 m.Signals (repack0 m (readS a f).1)⟩, 0) := by
  unfold repackS
  rw [if_neg h1, if_neg h2]
 rw [hS]
 generalize (readS a f).1 = l at *
 have hd0 := rep_bytes m.Size.toNat
 have hl0 : (List.replicate m.Size.toNat (0 : Int)).length = m.Size.toNat := List.length_replicate
 have hr0 : isBytes (repack0 m l) ∧ (repack0 m l).length = m.Size.toNat := by
  unfold repack0
  split
  · obtain ⟨g1, g2⟩ := putAll_bytes (chooserOf m) l hd0
    exact ⟨g1, g2.trans hl0⟩
  · exact ⟨hd0, hl0⟩
 refine ⟨by omega, fun d => d = repack0 m l, ⟨fun h3 => ?_, fun h3 => ?_⟩, ?_⟩
 · have h3 := of_decide_eq_true h3
   refine ⟨⟨h3, H.ch.2⟩, fun c hc => ?_⟩
   have hcc : chooserOf m = c := by unfold chooserOf; rw [hc]; rfl
   exact putAll_loop (H.sigs c (List.mem_of_getElem? hc)) l hrl _ hd0 (by omega) (A := fun d => d = repack0 m l) (by unfold repack0; rw [if_pos h3, hcc])
 · have h3 := of_decide_eq_false h3
   show _ = repack0 m l
   unfold repack0
   rw [if_neg (by omega)]
 · rintro _ rfl
   refine ⟨fun d => d = repL m l 0 m.Signals (repack0 m l), ?_, ?_⟩
   · refine ⟨fun i d => ∃ k : Nat, i = k ∧ k ≤ m.Signals.length ∧ isBytes d ∧ d.length = m.Size.toNat ∧ repL m l k (m.Signals.drop k) d = repL m l 0 m.Signals (repack0 m l), fun i _ => m.Signals.length - i.toNat, ⟨0, rfl, by omega, hr0.1, hr0.2, rfl⟩, ?_⟩
     rintro _ d ⟨k, rfl, hk, hd, hdl, hp⟩
     refine ⟨fun h4 => ?_, fun h4 => ?_⟩
     · have hkl : k < m.Signals.length := by have := of_decide_eq_true h4; omega
       refine ⟨fun d => isBytes d ∧ d.length = m.Size.toNat ∧ repL m l ((k : Int) + 1) (m.Signals.drop (k + 1)) d = repL m l 0 m.Signals (repack0 m l), ⟨by omega, fun s hs => ?_⟩, fun d' hd' => ?_⟩
       · rw [Int.toNat_natCast] at hs
         have hmem := List.mem_of_getElem? hs
         have hck := H.sigs s hmem
         rw [drop_this _ _ _ hs, repL] at hp
         refine ⟨fun h5 => ⟨there_pre H hmem hd (by omega), fun h6 => ?_, fun h6 => ?_⟩, fun h5 => ?_⟩
         · have h5 : (k : Int) ≠ m.Chooser := by simpa using h5
           rw [if_pos ⟨h5, h6⟩] at hp
           obtain ⟨g1, g2⟩ := putAll_bytes s l hd
           exact putAll_loop hck l hrl d hd (by omega) (A := fun d => isBytes d ∧ d.length = m.Size.toNat ∧ repL m l ((k : Int) + 1) (m.Signals.drop (k + 1)) d = repL m l 0 m.Signals (repack0 m l)) ⟨g1, g2.trans hdl, hp⟩
         · rw [if_neg (fun hc => by rw [hc.2] at h6; cases h6)] at hp
           exact ⟨hd, hdl, hp⟩
         · have h5 : (k : Int) = m.Chooser := by simpa using h5
           rw [if_neg (fun hc => hc.1 h5)] at hp
           exact ⟨hd, hdl, hp⟩
       · rw [w64_succ k (by omega)]
         exact ⟨⟨k + 1, rfl, by omega, hd'⟩, by (try dsimp only); omega⟩
     · have hkl : k = m.Signals.length := by have := of_decide_eq_false h4; omega
       subst hkl
       rw [List.drop_length, repL] at hp
       exact hp
   · rintro _ rfl
     rfl
end Go.Proofs.YtdndfbamhnchfaaGreatDoor
set_option linter.unusedVariables false
set_option linter.unusedSimpArgs false
namespace Go.Proofs.YtdndfbamhnchfaaGreatDoor
open Go.Sy Go.RowKit
def nofr_vc (u0 : Frame) (K : Bool → Prop) : Prop := (u0.Data.length ≤ 140737488355328 → (K (rsameS u0 (⟨0, false, false, false, 0, []⟩ : Frame))))
def nofrS (f : Frame) : Bool := rsameS f ⟨0, false, false, false, 0, []⟩
theorem nofr_ok (f : Frame) : nofr_vc f (fun r => r = nofrS f) := fun _ => rfl
end Go.Proofs.YtdndfbamhnchfaaGreatDoor
set_option linter.unusedVariables false
set_option linter.unusedSimpArgs false
namespace Go.Proofs.YtdndfbamhnchfaaGreatDoor
open Go.Sy Go.RowKit
def LMRepack_vc (u0 : Message) (u1 : Message) (u2 : Frame) (K : Bool → Prop) : Prop := (u0.Signals.length ≤ 140737488355328 → (u1.Signals.length ≤ 140737488355328 → (u2.Data.length ≤ 140737488355328 → ((isBytes u2.Data) ∧ ((repackS u0 u1 u2).1.Data.length ≤ 140737488355328 → (∃ inv82 : Int → Prop, ((((mcheckS u1) == 0) = true → (inv82 (mcheckS u0))) ∧ (((mcheckS u1) == 0) = false → (inv82 (mcheckS u1)))) ∧ (∀ (x9 : Int), inv82 x9 → (∃ inv101 : Int → Prop, (((x9 == 0) = true → (inv101 (fcheckfr u2))) ∧ ((x9 == 0) = false → (inv101 x9))) ∧ (∀ (x9v : Int), inv101 x9v → (∃ inv126 : Int → (List Reading) → Prop, (((x9v == 0) = true → ((mcheckS u0 = 0 ∧ isBytes u2.Data) ∧ ((rreadsS u0 u2).1.length ≤ 140737488355328 → (inv126 (rreadsS u0 u2).2 (rreadsS u0 u2).1)))) ∧ ((x9v == 0) = false → (inv126 x9v []))) ∧ (∀ (x9vv : Int) (yb115 : List Reading), inv126 x9vv yb115 → (((x9vv != 0) = true → (K (((repackS u0 u1 u2).2 == x9vv) && (nofrS (repackS u0 u1 u2).1)))) ∧ ((x9vv != 0) = false → ((0 ≤ u1.Size ∧ u1.Size ≤ u1.Size ∧ u1.Size * 1 ≤ 140737488355328) ∧ (∃ inv223 : (List Int) → Prop, (((decide (u1.Chooser ≥ 0)) = true → ((0 ≤ u1.Chooser ∧ u1.Chooser < (u1.Signals.length : Int)) ∧ (∀ q655, u1.Signals[u1.Chooser.toNat]? = some q655 → (∃ inv681 : Int → (List Int) → Prop, ∃ mu681 : Int → (List Int) → Nat, inv681 0 (List.replicate u1.Size.toNat (0 : Int)) ∧ (∀ (x10 : Int) (yb202v : List Int), inv681 x10 yb202v → (((decide (x10 < (yb115.length : Int))) = true → (∃ inv709 : (List Int) → Prop, ((0 ≤ x10 ∧ x10 < (yb115.length : Int)) ∧ (∀ q745, yb115[x10.toNat]? = some q745 → (((q745.Name == q655.Name) = true → ((checkS q655 64 = 0) ∧ ((((rawS q655 q745.Num q745.Den).2 == 0) = true → ((inD q655 yb202v) ∧ ((putS q655 yb202v (rawS q655 q745.Num q745.Den).1).length ≤ 140737488355328 → (inv709 (putS q655 yb202v (rawS q655 q745.Num q745.Den).1))))) ∧ (((rawS q655 q745.Num q745.Den).2 == 0) = false → (inv709 yb202v))))) ∧ ((q745.Name == q655.Name) = false → (inv709 yb202v))))) ∧ (∀ (yb202vv : List Int), inv709 yb202vv → (inv681 (w64 (x10 + 1)) yb202vv ∧ mu681 (w64 (x10 + 1)) yb202vv < mu681 x10 yb202v)))) ∧ ((decide (x10 < (yb115.length : Int))) = false → (inv223 yb202v)))))))) ∧ ((decide (u1.Chooser ≥ 0)) = false → (inv223 (List.replicate u1.Size.toNat (0 : Int))))) ∧ (∀ (yb202 : List Int), inv223 yb202 → (∃ inv258 : (List Int) → Prop, (∃ inv312 : Int → (List Int) → Prop, ∃ mu312 : Int → (List Int) → Nat, inv312 0 yb202 ∧ (∀ (x74 : Int) (yb202vv : List Int), inv312 x74 yb202vv → (((decide (x74 < (u1.Signals.length : Int))) = true → (∃ inv341 : (List Int) → Prop, ((0 ≤ x74 ∧ x74 < (u1.Signals.length : Int)) ∧ (∀ q380, u1.Signals[x74.toNat]? = some q380 → (((x74 != u1.Chooser) = true → ((-1 ≤ q380.Key ∧ therepre u1 q380 yb202vv) ∧ (((mthereS u1 q380 yb202vv) = true → (∃ inv451 : Int → (List Int) → Prop, ∃ mu451 : Int → (List Int) → Nat, inv451 0 yb202vv ∧ (∀ (x10 : Int) (yb202vvvv : List Int), inv451 x10 yb202vvvv → (((decide (x10 < (yb115.length : Int))) = true → (∃ inv484 : (List Int) → Prop, ((0 ≤ x10 ∧ x10 < (yb115.length : Int)) ∧ (∀ q525, yb115[x10.toNat]? = some q525 → (((q525.Name == q380.Name) = true → ((checkS q380 64 = 0) ∧ ((((rawS q380 q525.Num q525.Den).2 == 0) = true → ((inD q380 yb202vvvv) ∧ ((putS q380 yb202vvvv (rawS q380 q525.Num q525.Den).1).length ≤ 140737488355328 → (inv484 (putS q380 yb202vvvv (rawS q380 q525.Num q525.Den).1))))) ∧ (((rawS q380 q525.Num q525.Den).2 == 0) = false → (inv484 yb202vvvv))))) ∧ ((q525.Name == q380.Name) = false → (inv484 yb202vvvv))))) ∧ (∀ (yb202vvvvv : List Int), inv484 yb202vvvvv → (inv451 (w64 (x10 + 1)) yb202vvvvv ∧ mu451 (w64 (x10 + 1)) yb202vvvvv < mu451 x10 yb202vvvv)))) ∧ ((decide (x10 < (yb115.length : Int))) = false → (inv341 yb202vvvv)))))) ∧ ((mthereS u1 q380 yb202vv) = false → (inv341 yb202vv))))) ∧ ((x74 != u1.Chooser) = false → (inv341 yb202vv))))) ∧ (∀ (yb202vvv : List Int), inv341 yb202vvv → (inv312 (w64 (x74 + 1)) yb202vvv ∧ mu312 (w64 (x74 + 1)) yb202vvv < mu312 x74 yb202vv)))) ∧ ((decide (x74 < (u1.Signals.length : Int))) = false → (inv258 yb202vv))))) ∧ (∀ (yb202v : List Int), inv258 yb202v → (K (((repackS u0 u1 u2).2 == 0) && (rsameS (repackS u0 u1 u2).1 (⟨u1.ID, u1.Long, false, false, 0, yb202v⟩ : Frame))))))))))))))))))))))
theorem rsame_self (f : Frame) : rsameS f f = true := by simp [rsameS, beqS]
theorem putAll_loopR {s : Signal} {size : Int} (hck : checkS s size = 0) (h64 : checkS s 64 = 0) (l : List Reading) (hl : l.length ≤ 140737488355328) (d0 : List Int) (hd0 : isBytes d0) (hs : size ≤ (d0.length : Int)) {A : List Int → Prop} (hA : A (putAll s l d0)) : (∃ inv : Int → (List Int) → Prop, ∃ mu : Int → (List Int) → Nat, inv 0 d0 ∧ (∀ (x10 : Int) (d : List Int), inv x10 d → (((decide (x10 < (l.length : Int))) = true → (∃ inv2 : (List Int) → Prop, ((0 ≤ x10 ∧ x10 < (l.length : Int)) ∧ (∀ q, l[x10.toNat]? = some q → (((q.Name == s.Name) = true → ((checkS s 64 = 0) ∧ ((((rawS s q.Num q.Den).2 == 0) = true → ((inD s d) ∧ ((putS s d (rawS s q.Num q.Den).1).length ≤ 140737488355328 → (inv2 (putS s d (rawS s q.Num q.Den).1))))) ∧ (((rawS s q.Num q.Den).2 == 0) = false → (inv2 d))))) ∧ ((q.Name == s.Name) = false → (inv2 d))))) ∧ (∀ (d' : List Int), inv2 d' → (inv (w64 (x10 + 1)) d' ∧ mu (w64 (x10 + 1)) d' < mu x10 d)))) ∧ ((decide (x10 < (l.length : Int))) = false → (A d))))) := by
 refine ⟨fun i d => ∃ k : Nat, i = k ∧ k ≤ l.length ∧ isBytes d ∧ d.length = d0.length ∧ putAll s (l.drop k) d = putAll s l d0, fun i _ => l.length - i.toNat, ⟨0, rfl, by omega, hd0, rfl, rfl⟩, ?_⟩
 rintro _ d ⟨k, rfl, hk, hd, hdl, hp⟩
 refine ⟨fun h1 => ?_, fun h1 => ?_⟩
 · have hkl : k < l.length := by have := of_decide_eq_true h1; omega
   refine ⟨fun d => isBytes d ∧ d.length = d0.length ∧ putAll s (l.drop (k + 1)) d = putAll s l d0, ⟨by omega, fun r hr => ?_⟩, fun d' hd' => ?_⟩
   · rw [Int.toNat_natCast] at hr
     rw [drop_this _ _ _ hr] at hp
     have hp : putAll s (l.drop (k + 1)) (put1 s d r) = putAll s l d0 := hp
     unfold put1 at hp
     refine ⟨fun h2 => ⟨h64, fun h3 => ⟨inD_le hck hd (by omega), fun _ => ?_⟩, fun h3 => ?_⟩, fun h2 => ?_⟩
     · have h2 : r.Name = s.Name := by simpa using h2
       have h3 : (rawS s r.Num r.Den).2 = 0 := by simpa using h3
       rw [if_pos ⟨h2, h3⟩] at hp
       exact ⟨putS_bytes hd _, by rw [putS_len]; exact hdl, hp⟩
     · have h3 : ¬ (rawS s r.Num r.Den).2 = 0 := by simpa using h3
       rw [if_neg (fun hc => h3 hc.2)] at hp
       exact ⟨hd, hdl, hp⟩
     · have h2 : ¬ r.Name = s.Name := by simpa using h2
       rw [if_neg (fun hc => h2 hc.1)] at hp
       exact ⟨hd, hdl, hp⟩
   · rw [w64_succ k (by omega)]
     exact ⟨⟨k + 1, rfl, by omega, hd'⟩, by (try dsimp only); omega⟩
 · have hkl : k = l.length := by have := of_decide_eq_false h1; omega
   subst hkl
   rw [List.drop_length] at hp
   have hp : d = putAll s l d0 := hp
   rw [hp]
   exact hA
theorem LMRepack_ok (a m : Message) (f : Frame) (k0 : okMessage a) (k1 : okMessage m) (k2 : okFrame f) : LMRepack_vc a m f (fun r => r = true) := by
 have hf : isBytes f.Data := fun x hx => k2.2.2.2.2.2.1 x hx
 intro _ _ _
 refine ⟨hf, fun _ => ⟨fun x => (x = 0 → mcheckS m = 0 ∧ mcheckS a = 0) ∧ (x ≠ 0 → repackS a m f = (zeroF, x)), ⟨fun h => ?_, fun h => ?_⟩, fun x hx => ⟨fun y => (y = 0 → mcheckS m = 0 ∧ mcheckS a = 0 ∧ fcheckfr f = 0) ∧ (y ≠ 0 → repackS a m f = (zeroF, y)), ⟨fun h => ?_, fun h => ?_⟩, fun y hy => ⟨fun z l => (z ≠ 0 → repackS a m f = (zeroF, z)) ∧ (z = 0 → mcheckS m = 0 ∧ l = (readS a f).1 ∧ (readS a f).2 = 0 ∧ l.length ≤ 140737488355328), ⟨fun h => ?_, fun h => ?_⟩, fun z l hz => ⟨fun h => ?_, fun h => ?_⟩⟩⟩⟩⟩
 · have h : mcheckS m = 0 := by simpa using h
   refine ⟨fun e => ⟨h, e⟩, fun e => ?_⟩
   have e2 : readS a f = ([], mcheckS a) := by unfold readS; rw [if_pos e]
   unfold repackS
   rw [if_neg (by rw [h]; simp), e2, if_pos e]
 · have h : mcheckS m ≠ 0 := by simpa using h
   refine ⟨fun e => absurd e h, fun e => ?_⟩
   unfold repackS
   rw [if_pos h]
 · have h : x = 0 := by simpa using h
   obtain ⟨hm, ha⟩ := hx.1 h
   refine ⟨fun e => ⟨hm, ha, e⟩, fun e => ?_⟩
   have e2 : readS a f = ([], fcheckfr f) := by unfold readS; rw [if_neg (by rw [ha]; simp), if_pos e]
   unfold repackS
   rw [if_neg (by rw [hm]; simp), e2, if_pos e]
 · have h : x ≠ 0 := by simpa using h
   exact ⟨fun e => absurd e h, fun _ => hx.2 h⟩
 · have h : y = 0 := by simpa using h
   obtain ⟨hm, ha, hc⟩ := hy.1 h
   refine ⟨⟨ha, hf⟩, fun hl => ⟨fun e => ?_, fun e => ?_⟩⟩
   all_goals
    have e2 : readS a f = rreadsS a f := by
     unfold readS rreadsS
     rw [if_neg (by rw [ha]; simp), if_neg (by rw [hc]; simp)]
   · unfold repackS
     rw [if_neg (by rw [hm]; simp), e2, if_pos e]
   · rw [e2]
     exact ⟨hm, rfl, e, hl⟩
 · have h : y ≠ 0 := by simpa using h
   exact ⟨fun _ => hy.2 h, fun e => absurd e h⟩
 · have h : z ≠ 0 := by simpa using h
   rw [hz.1 h]
   simp [nofrS, rsameS, zeroF, beqS]
 · have h : z = 0 := by simpa using h
   obtain ⟨h1, rfl, h2, hrl⟩ := hz.2 h
   have H := mcheck_zero h1
   have hsz := H.size
   have hfew := H.few
   have hS : repackS a m f = (⟨m.ID, m.Long, false, false, 0, repL m (readS a f).1 0 m.Signals (repack0 m (readS a f).1)⟩, 0) := by
    unfold repackS
    rw [if_neg (by rw [h1]; simp), if_neg (by rw [h2]; simp)]
   rw [hS]
   generalize (readS a f).1 = l at *
   have hd0 := rep_bytes m.Size.toNat
   have hl0 : (List.replicate m.Size.toNat (0 : Int)).length = m.Size.toNat := List.length_replicate
   have hr0 : isBytes (repack0 m l) ∧ (repack0 m l).length = m.Size.toNat := by
    unfold repack0
    split
    · obtain ⟨g1, g2⟩ := putAll_bytes (chooserOf m) l hd0
      exact ⟨g1, g2.trans hl0⟩
    · exact ⟨hd0, hl0⟩
   refine ⟨by omega, fun d => d = repack0 m l, ⟨fun h3 => ?_, fun h3 => ?_⟩, ?_⟩
   · have h3 := of_decide_eq_true h3
     refine ⟨⟨h3, H.ch.2⟩, fun c hc => ?_⟩
     have hcc : chooserOf m = c := by unfold chooserOf; rw [hc]; rfl
     have hck := H.sigs c (List.mem_of_getElem? hc)
     exact putAll_loopR hck (check_up hck) l hrl _ hd0 (by omega) (A := fun d => d = repack0 m l) (by unfold repack0; rw [if_pos h3, hcc])
   · have h3 := of_decide_eq_false h3
     show _ = repack0 m l
     unfold repack0
     rw [if_neg (by omega)]
   · rintro _ rfl
     refine ⟨fun d => d = repL m l 0 m.Signals (repack0 m l), ?_, ?_⟩
     · refine ⟨fun i d => ∃ k : Nat, i = k ∧ k ≤ m.Signals.length ∧ isBytes d ∧ d.length = m.Size.toNat ∧ repL m l k (m.Signals.drop k) d = repL m l 0 m.Signals (repack0 m l), fun i _ => m.Signals.length - i.toNat, ⟨0, rfl, by omega, hr0.1, hr0.2, rfl⟩, ?_⟩
       rintro _ d ⟨k, rfl, hk, hd, hdl, hp⟩
       refine ⟨fun h4 => ?_, fun h4 => ?_⟩
       · have hkl : k < m.Signals.length := by have := of_decide_eq_true h4; omega
         refine ⟨fun d => isBytes d ∧ d.length = m.Size.toNat ∧ repL m l ((k : Int) + 1) (m.Signals.drop (k + 1)) d = repL m l 0 m.Signals (repack0 m l), ⟨by omega, fun s hs => ?_⟩, fun d' hd' => ?_⟩
         · rw [Int.toNat_natCast] at hs
           have hmem := List.mem_of_getElem? hs
           have hck := H.sigs s hmem
           rw [drop_this _ _ _ hs, repL] at hp
           refine ⟨fun h5 => ⟨⟨(check_key hck).1, there_pre H hmem hd (by omega)⟩, fun h6 => ?_, fun h6 => ?_⟩, fun h5 => ?_⟩
           · have h5 : (k : Int) ≠ m.Chooser := by simpa using h5
             rw [if_pos ⟨h5, h6⟩] at hp
             obtain ⟨g1, g2⟩ := putAll_bytes s l hd
             exact putAll_loopR hck (check_up hck) l hrl d hd (by omega) (A := fun d => isBytes d ∧ d.length = m.Size.toNat ∧ repL m l ((k : Int) + 1) (m.Signals.drop (k + 1)) d = repL m l 0 m.Signals (repack0 m l)) ⟨g1, g2.trans hdl, hp⟩
           · rw [if_neg (fun hc => by rw [hc.2] at h6; cases h6)] at hp
             exact ⟨hd, hdl, hp⟩
           · have h5 : (k : Int) = m.Chooser := by simpa using h5
             rw [if_neg (fun hc => hc.1 h5)] at hp
             exact ⟨hd, hdl, hp⟩
         · rw [w64_succ k (by omega)]
           exact ⟨⟨k + 1, rfl, by omega, hd'⟩, by (try dsimp only); omega⟩
       · have hkl : k = m.Signals.length := by have := of_decide_eq_false h4; omega
         subst hkl
         rw [List.drop_length, repL] at hp
         exact hp
     · rintro _ rfl
       rw [rsame_self]
       rfl
end Go.Proofs.YtdndfbamhnchfaaGreatDoor
