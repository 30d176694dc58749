/- What must hold so that each function ends well: pure predicates, made by program. -/
import Derived.Test.YtinegicenfndkaaDoorPBb
set_option linter.unusedVariables false
set_option linter.unusedSimpArgs false
namespace Go.Proofs.YtinegicenfndkaaDoor
open Go.Sy Go.RowKit
def gof_vc (u0 : BInt) (u1 : List Int) (K : BInt → Prop) : Prop :=
  (u0.abs.length ≤ 140737488355328 →
    (u1.length ≤ 140737488355328 →
    (((decide ((u1.length : Int) > 0)) = true →
      ((0 ≤ w64 ((u1.length : Int) - 1) ∧ w64 ((u1.length : Int) - 1) < (u1.length : Int)) ∧
      (∀ q45, u1[(w64 ((u1.length : Int) - 1)).toNat]? = some q45 →
      ((((bShr .u32 q45 31) == 1) = false) ∧
      ((gtrimS u1).length ≤ 140737488355328 →
      (∀ r88, (ggive u0 false (gtrimS u1)) = r88 →
      (r88.abs.length ≤ 140737488355328 →
      (K r88)))))))) ∧
    ((decide ((u1.length : Int) > 0)) = false →
      ((gtrimS u1).length ≤ 140737488355328 →
      (∀ r143, (ggive u0 false (gtrimS u1)) = r143 →
      (r143.abs.length ≤ 140737488355328 →
      (K r143))))))))

def gseti_vc (u0 : BInt) (u1 : Int) (K : BInt → Prop) : Prop :=
  (u0.abs.length ≤ 140737488355328 →
    (((decide (u1 < 0)) = true →
      ((0 ≤ (wu64 (0 - (wu64 u1))) ∧ (wu64 (0 - (wu64 u1))) ≤ 18446744073709551615) ∧
      ((gwordsS (wu64 (0 - (wu64 u1)))).length ≤ 140737488355328 →
      (∀ r56, (ggive u0 (decide (u1 < 0)) (gwordsS (wu64 (0 - (wu64 u1))))) = r56 →
      (r56.abs.length ≤ 140737488355328 →
      (K r56)))))) ∧
    ((decide (u1 < 0)) = false →
      ((0 ≤ (wu64 u1) ∧ (wu64 u1) ≤ 18446744073709551615) ∧
      ((gwordsS (wu64 u1)).length ≤ 140737488355328 →
      (∀ r96, (ggive u0 (decide (u1 < 0)) (gwordsS (wu64 u1))) = r96 →
      (r96.abs.length ≤ 140737488355328 →
      (K r96))))))))

def glsh_vc (u0 : BInt) (u1 : BInt) (u2 : Int) (K : (BInt × BInt) → Prop) : Prop :=
  (u0.abs.length ≤ 140737488355328 →
    (u1.abs.length ≤ 140737488355328 →
    ((wok u1.abs ∧ u1.abs.length ≤ 1000 ∧ 0 ≤ u2 ∧ u2 ≤ 100000) ∧
    (K ((ggive u0 u1.neg (gleftS u1.abs u2)), u1)))))

def glshA_vc (u0 : BInt) (u2 : Int) (K : BInt → Prop) : Prop :=
  (u0.abs.length ≤ 140737488355328 →
    ((wok u0.abs ∧ u0.abs.length ≤ 1000 ∧ 0 ≤ u2 ∧ u2 ≤ 100000) ∧
    (K (ggive u0 u0.neg (gleftS u0.abs u2)))))

def gblen_vc (u0 : BInt) (K : (Int × BInt) → Prop) : Prop :=
  (u0.abs.length ≤ 140737488355328 →
    ((u0.abs = ws (wv u0.abs) ∧ u0.abs.length ≤ 1000000) ∧
    (K ((glengthS u0.abs), u0))))

def gint64_vc (u0 : BInt) (K : (Int × BInt) → Prop) : Prop :=
  (u0.abs.length ≤ 140737488355328 →
    ((wok u0.abs) ∧
    (∀ r18, (guint64S u0) = r18 →
    (r18.2.abs.length ≤ 140737488355328 →
    ((r18.2.neg = false) ∧
    (K (w64 r18.1, r18.2)))))))

def gsetstr_vc (u0 : BInt) (u1 : List UInt8) (K : (Bool × Bool × BInt) → Prop) : Prop :=
  (u0.abs.length ≤ 140737488355328 →
    (((decide ((u1.length : Int) > 0)) = true) ∧
    ((0 ≤ (0 : Int) ∧ (0 : Int) < (u1.length : Int)) ∧
    (∀ c32, u1[(0 : Int).toNat]? = some c32 →
    ((((c32.toNat : Int) == 45) = false) ∧
    ((0 ≤ (0 : Int) ∧ (0 : Int) < (u1.length : Int)) ∧
    (∀ c50, u1[(0 : Int).toNat]? = some c50 →
    ((((c50.toNat : Int) == 43) = false) ∧
    ((((((u1.length : Int) == 0) || false) || false) = false) ∧
    (∃ inv106 : (List Int) → Int → Prop, ∃ mu106 : (List Int) → Int → Nat, inv106 ([] : List Int) 0 ∧
    (∀ (x9 : List Int) (x10 : Int), inv106 x9 x10 →
    (((decide (x10 < (u1.length : Int))) = true →
      ((0 ≤ x10 ∧ x10 < (u1.length : Int)) ∧
      (∀ c141, u1[x10.toNat]? = some c141 →
      ((((decide ((c141.toNat : Int) ≥ 48)) && (decide ((c141.toNat : Int) ≤ 57))) = true) ∧
      (((decide ((w64 (w8 ((c141.toNat : Int) - 48))) ≥ 2)) = false) ∧
      ((0 ≤ (2 : Int) ∧ (2 : Int) ≤ 18446744073709551615) ∧
      ((gwordsS 2).length ≤ 140737488355328 →
      ((wok x9 ∧ wok (gwordsS 2) ∧ x9.length ≤ 1000 ∧ (gwordsS 2).length ≤ 1000) ∧
      ((gmulS x9 (gwordsS 2)).length ≤ 140737488355328 →
      ((0 ≤ (wu64 (w64 (w8 ((c141.toNat : Int) - 48)))) ∧ (wu64 (w64 (w8 ((c141.toNat : Int) - 48)))) ≤ 18446744073709551615) ∧
      ((gwordsS (wu64 (w64 (w8 ((c141.toNat : Int) - 48))))).length ≤ 140737488355328 →
      ((wok (gmulS x9 (gwordsS 2)) ∧ wok (gwordsS (wu64 (w64 (w8 ((c141.toNat : Int) - 48))))) ∧ (gmulS x9 (gwordsS 2)).length ≤ 1000000 ∧ (gwordsS (wu64 (w64 (w8 ((c141.toNat : Int) - 48))))).length ≤ 1000000) ∧
      ((gaddS (gmulS x9 (gwordsS 2)) (gwordsS (wu64 (w64 (w8 ((c141.toNat : Int) - 48)))))).length ≤ 140737488355328 →
      (inv106 (gaddS (gmulS x9 (gwordsS 2)) (gwordsS (wu64 (w64 (w8 ((c141.toNat : Int) - 48)))))) (w64 (x10 + 1)) ∧ mu106 (gaddS (gmulS x9 (gwordsS 2)) (gwordsS (wu64 (w64 (w8 ((c141.toNat : Int) - 48)))))) (w64 (x10 + 1)) < mu106 x9 x10)))))))))))))) ∧
    ((decide (x10 < (u1.length : Int))) = false →
      (∀ r272, (ggive u0 false x9) = r272 →
      (r272.abs.length ≤ 140737488355328 →
      (K (true, true, r272)))))))))))))))))

def gset_vc (u0 : BInt) (K : BInt → Prop) : Prop :=
  (u0.abs.length ≤ 140737488355328 →
    ((u0.abs.length ≤ 1000000) ∧
    (K (ggive u0 u0.neg (gtwinS u0.abs)))))

/-! Pure proofs: no program in sight. -/
def bigN (n : Nat) : BInt := ⟨false, ws n⟩
def gofS (z : BInt) (l : List Int) : BInt := bigN (wv l)
theorem gof_ok (z : BInt) (l : List Int) (h : wok l ∧ l.length ≤ 1000000 ∧ ∀ q, l[l.length - 1]? = some q → q < 2147483648) : gof_vc z l (fun r => r = gofS z l) := by
  obtain ⟨hw, hl, hq⟩ := h
  have hg : ∀ r, ggive z false (gtrimS l) = r → r = gofS z l := by
    rintro _ rfl
    unfold ggive gofS bigN
    rw [gtrim_ws hw]
    rfl
  intro _ _
  refine ⟨fun h1 => ?_, fun h1 _ r hr _ => hg r hr⟩
  have h1 : 0 < l.length := by have := of_decide_eq_true h1; omega
  have e : w64 ((l.length : Int) - 1) = ((l.length - 1 : Nat) : Int) := by rw [w64_eq _ (by omega)]; omega
  rw [e]
  refine ⟨by omega, fun q hqq => ?_⟩
  rw [Int.toNat_natCast] at hqq
  have hlt := hq q hqq
  obtain ⟨n, rfl, hn⟩ := wok_at hw hqq
  have e2 : bShr .u32 (n : Int) 31 = ((n / 2 ^ 31 : Nat) : Int) := shru n 31 (by omega) .u32 (by decide)
  have e3 : n < 2 ^ 31 := by
    have : (2 : Nat) ^ 31 = 2147483648 := rfl
    omega
  rw [e2, Nat.div_eq_of_lt e3]
  exact ⟨rfl, fun _ r hr _ => hg r hr⟩
def gsetiS (z : BInt) (x : Int) : BInt := bigN x.toNat
theorem gseti_ok (z : BInt) (x : Int) (h : 0 ≤ x ∧ x ≤ 9223372036854775807) : gseti_vc z x (fun r => r = gsetiS z x) := by
  intro _
  have e : wu64 x = x := wu64_eq _ (by omega)
  refine ⟨fun h1 => absurd (of_decide_eq_true h1) (by omega), fun h1 => ?_⟩
  rw [e, h1]
  refine ⟨by omega, fun _ r hr _ => ?_⟩
  subst hr
  rfl
def glshS (z x : BInt) (n : Int) : BInt × BInt := (bigN (wv x.abs * 2 ^ n.toNat), x)
theorem glsh_ok (z x : BInt) (n : Int) (h : x.neg = false ∧ wok x.abs ∧ x.abs.length ≤ 1000 ∧ 0 ≤ n ∧ n ≤ 100000) : glsh_vc z x n (fun r => r = glshS z x n) := by
  obtain ⟨h1, h2⟩ := h
  intro _ _
  refine ⟨h2, ?_⟩
  unfold ggive glshS bigN gleftS
  rw [h1]
  rfl
def glshAS (x : BInt) (n : Int) : BInt := bigN (wv x.abs * 2 ^ n.toNat)
theorem glshA_ok (x : BInt) (n : Int) (h : x.neg = false ∧ wok x.abs ∧ x.abs.length ≤ 1000 ∧ 0 ≤ n ∧ n ≤ 100000) : glshA_vc x n (fun r => r = glshAS x n) := by
  obtain ⟨h1, h2⟩ := h
  intro _
  refine ⟨h2, ?_⟩
  unfold ggive glshAS bigN gleftS
  rw [h1]
  rfl
def gblenS (x : BInt) : Int × BInt := ((blen (wv x.abs) : Int), x)
theorem gblen_ok (x : BInt) (h : x.abs = ws (wv x.abs) ∧ x.abs.length ≤ 1000000) : gblen_vc x (fun r => r = gblenS x) := fun _ => ⟨h, rfl⟩
def gint64S (x : BInt) : Int × BInt := (((wv x.abs : Nat) : Int), x)
theorem gint64_ok (x : BInt) (h : x.neg = false ∧ wok x.abs ∧ wv x.abs < 9223372036854775808) : gint64_vc x (fun r => r = gint64S x) := by
  obtain ⟨h1, h2, h3⟩ := h
  intro _
  refine ⟨h2, ?_⟩
  rintro _ rfl _
  refine ⟨h1, ?_⟩
  unfold guint64S gint64S
  dsimp only
  rw [Nat.mod_eq_of_lt (by omega), w64_eq _ (by omega)]
def gsetS (x : BInt) : BInt := x
theorem wok_len {l : List Int} (n k : Nat) (h : n < 4294967296 ^ k) : (ws n).length ≤ k := ws_len k n h
def gsetstrS (z : BInt) (s : List UInt8) : Bool × Bool × BInt := (true, true, bigN (val s))
theorem two_words : gwordsS 2 = [2] := by
  unfold gwordsS
  rw [ws_pos (by decide)]
  show [((2 : Nat) : Int)] ++ ws 0 = [2]
  rw [ws_zero]
  rfl
theorem pow_words_k {n k m : Nat} (h : n < 2 ^ k) (hk : k ≤ 32 * m) : (ws n).length ≤ m := by
  refine ws_len m n (Nat.lt_of_lt_of_le h ?_)
  rw [show (4294967296 : Nat) = 2 ^ 32 from rfl, ← Nat.pow_mul]
  exact Nat.pow_le_pow_right (by decide) hk
theorem pow_words {n k : Nat} (h : n < 2 ^ k) (hk : k ≤ 32 * 900) : (ws n).length ≤ 900 := pow_words_k h hk
theorem gsetstr_ok (z : BInt) (s : List UInt8) (h : isRow s = true ∧ s ≠ [] ∧ s.length ≤ 1000) : gsetstr_vc z s (fun r => r = gsetstrS z s) := by
  obtain ⟨hr, hne, hl⟩ := h
  have hpos : 0 < s.length := List.length_pos_iff.2 hne
  intro _
  refine ⟨decide_eq_true (by omega), by omega, fun c hc => ?_⟩
  have hb := isRow_mem hr (List.mem_of_getElem? hc)
  refine ⟨by rcases hb with rfl | rfl <;> rfl, by omega, fun c2 hc2 => ?_⟩
  rw [hc] at hc2
  cases hc2
  refine ⟨by rcases hb with rfl | rfl <;> rfl, ?_, ?_⟩
  · simp only [Bool.or_false, beq_eq_false_iff_ne]
    omega
  · refine ⟨fun x i => ∃ k : Nat, i = k ∧ k ≤ s.length ∧ x = ws (val (s.take k)), fun _ i => s.length - i.toNat, ⟨0, rfl, by omega, by rw [List.take_zero, val, ws_zero]⟩, ?_⟩
    rintro _ _ ⟨k, rfl, hk, rfl⟩
    refine ⟨fun h2 => ?_, fun h2 => ?_⟩
    · have hks : k < s.length := by have := of_decide_eq_true h2; omega
      have hvl : val (s.take k) < 2 ^ k := by
        have := val_lt (isRow_take hr k)
        rwa [List.length_take, Nat.min_eq_left (by omega)] at this
      have hwl : (ws (val (s.take k))).length ≤ 900 := pow_words hvl (by omega)
      refine ⟨by omega, fun q hq => ?_⟩
      · rw [Int.toNat_natCast] at hq
        have hqb := isRow_mem hr (List.mem_of_getElem? hq)
        have hdig : wu64 (w64 (w8 ((q.toNat : Int) - 48))) = ((q.toNat - 48 : Nat) : Int) := by rcases hqb with rfl | rfl <;> rfl
        have hd2 : q.toNat - 48 < 2 := by rcases hqb with rfl | rfl <;> decide
        refine ⟨by rcases hqb with rfl | rfl <;> rfl, by rcases hqb with rfl | rfl <;> rfl, ?_⟩
        rw [two_words, hdig]
        have w2 : wok [(2 : Int)] := fun y hy => by rw [List.mem_singleton.1 hy]; omega
        refine ⟨by omega, fun _ => ⟨⟨ws_wok _, w2, by omega, by decide⟩, fun _ => ⟨by omega, fun _ => ?_⟩⟩⟩
        have hm : gmulS (ws (val (s.take k))) [2] = ws (2 * val (s.take k)) := by
          unfold gmulS
          rw [wv_ws, Nat.mul_comm]
          rfl
        have hml : (ws (2 * val (s.take k))).length ≤ 900 := pow_words (k := k + 1) (by rw [Nat.pow_succ]; omega) (by omega)
        have hdl : (gwordsS ((q.toNat - 48 : Nat) : Int)).length ≤ 900 := by
          unfold gwordsS
          rw [Int.toNat_natCast]
          exact pow_words (k := 1) hd2 (by omega)
        rw [hm]
        refine ⟨⟨ws_wok _, ws_wok _, by omega, by omega⟩, fun _ => ?_⟩
        unfold gaddS gwordsS
        rw [wv_ws, wv_ws, Int.toNat_natCast, w64_succ k (by omega)]
        exact ⟨⟨k + 1, rfl, by omega, by rw [take_next s k q hq, val_snoc]⟩, by (try dsimp only); omega⟩
    · have hks : k = s.length := by have := of_decide_eq_false h2; omega
      subst hks
      rintro r hr2 _
      rw [← hr2, List.take_length]
      rfl
theorem gset_ok (x : BInt) (h : x.neg = false ∧ x.abs.length ≤ 1000000) : gset_vc x (fun r => r = gsetS x) := by
  intro _
  refine ⟨h.2, ?_⟩
  obtain ⟨n, l⟩ := x
  have h1 : n = false := h.1
  subst h1
  rfl

end Go.Proofs.YtinegicenfndkaaDoor
