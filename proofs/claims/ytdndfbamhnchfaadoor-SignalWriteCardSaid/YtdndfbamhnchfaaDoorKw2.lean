/- Texts put together (pure ones, or walks made by program). -/
import Derived.Test.YtdndfbamhnchfaaDoorKw0
import Derived.Test.YtdndfbamhnchfaaDoorKw1
set_option linter.unusedVariables false
set_option linter.unusedSimpArgs false
namespace Go.Proofs.YtdndfbamhnchfaaDoor
open Go.Sy Go.RowKit
def rsf_vc (u0 : BRat) (u1 : BInt) (u2 : BInt) (K : (BRat × BInt × BInt) → Prop) : Prop :=
  (u0.a.abs.length ≤ 140737488355328 →
    (u0.b.abs.length ≤ 140737488355328 →
    (u1.abs.length ≤ 140737488355328 →
    (u2.abs.length ≤ 140737488355328 →
    ((((u2.abs.length : Int) == 0) = false) ∧
    ((u1.abs.length ≤ 1000000) ∧
    ((u2.abs.length ≤ 1000000) ∧
    ((bk (⟨(ggive (⟨false, []⟩ : BInt) u1.neg (gtwinS u1.abs)), (ggive (⟨false, []⟩ : BInt) u2.neg (gtwinS u2.abs))⟩ : BRat).a ∧ bk (⟨(ggive (⟨false, []⟩ : BInt) u1.neg (gtwinS u1.abs)), (ggive (⟨false, []⟩ : BInt) u2.neg (gtwinS u2.abs))⟩ : BRat).b ∧ iv (⟨(ggive (⟨false, []⟩ : BInt) u1.neg (gtwinS u1.abs)), (ggive (⟨false, []⟩ : BInt) u2.neg (gtwinS u2.abs))⟩ : BRat).b ≠ 0) ∧
    (∀ r223, (rnormS (⟨(ggive (⟨false, []⟩ : BInt) u1.neg (gtwinS u1.abs)), (ggive (⟨false, []⟩ : BInt) u2.neg (gtwinS u2.abs))⟩ : BRat)) = r223 →
    (r223.a.abs.length ≤ 140737488355328 →
    (r223.b.abs.length ≤ 140737488355328 →
    (K (r223, u1, u2)))))))))))))

/-! Pure proofs: no program in sight. -/
theorem sum_core2 {x y : BInt} (hx : bk x) (hy : bk y) (z : BInt) : ggive z (gsumS x.neg x.abs (!y.neg) y.abs).1 (gsumS x.neg x.abs (!y.neg) y.abs).2 = bz (iv x - iv y) := by
  obtain ⟨_, x1, _, x2⟩ := bk_abs hx
  obtain ⟨_, y1, _, y2⟩ := bk_abs hy
  unfold gsumS
  rw [x1, y1, x2, y2]
  generalize iv x = X
  generalize iv y = Y
  have hn : (!decide (Y < 0)) = decide (0 ≤ Y) := by rw [← decide_not]; exact decide_eq_decide.2 (by omega)
  rw [hn]
  split
  · rename_i h
    have h : (X < 0 ↔ 0 ≤ Y) := by
      have h := congrArg (· = true) h
      simpa using h
    have e : X.natAbs + Y.natAbs = (X - Y).natAbs := by omega
    dsimp only
    rw [e]
    refine give_bz z _ _ ?_
    by_cases h0 : X - Y = 0
    · exact .inr h0
    · left
      exact decide_eq_decide.2 (by omega)
  · rename_i h
    have h : ¬ (X < 0 ↔ 0 ≤ Y) := fun hc => h (decide_eq_decide.2 hc)
    split
    · have e : X.natAbs - Y.natAbs = (X - Y).natAbs := by omega
      dsimp only
      rw [e]
      refine give_bz z _ _ ?_
      by_cases h0 : X - Y = 0
      · exact .inr h0
      · left
        exact decide_eq_decide.2 (by omega)
    · have e : Y.natAbs - X.natAbs = (X - Y).natAbs := by omega
      dsimp only
      rw [e]
      refine give_bz z _ _ ?_
      by_cases h0 : X - Y = 0
      · exact .inr h0
      · left
        exact decide_eq_decide.2 (by omega)
def gsubIS (z x y : BInt) : BInt × BInt × BInt := (bz (iv x - iv y), x, y)
theorem gsubI_ok (z x y : BInt) (h : bk x ∧ bk y) : gsubI_vc z x y (fun r => r = gsubIS z x y) := by
  intro _ _ _
  obtain ⟨a0, _, a2, _⟩ := bk_abs h.1
  obtain ⟨b0, _, b2, _⟩ := bk_abs h.2
  refine ⟨⟨a0, b0, a2, b2⟩, ?_⟩
  unfold gsubIS
  rw [sum_core2 h.1 h.2]
def zcmp (x y : Int) : Int := if x < y then -1 else if y < x then 1 else 0
def gcmpAS (r : BRat) (y : BInt) : Int × BRat × BInt := (zcmp (iv r.a) (iv y), r, y)
def gcmpBS (r : BRat) (y : BInt) : Int × BRat × BInt := (zcmp (iv r.b) (iv y), r, y)
theorem cmp_core {x y : BInt} (hx : bk x) (hy : bk y) {A : Int → Prop} (hA : A (zcmp (iv x) (iv y))) :
    (((x.neg != y.neg) = true →
      ((x.neg = true →
        (A (-1))) ∧
      (x.neg = false →
        (A 1)))) ∧
    ((x.neg != y.neg) = false →
      ((x.abs.length ≤ 1000 ∧ y.abs.length ≤ 1000 ∧ x.abs = ws (wv x.abs) ∧ y.abs = ws (wv y.abs)) ∧
      ((x.neg = true →
        (A (w64 (0 - (gcmpS x.abs y.abs))))) ∧
      (x.neg = false →
        (A (gcmpS x.abs y.abs))))))) := by
  obtain ⟨x0, x1, x2, x3⟩ := bk_abs hx
  obtain ⟨y0, y1, y2, y3⟩ := bk_abs hy
  obtain ⟨_, lx⟩ := bk_len hx
  obtain ⟨_, ly⟩ := bk_len hy
  unfold zcmp at hA
  unfold gcmpS
  rw [x3, y3, x1, y1]
  generalize iv x = X at *
  generalize iv y = Y at *
  refine ⟨fun h1 => ⟨fun h2 => ?_, fun h2 => ?_⟩, fun h1 => ⟨⟨by omega, by omega, by rw [← x1]; exact x0, by rw [← y1]; exact y0⟩, fun h2 => ?_, fun h2 => ?_⟩⟩
  · have h2' := of_decide_eq_true h2
    have h3 : ¬ Y < 0 := by
      intro h
      rw [h2, decide_eq_true h] at h1
      cases h1
    rw [if_pos (by omega)] at hA
    exact hA
  · have h2' := of_decide_eq_false h2
    have h3 : Y < 0 := by
      rcases Int.lt_or_le Y 0 with h | h
      · exact h
      · rw [h2, decide_eq_false (by omega)] at h1
        cases h1
    rw [if_neg (by omega), if_pos (by omega)] at hA
    exact hA
  · have h2' := of_decide_eq_true h2
    have h3 : Y < 0 := by
      rcases Int.lt_or_le Y 0 with h | h
      · exact h
      · rw [h2, decide_eq_false (show ¬ Y < 0 by omega)] at h1
        cases h1
    rcases Int.lt_trichotomy X Y with h | h | h
    · rw [if_pos h] at hA
      rw [if_neg (by omega), if_pos (by omega)]
      exact hA
    · rw [if_neg (by omega), if_neg (by omega)] at hA
      rw [if_neg (by omega), if_neg (by omega)]
      exact hA
    · rw [if_neg (by omega), if_pos h] at hA
      rw [if_pos (by omega)]
      exact hA
  · have h2' := of_decide_eq_false h2
    have h3 : ¬ Y < 0 := by
      intro h
      rw [h2, decide_eq_true h] at h1
      cases h1
    rcases Int.lt_trichotomy X Y with h | h | h
    · rw [if_pos h] at hA
      rw [if_pos (by omega)]
      exact hA
    · rw [if_neg (by omega), if_neg (by omega)] at hA
      rw [if_neg (by omega), if_neg (by omega)]
      exact hA
    · rw [if_neg (by omega), if_pos h] at hA
      rw [if_neg (by omega), if_pos (by omega)]
      exact hA
theorem gcmpA_ok (r : BRat) (y : BInt) (h : bk r.a ∧ bk y) : gcmpA_vc r y (fun x => x = gcmpAS r y) := fun _ _ _ => cmp_core h.1 h.2 (A := fun v => (v, r, y) = gcmpAS r y) rfl
theorem gcmpB_ok (r : BRat) (y : BInt) (h : bk r.b ∧ bk y) : gcmpB_vc r y (fun x => x = gcmpBS r y) := fun _ _ _ => cmp_core h.1 h.2 (A := fun v => (v, r, y) = gcmpBS r y) rfl
def glshIS (z x : BInt) (n : Int) : BInt × BInt := (bz (iv x * 2 ^ n.toNat), x)
theorem glshI_ok (z x : BInt) (n : Int) (h : bk x ∧ 0 ≤ iv x ∧ 0 ≤ n ∧ n ≤ 100) : glshI_vc z x n (fun r => r = glshIS z x n) := by
  obtain ⟨hx, h0, h1, h2⟩ := h
  obtain ⟨x0, x1, _, x3⟩ := bk_abs hx
  obtain ⟨a1, a2⟩ := bk_len hx
  intro _ _
  refine ⟨⟨a1, by omega, by omega, by omega⟩, ?_⟩
  unfold glshIS gleftS
  have e : wv x.abs * 2 ^ n.toNat = (iv x * 2 ^ n.toNat).natAbs := by
    rw [Int.natAbs_mul, ← x1, Int.natAbs_pow]
    rfl
  rw [e, give_bz z x.neg (iv x * 2 ^ n.toNat) ?_]
  left
  have hp : (0 : Int) < 2 ^ n.toNat := Int.pow_pos (by decide)
  have := Int.mul_nonneg h0 (Int.le_of_lt hp)
  rw [x3, decide_eq_false (by omega), decide_eq_false (by omega)]
def grshIS (x : BInt) (n : Int) : BInt := bz (iv x / 2 ^ n.toNat)
theorem grshI_ok (x : BInt) (n : Int) (h : bk x ∧ 0 ≤ iv x ∧ n = 1) : grshI_vc x n (fun r => r = grshIS x n) := by
  obtain ⟨hx, h0, rfl⟩ := h
  obtain ⟨x0, x1, _, x3⟩ := bk_abs hx
  obtain ⟨a1, a2⟩ := bk_len hx
  intro _
  refine ⟨by rw [x3]; exact decide_eq_false (by omega), ⟨a1, by omega, by omega, by omega⟩, fun _ => ?_⟩
  rintro _ rfl _
  unfold grshIS grightS
  have e : wv x.abs / 2 ^ (1 : Int).toNat = (iv x / 2 ^ (1 : Int).toNat).natAbs := by
    show wv x.abs / 2 ^ 1 = (iv x / 2 ^ 1).natAbs
    rw [x1]
    omega
  rw [e, give_bz x false (iv x / 2 ^ (1 : Int).toNat) ?_]
  left
  symm
  refine decide_eq_false ?_
  show ¬ iv x / 2 ^ 1 < 0
  omega
def gnegIS (z x : BInt) : BInt × BInt := (bz (-(iv x)), x)
theorem gnegI_ok (z x : BInt) (h : bk x) : gnegI_vc z x (fun r => r = gnegIS z x) := by
  obtain ⟨_, lx⟩ := bk_len h
  intro _ _
  refine ⟨by omega, ?_⟩
  have := neg_give h
  unfold gnegIS
  rw [← this]
  rfl
theorem set_core {x : BInt} (hx : bk x) (z : BInt) : ggive z x.neg (gtwinS x.abs) = x := by
  obtain ⟨x0, x1, _, x3⟩ := bk_abs hx
  have := give_bz z x.neg (iv x) (.inl x3)
  rw [← x1, ← x0, ← hx.1] at this
  exact this
def rsfS (z : BRat) (a b : BInt) : BRat × BInt × BInt := (nrm (iv a) (iv b), a, b)
theorem iv_ne {x : BInt} (hx : bk x) (h : iv x ≠ 0) : x.abs ≠ [] := by
  obtain ⟨_, x1, _, _⟩ := bk_abs hx
  intro hc
  rw [hc] at x1
  have : (0 : Nat) = (iv x).natAbs := x1
  omega
theorem rsf_ok (z : BRat) (a b : BInt) (h : bk a ∧ bk b ∧ iv b ≠ 0) : rsf_vc z a b (fun r => r = rsfS z a b) := by
  obtain ⟨ha, hb, h0⟩ := h
  obtain ⟨_, la⟩ := bk_len ha
  obtain ⟨_, lb⟩ := bk_len hb
  have hne := iv_ne hb h0
  intro _ _ _ _
  rw [set_core ha, set_core hb]
  refine ⟨?_, by omega, by omega, ⟨ha, hb, h0⟩, ?_⟩
  · rw [beq_eq_false_iff_ne]
    intro hc
    exact hne (List.length_eq_zero_iff.1 (by omega))
  · rintro r rfl _ _
    rfl

end Go.Proofs.YtdndfbamhnchfaaDoor
set_option linter.unusedVariables false
set_option linter.unusedSimpArgs false
namespace Go.Proofs.YtdndfbamhnchfaaDoor
open Go.Sy Go.RowKit
def rsf64_vc (u0 : BRat) (u1 : Int) (u2 : Int) (K : BRat → Prop) : Prop :=
  (u0.a.abs.length ≤ 140737488355328 →
    (u0.b.abs.length ≤ 140737488355328 →
    ((-9223372036854775808 ≤ u1 ∧ u1 ≤ 9223372036854775807) ∧
    ((-9223372036854775808 ≤ u2 ∧ u2 ≤ 9223372036854775807) ∧
    ((bk (bz u1) ∧ bk (bz u2) ∧ iv (bz u2) ≠ 0) ∧
    (∀ r52, (rsfS u0 (bz u1) (bz u2)) = r52 →
    (r52.1.a.abs.length ≤ 140737488355328 →
    (r52.1.b.abs.length ≤ 140737488355328 →
    (r52.2.1.abs.length ≤ 140737488355328 →
    (r52.2.2.abs.length ≤ 140737488355328 →
    (K r52.1)))))))))))

def rsi_vc (u0 : BRat) (u1 : Int) (K : BRat → Prop) : Prop :=
  (u0.a.abs.length ≤ 140737488355328 →
    (u0.b.abs.length ≤ 140737488355328 →
    ((-9223372036854775808 ≤ u1 ∧ u1 ≤ 9223372036854775807) ∧
    ((-9223372036854775808 ≤ (1 : Int) ∧ (1 : Int) ≤ 9223372036854775807) ∧
    ((bk (bz u1) ∧ bk (bz 1) ∧ iv (bz 1) ≠ 0) ∧
    (∀ r50, (rsfS u0 (bz u1) (bz 1)) = r50 →
    (r50.1.a.abs.length ≤ 140737488355328 →
    (r50.1.b.abs.length ≤ 140737488355328 →
    (r50.2.1.abs.length ≤ 140737488355328 →
    (r50.2.2.abs.length ≤ 140737488355328 →
    (K r50.1)))))))))))

def radd_vc (u0 : BRat) (u2 : BRat) (K : (BRat × BRat) → Prop) : Prop :=
  (u0.a.abs.length ≤ 140737488355328 →
    (u0.b.abs.length ≤ 140737488355328 →
    (u2.a.abs.length ≤ 140737488355328 →
    (u2.b.abs.length ≤ 140737488355328 →
    ((u2.b.abs ≠ []) ∧
    ((bk u0.a ∧ bk (rdenS u2).b) ∧
    (((gmulABS (⟨false, []⟩ : BInt) u0 (rdenS u2)).2.1.b.abs ≠ []) ∧
    ((bk (gmulABS (⟨false, []⟩ : BInt) u0 (rdenS u2)).2.2.a ∧ bk (rdenS (gmulABS (⟨false, []⟩ : BInt) u0 (rdenS u2)).2.1).b) ∧
    ((bk (gmulABS (⟨false, []⟩ : BInt) u0 (rdenS u2)).1 ∧ bk (gmulABS (⟨false, []⟩ : BInt) (gmulABS (⟨false, []⟩ : BInt) u0 (rdenS u2)).2.2 (rdenS (gmulABS (⟨false, []⟩ : BInt) u0 (rdenS u2)).2.1)).1) ∧
    (((gmulABS (⟨false, []⟩ : BInt) (gmulABS (⟨false, []⟩ : BInt) u0 (rdenS u2)).2.2 (rdenS (gmulABS (⟨false, []⟩ : BInt) u0 (rdenS u2)).2.1)).2.2.b.abs ≠ []) ∧
    (∀ r468, (rdenS (gmulABS (⟨false, []⟩ : BInt) (gmulABS (⟨false, []⟩ : BInt) u0 (rdenS u2)).2.2 (rdenS (gmulABS (⟨false, []⟩ : BInt) u0 (rdenS u2)).2.1)).2.2) = r468 →
    (r468.a.abs.length ≤ 140737488355328 →
    (r468.b.abs.length ≤ 140737488355328 →
    (((gmulABS (⟨false, []⟩ : BInt) (gmulABS (⟨false, []⟩ : BInt) u0 (rdenS u2)).2.2 (rdenS (gmulABS (⟨false, []⟩ : BInt) u0 (rdenS u2)).2.1)).2.1.b.abs ≠ []) ∧
    (∀ r491, (rdenS (gmulABS (⟨false, []⟩ : BInt) (gmulABS (⟨false, []⟩ : BInt) u0 (rdenS u2)).2.2 (rdenS (gmulABS (⟨false, []⟩ : BInt) u0 (rdenS u2)).2.1)).2.1) = r491 →
    (r491.a.abs.length ≤ 140737488355328 →
    (r491.b.abs.length ≤ 140737488355328 →
    ((bk r468.b ∧ bk r491.b) ∧
    (∀ r512, (gmulBBS (⟨false, []⟩ : BInt) r468 r491) = r512 →
    (r512.1.abs.length ≤ 140737488355328 →
    (r512.2.1.a.abs.length ≤ 140737488355328 →
    (r512.2.1.b.abs.length ≤ 140737488355328 →
    (r512.2.2.a.abs.length ≤ 140737488355328 →
    (r512.2.2.b.abs.length ≤ 140737488355328 →
    ((bk (gaddIS (⟨false, []⟩ : BInt) (gmulABS (⟨false, []⟩ : BInt) u0 (rdenS u2)).1 (gmulABS (⟨false, []⟩ : BInt) (gmulABS (⟨false, []⟩ : BInt) u0 (rdenS u2)).2.2 (rdenS (gmulABS (⟨false, []⟩ : BInt) u0 (rdenS u2)).2.1)).1).1 ∧ bk r512.1 ∧ iv r512.1 ≠ 0) ∧
    (∀ r545, (rsfS r512.2.1 (gaddIS (⟨false, []⟩ : BInt) (gmulABS (⟨false, []⟩ : BInt) u0 (rdenS u2)).1 (gmulABS (⟨false, []⟩ : BInt) (gmulABS (⟨false, []⟩ : BInt) u0 (rdenS u2)).2.2 (rdenS (gmulABS (⟨false, []⟩ : BInt) u0 (rdenS u2)).2.1)).1).1 r512.1) = r545 →
    (r545.1.a.abs.length ≤ 140737488355328 →
    (r545.1.b.abs.length ≤ 140737488355328 →
    (r545.2.1.abs.length ≤ 140737488355328 →
    (r545.2.2.abs.length ≤ 140737488355328 →
    (K (r545.1, r512.2.2))))))))))))))))))))))))))))))))

def rdenom_vc (u0 : BRat) (K : (BRat × BInt) → Prop) : Prop :=
  (u0.a.abs.length ≤ 140737488355328 →
    (u0.b.abs.length ≤ 140737488355328 →
    ((u0.b.abs ≠ []) ∧
    (∀ r27, (rdenS u0) = r27 →
    (r27.a.abs.length ≤ 140737488355328 →
    (r27.b.abs.length ≤ 140737488355328 →
    ((r27.b.abs.length ≤ 1000000) ∧
    (K (r27, (ggive (⟨false, []⟩ : BInt) r27.b.neg (gtwinS r27.b.abs)))))))))))

def rsub_vc (u0 : BRat) (u2 : BRat) (K : (BRat × BRat) → Prop) : Prop :=
  (u0.a.abs.length ≤ 140737488355328 →
    (u0.b.abs.length ≤ 140737488355328 →
    (u2.a.abs.length ≤ 140737488355328 →
    (u2.b.abs.length ≤ 140737488355328 →
    ((u2.b.abs ≠ []) ∧
    ((bk u0.a ∧ bk (rdenS u2).b) ∧
    (((gmulABS (⟨false, []⟩ : BInt) u0 (rdenS u2)).2.1.b.abs ≠ []) ∧
    ((bk (gmulABS (⟨false, []⟩ : BInt) u0 (rdenS u2)).2.2.a ∧ bk (rdenS (gmulABS (⟨false, []⟩ : BInt) u0 (rdenS u2)).2.1).b) ∧
    ((bk (gmulABS (⟨false, []⟩ : BInt) u0 (rdenS u2)).1 ∧ bk (gmulABS (⟨false, []⟩ : BInt) (gmulABS (⟨false, []⟩ : BInt) u0 (rdenS u2)).2.2 (rdenS (gmulABS (⟨false, []⟩ : BInt) u0 (rdenS u2)).2.1)).1) ∧
    (((gmulABS (⟨false, []⟩ : BInt) (gmulABS (⟨false, []⟩ : BInt) u0 (rdenS u2)).2.2 (rdenS (gmulABS (⟨false, []⟩ : BInt) u0 (rdenS u2)).2.1)).2.2.b.abs ≠ []) ∧
    (∀ r468, (rdenS (gmulABS (⟨false, []⟩ : BInt) (gmulABS (⟨false, []⟩ : BInt) u0 (rdenS u2)).2.2 (rdenS (gmulABS (⟨false, []⟩ : BInt) u0 (rdenS u2)).2.1)).2.2) = r468 →
    (r468.a.abs.length ≤ 140737488355328 →
    (r468.b.abs.length ≤ 140737488355328 →
    (((gmulABS (⟨false, []⟩ : BInt) (gmulABS (⟨false, []⟩ : BInt) u0 (rdenS u2)).2.2 (rdenS (gmulABS (⟨false, []⟩ : BInt) u0 (rdenS u2)).2.1)).2.1.b.abs ≠ []) ∧
    (∀ r491, (rdenS (gmulABS (⟨false, []⟩ : BInt) (gmulABS (⟨false, []⟩ : BInt) u0 (rdenS u2)).2.2 (rdenS (gmulABS (⟨false, []⟩ : BInt) u0 (rdenS u2)).2.1)).2.1) = r491 →
    (r491.a.abs.length ≤ 140737488355328 →
    (r491.b.abs.length ≤ 140737488355328 →
    ((bk r468.b ∧ bk r491.b) ∧
    (∀ r512, (gmulBBS (⟨false, []⟩ : BInt) r468 r491) = r512 →
    (r512.1.abs.length ≤ 140737488355328 →
    (r512.2.1.a.abs.length ≤ 140737488355328 →
    (r512.2.1.b.abs.length ≤ 140737488355328 →
    (r512.2.2.a.abs.length ≤ 140737488355328 →
    (r512.2.2.b.abs.length ≤ 140737488355328 →
    ((bk (gsubIS (⟨false, []⟩ : BInt) (gmulABS (⟨false, []⟩ : BInt) u0 (rdenS u2)).1 (gmulABS (⟨false, []⟩ : BInt) (gmulABS (⟨false, []⟩ : BInt) u0 (rdenS u2)).2.2 (rdenS (gmulABS (⟨false, []⟩ : BInt) u0 (rdenS u2)).2.1)).1).1 ∧ bk r512.1 ∧ iv r512.1 ≠ 0) ∧
    (∀ r545, (rsfS r512.2.1 (gsubIS (⟨false, []⟩ : BInt) (gmulABS (⟨false, []⟩ : BInt) u0 (rdenS u2)).1 (gmulABS (⟨false, []⟩ : BInt) (gmulABS (⟨false, []⟩ : BInt) u0 (rdenS u2)).2.2 (rdenS (gmulABS (⟨false, []⟩ : BInt) u0 (rdenS u2)).2.1)).1).1 r512.1) = r545 →
    (r545.1.a.abs.length ≤ 140737488355328 →
    (r545.1.b.abs.length ≤ 140737488355328 →
    (r545.2.1.abs.length ≤ 140737488355328 →
    (r545.2.2.abs.length ≤ 140737488355328 →
    (K (r545.1, r512.2.2))))))))))))))))))))))))))))))))

def rmul_vc (u0 : BRat) (u2 : BRat) (K : (BRat × BRat) → Prop) : Prop :=
  (u0.a.abs.length ≤ 140737488355328 →
    (u0.b.abs.length ≤ 140737488355328 →
    (u2.a.abs.length ≤ 140737488355328 →
    (u2.b.abs.length ≤ 140737488355328 →
    ((bk u0.a ∧ bk u2.a) ∧
    (((gmulAAS (⟨false, []⟩ : BInt) u0 u2).2.1.b.abs ≠ []) ∧
    (((gmulAAS (⟨false, []⟩ : BInt) u0 u2).2.2.b.abs ≠ []) ∧
    ((bk (rdenS (gmulAAS (⟨false, []⟩ : BInt) u0 u2).2.1).b ∧ bk (rdenS (gmulAAS (⟨false, []⟩ : BInt) u0 u2).2.2).b) ∧
    ((bk (gmulAAS (⟨false, []⟩ : BInt) u0 u2).1 ∧ bk (gmulBBS (⟨false, []⟩ : BInt) (rdenS (gmulAAS (⟨false, []⟩ : BInt) u0 u2).2.1) (rdenS (gmulAAS (⟨false, []⟩ : BInt) u0 u2).2.2)).1 ∧ iv (gmulBBS (⟨false, []⟩ : BInt) (rdenS (gmulAAS (⟨false, []⟩ : BInt) u0 u2).2.1) (rdenS (gmulAAS (⟨false, []⟩ : BInt) u0 u2).2.2)).1 ≠ 0) ∧
    (K ((rsfS (gmulBBS (⟨false, []⟩ : BInt) (rdenS (gmulAAS (⟨false, []⟩ : BInt) u0 u2).2.1) (rdenS (gmulAAS (⟨false, []⟩ : BInt) u0 u2).2.2)).2.1 (gmulAAS (⟨false, []⟩ : BInt) u0 u2).1 (gmulBBS (⟨false, []⟩ : BInt) (rdenS (gmulAAS (⟨false, []⟩ : BInt) u0 u2).2.1) (rdenS (gmulAAS (⟨false, []⟩ : BInt) u0 u2).2.2)).1).1, (gmulBBS (⟨false, []⟩ : BInt) (rdenS (gmulAAS (⟨false, []⟩ : BInt) u0 u2).2.1) (rdenS (gmulAAS (⟨false, []⟩ : BInt) u0 u2).2.2)).2.2)))))))))))

def rquo_vc (u0 : BRat) (u2 : BRat) (K : (BRat × BRat) → Prop) : Prop :=
  (u0.a.abs.length ≤ 140737488355328 →
    (u0.b.abs.length ≤ 140737488355328 →
    (u2.a.abs.length ≤ 140737488355328 →
    (u2.b.abs.length ≤ 140737488355328 →
    ((u2.b.abs ≠ []) ∧
    ((bk u0.a ∧ bk (rdenS u2).b) ∧
    (((gmulABS (⟨false, []⟩ : BInt) u0 (rdenS u2)).2.1.b.abs ≠ []) ∧
    ((bk (rdenS (gmulABS (⟨false, []⟩ : BInt) u0 (rdenS u2)).2.1).b ∧ bk (gmulABS (⟨false, []⟩ : BInt) u0 (rdenS u2)).2.2.a) ∧
    ((bk (gmulABS (⟨false, []⟩ : BInt) u0 (rdenS u2)).1 ∧ bk (gmulBAS (⟨false, []⟩ : BInt) (rdenS (gmulABS (⟨false, []⟩ : BInt) u0 (rdenS u2)).2.1) (gmulABS (⟨false, []⟩ : BInt) u0 (rdenS u2)).2.2).1 ∧ iv (gmulBAS (⟨false, []⟩ : BInt) (rdenS (gmulABS (⟨false, []⟩ : BInt) u0 (rdenS u2)).2.1) (gmulABS (⟨false, []⟩ : BInt) u0 (rdenS u2)).2.2).1 ≠ 0) ∧
    (K ((rsfS (gmulBAS (⟨false, []⟩ : BInt) (rdenS (gmulABS (⟨false, []⟩ : BInt) u0 (rdenS u2)).2.1) (gmulABS (⟨false, []⟩ : BInt) u0 (rdenS u2)).2.2).2.1 (gmulABS (⟨false, []⟩ : BInt) u0 (rdenS u2)).1 (gmulBAS (⟨false, []⟩ : BInt) (rdenS (gmulABS (⟨false, []⟩ : BInt) u0 (rdenS u2)).2.1) (gmulABS (⟨false, []⟩ : BInt) u0 (rdenS u2)).2.2).1).1, (gmulBAS (⟨false, []⟩ : BInt) (rdenS (gmulABS (⟨false, []⟩ : BInt) u0 (rdenS u2)).2.1) (gmulABS (⟨false, []⟩ : BInt) u0 (rdenS u2)).2.2).2.2)))))))))))

def risint_vc (u0 : BRat) (K : (Bool × BRat) → Prop) : Prop :=
  (u0.a.abs.length ≤ 140737488355328 →
    (u0.b.abs.length ≤ 140737488355328 →
    ((u0.b.abs ≠ []) ∧
    (∀ r22, (rdenS u0) = r22 →
    (r22.a.abs.length ≤ 140737488355328 →
    (r22.b.abs.length ≤ 140737488355328 →
    ((-9223372036854775808 ≤ (1 : Int) ∧ (1 : Int) ≤ 9223372036854775807) ∧
    ((bk r22.b ∧ bk (bz 1)) ∧
    (∀ r56, (gcmpBS r22 (bz 1)) = r56 →
    (r56.2.1.a.abs.length ≤ 140737488355328 →
    (r56.2.1.b.abs.length ≤ 140737488355328 →
    (r56.2.2.abs.length ≤ 140737488355328 →
    (K (r56.1 == 0, r56.2.1))))))))))))))

/-! Pure proofs: no program in sight. -/
def rsf64S (z : BRat) (a b : Int) : BRat := nrm a b
theorem rsf64_ok (z : BRat) (a b : Int) (h : b ≠ 0 ∧ (-9223372036854775808 ≤ a ∧ a ≤ 9223372036854775807) ∧ -9223372036854775808 ≤ b ∧ b ≤ 9223372036854775807) : rsf64_vc z a b (fun r => r = rsf64S z a b) := by
  intro _ _
  refine ⟨h.2.1, h.2.2, ⟨bk_bz (by omega), bk_bz (by omega), by rw [iv_bz]; exact h.1⟩, ?_⟩
  rintro r rfl _ _ _ _
  unfold rsfS rsf64S
  dsimp only
  rw [iv_bz, iv_bz]
def rsiS (z : BRat) (a : Int) : BRat := nrm a 1
theorem rsi_ok (z : BRat) (a : Int) (h : -9223372036854775808 ≤ a ∧ a ≤ 9223372036854775807) : rsi_vc z a (fun r => r = rsiS z a) := by
  intro _ _
  refine ⟨h, by omega, ⟨bk_bz (by omega), bk_bz (by decide), by rw [iv_bz]; decide⟩, ?_⟩
  rintro r rfl _ _ _ _
  unfold rsfS rsiS
  dsimp only
  rw [iv_bz, iv_bz]
/-- A ratio as it should lie. -/
def rk (r : BRat) : Prop := bk r.a ∧ bk r.b ∧ 0 < iv r.b
def rlow (x y : BRat) : Prop := (iv x.a * iv y.b).natAbs < 18446744073709551616 ∧ (iv y.a * iv x.b).natAbs < 18446744073709551616 ∧ (iv x.a * iv y.b + iv y.a * iv x.b).natAbs < 18446744073709551616 ∧ (iv x.b * iv y.b).natAbs < 18446744073709551616
theorem rk_ne {r : BRat} (h : rk r) : r.b.abs ≠ [] := iv_ne h.2.1 (by have := h.2.2; omega)
def raddS (x y : BRat) : BRat × BRat := (nrm (iv x.a * iv y.b + iv y.a * iv x.b) (iv x.b * iv y.b), y)
theorem radd_ok (x y : BRat) (h : rk x ∧ rk y ∧ rlow x y) : radd_vc x y (fun r => r = raddS x y) := by
  obtain ⟨hx, hy, h1, h2, h3, h4⟩ := h
  have hb0 := Int.mul_pos hx.2.2 hy.2.2
  intro _ _ _ _
  refine ⟨rk_ne hy, ⟨hx.1, hy.2.1⟩, rk_ne hx, ⟨hy.1, hx.2.1⟩, ⟨bk_bz h1, bk_bz h2⟩, rk_ne hx, ?_⟩
  rintro r rfl _ _
  refine ⟨rk_ne hy, ?_⟩
  rintro r rfl _ _
  refine ⟨⟨hx.2.1, hy.2.1⟩, ?_⟩
  rintro r rfl _ _ _ _ _
  have e : (gaddIS (⟨false, []⟩ : BInt) (gmulABS (⟨false, []⟩ : BInt) x (rdenS y)).1 (gmulABS (⟨false, []⟩ : BInt) (gmulABS (⟨false, []⟩ : BInt) x (rdenS y)).2.2 (rdenS (gmulABS (⟨false, []⟩ : BInt) x (rdenS y)).2.1)).1).1 = bz (iv x.a * iv y.b + iv y.a * iv x.b) := by
    unfold gaddIS gmulABS rdenS
    dsimp only
    rw [iv_bz, iv_bz]
  rw [e]
  refine ⟨⟨bk_bz h3, bk_bz h4, by show iv (bz _) ≠ 0; rw [iv_bz]; show iv x.b * iv y.b ≠ 0; omega⟩, ?_⟩
  rintro r rfl _ _ _ _
  show (nrm (iv (bz _)) (iv (bz _)), y) = _
  rw [iv_bz, iv_bz]
  rfl
def rdenomS (r : BRat) : BRat × BInt := (r, r.b)
theorem rdenom_ok (r : BRat) (h : bk r.b ∧ r.b.abs ≠ []) : rdenom_vc r (fun x => x = rdenomS r) := by
  obtain ⟨hb, hne⟩ := h
  obtain ⟨_, lb⟩ := bk_len hb
  intro _ _
  refine ⟨hne, ?_⟩
  rintro x rfl _ _
  refine ⟨by show r.b.abs.length ≤ 1000000; omega, ?_⟩
  show (r, ggive _ r.b.neg (gtwinS r.b.abs)) = _
  rw [set_core hb]
  rfl

end Go.Proofs.YtdndfbamhnchfaaDoor
set_option linter.unusedVariables false
set_option linter.unusedSimpArgs false
namespace Go.Proofs.YtdndfbamhnchfaaDoor
open Go.Sy Go.RowKit

/-! Pure proofs: no program in sight. -/
def rlows (x y : BRat) : Prop := (iv x.a * iv y.b).natAbs < 18446744073709551616 ∧ (iv y.a * iv x.b).natAbs < 18446744073709551616 ∧ (iv x.a * iv y.b - iv y.a * iv x.b).natAbs < 18446744073709551616 ∧ (iv x.b * iv y.b).natAbs < 18446744073709551616
def rsubS (x y : BRat) : BRat × BRat := (nrm (iv x.a * iv y.b - iv y.a * iv x.b) (iv x.b * iv y.b), y)
theorem rsub_ok (x y : BRat) (h : rk x ∧ rk y ∧ rlows x y) : rsub_vc x y (fun r => r = rsubS x y) := by
  obtain ⟨hx, hy, h1, h2, h3, h4⟩ := h
  have hb0 := Int.mul_pos hx.2.2 hy.2.2
  intro _ _ _ _
  refine ⟨rk_ne hy, ⟨hx.1, hy.2.1⟩, rk_ne hx, ⟨hy.1, hx.2.1⟩, ⟨bk_bz h1, bk_bz h2⟩, rk_ne hx, ?_⟩
  rintro r rfl _ _
  refine ⟨rk_ne hy, ?_⟩
  rintro r rfl _ _
  refine ⟨⟨hx.2.1, hy.2.1⟩, ?_⟩
  rintro r rfl _ _ _ _ _
  have e : (gsubIS (⟨false, []⟩ : BInt) (gmulABS (⟨false, []⟩ : BInt) x (rdenS y)).1 (gmulABS (⟨false, []⟩ : BInt) (gmulABS (⟨false, []⟩ : BInt) x (rdenS y)).2.2 (rdenS (gmulABS (⟨false, []⟩ : BInt) x (rdenS y)).2.1)).1).1 = bz (iv x.a * iv y.b - iv y.a * iv x.b) := by
    unfold gsubIS gmulABS rdenS
    dsimp only
    rw [iv_bz, iv_bz]
  rw [e]
  refine ⟨⟨bk_bz h3, bk_bz h4, by show iv (bz _) ≠ 0; rw [iv_bz]; show iv x.b * iv y.b ≠ 0; omega⟩, ?_⟩
  rintro r rfl _ _ _ _
  show (nrm (iv (bz _)) (iv (bz _)), y) = _
  rw [iv_bz, iv_bz]
  rfl
def rlowm (x y : BRat) : Prop := (iv x.a * iv y.a).natAbs < 18446744073709551616 ∧ (iv x.b * iv y.b).natAbs < 18446744073709551616
def rmulS (x y : BRat) : BRat × BRat := (nrm (iv x.a * iv y.a) (iv x.b * iv y.b), y)
theorem rmul_ok (x y : BRat) (h : rk x ∧ rk y ∧ rlowm x y) : rmul_vc x y (fun r => r = rmulS x y) := by
  obtain ⟨hx, hy, h1, h2⟩ := h
  have hb0 := Int.mul_pos hx.2.2 hy.2.2
  intro _ _ _ _
  refine ⟨⟨hx.1, hy.1⟩, rk_ne hx, rk_ne hy, ⟨hx.2.1, hy.2.1⟩, ⟨bk_bz h1, bk_bz h2, by show iv (bz _) ≠ 0; rw [iv_bz]; show iv x.b * iv y.b ≠ 0; omega⟩, ?_⟩
  show (nrm (iv (bz _)) (iv (bz _)), y) = _
  rw [iv_bz, iv_bz]
  rfl
def rlowq (x y : BRat) : Prop := (iv x.a * iv y.b).natAbs < 18446744073709551616 ∧ (iv x.b * iv y.a).natAbs < 18446744073709551616 ∧ iv y.a ≠ 0
def rquoS (x y : BRat) : BRat × BRat := (nrm (iv x.a * iv y.b) (iv x.b * iv y.a), y)
theorem rquo_ok (x y : BRat) (h : rk x ∧ rk y ∧ rlowq x y) : rquo_vc x y (fun r => r = rquoS x y) := by
  obtain ⟨hx, hy, h1, h2, h3⟩ := h
  have hb0 : iv x.b * iv y.a ≠ 0 := Int.mul_ne_zero (by have := hx.2.2; omega) h3
  intro _ _ _ _
  refine ⟨rk_ne hy, ⟨hx.1, hy.2.1⟩, rk_ne hx, ⟨hx.2.1, hy.1⟩, ⟨bk_bz h1, bk_bz h2, by show iv (bz _) ≠ 0; rw [iv_bz]; exact hb0⟩, ?_⟩
  show (nrm (iv (bz _)) (iv (bz _)), y) = _
  rw [iv_bz, iv_bz]
  rfl
def risintS (r : BRat) : Bool × BRat := (decide (iv r.b = 1), r)
theorem risint_ok (r : BRat) (h : rk r) : risint_vc r (fun x => x = risintS r) := by
  intro _ _
  refine ⟨rk_ne h, ?_⟩
  rintro _ rfl _ _
  refine ⟨by decide, ⟨h.2.1, bk_bz (by decide)⟩, ?_⟩
  rintro _ rfl _ _ _
  show (zcmp (iv r.b) (iv (bz 1)) == 0, r) = (decide (iv r.b = 1), r)
  rw [iv_bz]
  congr 1
  unfold zcmp
  rcases Int.lt_trichotomy (iv r.b) 1 with h1 | h1 | h1
  · rw [if_pos h1, decide_eq_false (by omega)]
    rfl
  · rw [if_neg (by omega), if_neg (by omega), decide_eq_true h1]
    rfl
  · rw [if_neg (by omega), if_pos h1, decide_eq_false (by omega)]
    rfl

end Go.Proofs.YtdndfbamhnchfaaDoor
set_option linter.unusedVariables false
set_option linter.unusedSimpArgs false
namespace Go.Proofs.YtdndfbamhnchfaaDoor
open Go.Sy Go.RowKit
def runm_vc (u0 : Signal) (u1 : Int) (u2 : Int) (K : (Int × Int) → Prop) : Prop :=
  ((((((decide (u2 < 1)) || (decide (u2 > 1000000))) || (decide (u1 > 1099511627776))) || (decide (u1 < (-1099511627776)))) = true →
      (K (0, 3))) ∧
    (((((decide (u2 < 1)) || (decide (u2 > 1000000))) || (decide (u1 > 1099511627776))) || (decide (u1 < (-1099511627776)))) = false →
      ((u2 ≠ 0 ∧ (-9223372036854775808 ≤ u1 ∧ u1 ≤ 9223372036854775807) ∧ -9223372036854775808 ≤ u2 ∧ u2 ≤ 9223372036854775807) ∧
      (∀ r67, (rsf64S (⟨(⟨false, []⟩ : BInt), (⟨false, []⟩ : BInt)⟩ : BRat) u1 u2) = r67 →
      (r67.a.abs.length ≤ 140737488355328 →
      (r67.b.abs.length ≤ 140737488355328 →
      ((-9223372036854775808 ≤ u0.Add ∧ u0.Add ≤ 9223372036854775807) ∧
      (∀ r104, (rsiS (⟨(⟨false, []⟩ : BInt), (⟨false, []⟩ : BInt)⟩ : BRat) u0.Add) = r104 →
      (r104.a.abs.length ≤ 140737488355328 →
      (r104.b.abs.length ≤ 140737488355328 →
      ((rk r67 ∧ rk r104 ∧ rlows r67 r104) ∧
      (∀ r125, (rsubS r67 r104) = r125 →
      (r125.1.a.abs.length ≤ 140737488355328 →
      (r125.1.b.abs.length ≤ 140737488355328 →
      (r125.2.a.abs.length ≤ 140737488355328 →
      (r125.2.b.abs.length ≤ 140737488355328 →
      ((-9223372036854775808 ≤ u0.Div ∧ u0.Div ≤ 9223372036854775807) ∧
      (∀ r168, (rsiS (⟨(⟨false, []⟩ : BInt), (⟨false, []⟩ : BInt)⟩ : BRat) u0.Div) = r168 →
      (r168.a.abs.length ≤ 140737488355328 →
      (r168.b.abs.length ≤ 140737488355328 →
      ((rk r125.1 ∧ rk r168 ∧ rlowm r125.1 r168) ∧
      (∀ r189, (rmulS r125.1 r168) = r189 →
      (r189.1.a.abs.length ≤ 140737488355328 →
      (r189.1.b.abs.length ≤ 140737488355328 →
      (r189.2.a.abs.length ≤ 140737488355328 →
      (r189.2.b.abs.length ≤ 140737488355328 →
      ((-9223372036854775808 ≤ u0.Mul ∧ u0.Mul ≤ 9223372036854775807) ∧
      (∀ r232, (rsiS (⟨(⟨false, []⟩ : BInt), (⟨false, []⟩ : BInt)⟩ : BRat) u0.Mul) = r232 →
      (r232.a.abs.length ≤ 140737488355328 →
      (r232.b.abs.length ≤ 140737488355328 →
      ((rk r189.1 ∧ rk r232 ∧ rlowq r189.1 r232) ∧
      (∀ r253, (rquoS r189.1 r232) = r253 →
      (r253.1.a.abs.length ≤ 140737488355328 →
      (r253.1.b.abs.length ≤ 140737488355328 →
      (r253.2.a.abs.length ≤ 140737488355328 →
      (r253.2.b.abs.length ≤ 140737488355328 →
      ((rk r253.1) ∧
      (∀ r286, (risintS r253.1) = r286 →
      (r286.2.a.abs.length ≤ 140737488355328 →
      (r286.2.b.abs.length ≤ 140737488355328 →
      (((!r286.1) = true →
        (K (0, 4))) ∧
      ((!r286.1) = false →
        ((-9223372036854775808 ≤ (0 : Int) ∧ (0 : Int) ≤ 9223372036854775807) ∧
        ((-9223372036854775808 ≤ (1 : Int) ∧ (1 : Int) ≤ 9223372036854775807) ∧
        ((bk (bz 1) ∧ 0 ≤ iv (bz 1) ∧ 0 ≤ (wu64 u0.Size) ∧ (wu64 u0.Size) ≤ 100) ∧
        ((u0.Signed = true →
          ((bk (glshIS (⟨false, []⟩ : BInt) (bz 1) (wu64 u0.Size)).1 ∧ 0 ≤ iv (glshIS (⟨false, []⟩ : BInt) (bz 1) (wu64 u0.Size)).1 ∧ (1 : Int) = 1) ∧
          (∀ r699, (grshIS (glshIS (⟨false, []⟩ : BInt) (bz 1) (wu64 u0.Size)).1 1) = r699 →
          (r699.abs.length ≤ 140737488355328 →
          ((bk r699) ∧
          (∀ r721, (gnegIS (bz 0) r699) = r721 →
          (r721.1.abs.length ≤ 140737488355328 →
          (r721.2.abs.length ≤ 140737488355328 →
          (∀ r743, (rnumS r286.2) = r743 →
          (r743.a.abs.length ≤ 140737488355328 →
          (r743.b.abs.length ≤ 140737488355328 →
          ((bk r743.a ∧ bk r721.1) ∧
          (∀ r766, (gcmpAS r743 r721.1) = r766 →
          (r766.2.1.a.abs.length ≤ 140737488355328 →
          (r766.2.1.b.abs.length ≤ 140737488355328 →
          (r766.2.2.abs.length ≤ 140737488355328 →
          (((decide (r766.1 < 0)) = true →
            (K (0, 3))) ∧
          ((decide (r766.1 < 0)) = false →
            (∀ r817, (rnumS r766.2.1) = r817 →
            (r817.a.abs.length ≤ 140737488355328 →
            (r817.b.abs.length ≤ 140737488355328 →
            ((bk r817.a ∧ bk r721.2) ∧
            (∀ r840, (gcmpAS r817 r721.2) = r840 →
            (r840.2.1.a.abs.length ≤ 140737488355328 →
            (r840.2.1.b.abs.length ≤ 140737488355328 →
            (r840.2.2.abs.length ≤ 140737488355328 →
            (((decide (r840.1 ≥ 0)) = true →
              (K (0, 3))) ∧
            ((decide (r840.1 ≥ 0)) = false →
              (∀ r878, (rnumS r840.2.1) = r878 →
              (r878.a.abs.length ≤ 140737488355328 →
              (r878.b.abs.length ≤ 140737488355328 →
              ((bs r878.a) ∧
              (∀ r899, (gi64AS r878) = r899 →
              (r899.2.a.abs.length ≤ 140737488355328 →
              (r899.2.b.abs.length ≤ 140737488355328 →
              (K (r899.1, 0))))))))))))))))))))))))))))))))))))) ∧
        (u0.Signed = false →
          (∀ r926, (rnumS r286.2) = r926 →
          (r926.a.abs.length ≤ 140737488355328 →
          (r926.b.abs.length ≤ 140737488355328 →
          ((bk r926.a ∧ bk (bz 0)) ∧
          (∀ r949, (gcmpAS r926 (bz 0)) = r949 →
          (r949.2.1.a.abs.length ≤ 140737488355328 →
          (r949.2.1.b.abs.length ≤ 140737488355328 →
          (r949.2.2.abs.length ≤ 140737488355328 →
          (((decide (r949.1 < 0)) = true →
            (K (0, 3))) ∧
          ((decide (r949.1 < 0)) = false →
            (∀ r1000, (rnumS r949.2.1) = r1000 →
            (r1000.a.abs.length ≤ 140737488355328 →
            (r1000.b.abs.length ≤ 140737488355328 →
            ((bk r1000.a ∧ bk (glshIS (⟨false, []⟩ : BInt) (bz 1) (wu64 u0.Size)).1) ∧
            (∀ r1023, (gcmpAS r1000 (glshIS (⟨false, []⟩ : BInt) (bz 1) (wu64 u0.Size)).1) = r1023 →
            (r1023.2.1.a.abs.length ≤ 140737488355328 →
            (r1023.2.1.b.abs.length ≤ 140737488355328 →
            (r1023.2.2.abs.length ≤ 140737488355328 →
            (((decide (r1023.1 ≥ 0)) = true →
              (K (0, 3))) ∧
            ((decide (r1023.1 ≥ 0)) = false →
              (∀ r1061, (rnumS r1023.2.1) = r1061 →
              (r1061.a.abs.length ≤ 140737488355328 →
              (r1061.b.abs.length ≤ 140737488355328 →
              ((bs r1061.a) ∧
              (∀ r1082, (gi64AS r1061) = r1082 →
              (r1082.2.a.abs.length ≤ 140737488355328 →
              (r1082.2.b.abs.length ≤ 140737488355328 →
              (K (r1082.1, 0))))))))))))))))))))))))))))))))))))))))))))))))))))))))))))))))))))))))))))

/-! Pure proofs: no program in sight. -/
theorem ngcd_coprime {a b : Int} (h : b ≠ 0) : ngcd (a.tdiv (ngcd a b)) (b.tdiv (ngcd a b)) = 1 := by
  have hp := ngcd_pos (a := a) h
  have e1 : a.tdiv (ngcd a b) = a / ngcd a b := Int.tdiv_eq_ediv_of_dvd (ngcd_left a b)
  have e2 : b.tdiv (ngcd a b) = b / ngcd a b := Int.tdiv_eq_ediv_of_dvd (ngcd_right a b)
  rw [e1, e2]
  unfold ngcd at *
  rw [Int.gcd_ediv_gcd_ediv_gcd (by omega)]
  rfl
theorem dvd_co {a b c : Int} (h : a ∣ b * c) (hg : ngcd a b = 1) : a ∣ c := by
  have hn : Nat.gcd a.natAbs b.natAbs = 1 := by
    have : ((Nat.gcd a.natAbs b.natAbs : Nat) : Int) = 1 := hg
    omega
  have h1 : a.natAbs ∣ b.natAbs * c.natAbs := by rw [← Int.natAbs_mul]; exact Int.natAbs_dvd_natAbs.2 h
  exact Int.natAbs_dvd_natAbs.1 (Nat.Coprime.dvd_of_dvd_mul_left hn h1)
theorem ngcd_comm (a b : Int) : ngcd a b = ngcd b a := by unfold ngcd; rw [Int.gcd_comm]
theorem ngcd_neg_left (a b : Int) : ngcd (-a) b = ngcd a b := by unfold ngcd; rw [Int.neg_gcd]
theorem ngcd_neg_right (a b : Int) : ngcd a (-b) = ngcd a b := by unfold ngcd; rw [Int.gcd_neg]
theorem ngcd_dvd {a b : Int} (hb : 0 < b) (h : b ∣ a) : ngcd a b = b := by unfold ngcd; rw [Int.gcd_eq_right (by omega) h]
/-- What a whole number means is found again. -/
theorem rawN_back {mul div add num den n : Int} (hm : mul ≠ 0) (hd : 0 < den) (h : n * mul * den = (num - add * den) * div) : rawN mul div add num den = (n, true) := by
  unfold rawN
  dsimp only
  generalize num - add * den = up at *
  have g0 := ngcd_pos (a := div) hm
  have g1 := Int.tdiv_mul_cancel (ngcd_left div mul)
  have g2 := Int.tdiv_mul_cancel (ngcd_right div mul)
  have gc := ngcd_coprime (a := div) hm
  generalize ngcd div mul = g at *
  generalize div.tdiv g = a0 at *
  generalize mul.tdiv g = b0 at *
  have hb0 : b0 ≠ 0 := by intro e; rw [e, Int.zero_mul] at g2; exact hm g2.symm
  obtain ⟨a, b, ha, hb, hbp, hab, heq⟩ : ∃ a b : Int, (if b0 < 0 then -a0 else a0) = a ∧ (if b0 < 0 then -b0 else b0) = b ∧ 0 < b ∧ ngcd a b = 1 ∧ n * b * den = up * a := by
    have h2 : n * b0 * den = up * a0 := by
      have : n * b0 * den * g = up * a0 * g := by
        have e1 : n * b0 * den * g = n * (b0 * g) * den := by ac_rfl
        have e2 : up * a0 * g = up * (a0 * g) := by ac_rfl
        rw [e1, e2, g1, g2, h]
      exact Int.eq_of_mul_eq_mul_right (by omega) this
    by_cases hn : b0 < 0
    · refine ⟨-a0, -b0, by rw [if_pos hn], by rw [if_pos hn], by omega, by rw [ngcd_neg_left, ngcd_neg_right, gc], ?_⟩
      rw [Int.mul_neg, Int.neg_mul, Int.mul_neg, h2]
    · exact ⟨a0, b0, by rw [if_neg hn], by rw [if_neg hn], by omega, gc, h2⟩
  rw [ha, hb]
  clear ha hb h g1 g2 gc hb0
  have k1 := Int.tdiv_mul_cancel (ngcd_left up den)
  have k2 := Int.tdiv_mul_cancel (ngcd_right up den)
  have kc := ngcd_coprime (a := up) (b := den) (by omega)
  have k0 := ngcd_pos (a := up) (b := den) (by omega)
  generalize ngcd up den = k at *
  generalize up.tdiv k = up1 at *
  generalize den.tdiv k = den1 at *
  have hd1 : 0 < den1 := by
    rcases Int.lt_trichotomy den1 0 with e | e | e
    · have := Int.mul_neg_of_neg_of_pos e k0; omega
    · rw [e, Int.zero_mul] at k2; omega
    · exact e
  have heq2 : n * b * den1 = up1 * a := by
    have : n * b * den1 * k = up1 * a * k := by
      have e1 : n * b * den1 * k = n * b * (den1 * k) := by ac_rfl
      have e2 : up1 * a * k = (up1 * k) * a := by ac_rfl
      rw [e1, e2, k1, k2, heq]
    exact Int.eq_of_mul_eq_mul_right (by omega) this
  have hda : den1 ∣ a := dvd_co (b := up1) ⟨n * b, by rw [← heq2]; ac_rfl⟩ (by rw [ngcd_comm]; exact kc)
  rw [ngcd_dvd hd1 hda]
  obtain ⟨a1, rfl⟩ := hda
  rw [Int.mul_tdiv_cancel_left _ (by omega : den1 ≠ 0), Int.tdiv_self (by omega)]
  have heq3 : n * b = up1 * a1 := by
    have : n * b * den1 = up1 * a1 * den1 := by rw [heq2]; ac_rfl
    exact Int.eq_of_mul_eq_mul_right (by omega) this
  have hba : ngcd b a1 = 1 := by
    have h1 : ngcd b a1 ∣ ngcd (den1 * a1) b := by
      unfold ngcd
      exact Int.natCast_dvd_natCast.2 (Nat.dvd_gcd (by rw [Int.natAbs_mul]; exact Nat.dvd_trans (Nat.gcd_dvd_right _ _) (Nat.dvd_mul_left _ _)) (Nat.gcd_dvd_left _ _))
    rw [hab] at h1
    have h2 := Int.le_of_dvd (by decide) h1
    have h3 := ngcd_pos (a := a1) (b := b) (by omega)
    rw [ngcd_comm] at h3
    omega
  have hbu : b ∣ up1 := dvd_co (b := a1) ⟨n, by rw [Int.mul_comm a1, ← heq3]; ac_rfl⟩ hba
  rw [ngcd_dvd hbp hbu]
  obtain ⟨u, rfl⟩ := hbu
  rw [Int.mul_tdiv_cancel_left _ (by omega : b ≠ 0), Int.tdiv_self (by omega)]
  have : n = u * a1 := by
    have : n * b = u * a1 * b := by rw [heq3]; ac_rfl
    exact Int.eq_of_mul_eq_mul_right (by omega) this
  rw [this]
  rfl
/-- Lowest terms: what they are, and how great. -/
theorem nrm0_is {a b : Int} (hb : 0 < b) : ∃ g x y : Int, 0 < g ∧ 0 < y ∧ a = g * x ∧ b = g * y ∧ nrm0 a b = ⟨bz x, bz y⟩ ∧ Int.gcd x y = 1 := by
  have hg : 0 < Int.gcd a b := Int.gcd_pos_of_ne_zero_right _ (by omega)
  obtain ⟨x, hx⟩ : ((Int.gcd a b : Nat) : Int) ∣ a := Int.gcd_dvd_left ..
  obtain ⟨y, hy⟩ : ((Int.gcd a b : Nat) : Int) ∣ b := Int.gcd_dvd_right ..
  have hgi : (0 : Int) < (Int.gcd a b : Nat) := by omega
  have hy0 : 0 < y := by
    rcases Int.lt_or_le 0 y with h | h
    · exact h
    · have := Int.mul_nonpos_of_nonneg_of_nonpos (Int.le_of_lt hgi) h
      omega
  have h1 : Int.gcd a b = Int.gcd a b * Int.gcd x y := by
    have := Int.gcd_mul_left ((Int.gcd a b : Nat) : Int) x y
    rw [← hx, ← hy, Int.natAbs_natCast] at this
    exact this
  refine ⟨(Int.gcd a b : Nat), x, y, hgi, hy0, hx, hy, ?_, ?_⟩
  · unfold nrm0
    generalize Int.gcd a b = g at *
    rw [hx, hy, Int.mul_tdiv_cancel_left _ (by omega), Int.mul_tdiv_cancel_left _ (by omega)]
  · have h2 : Int.gcd a b * 1 = Int.gcd a b * Int.gcd x y := by rw [Nat.mul_one]; exact h1
    exact (Nat.eq_of_mul_eq_mul_left hg h2).symm
theorem nrm_one (a : Int) : nrm a 1 = ⟨bz a, bz 1⟩ := by
  unfold nrm nrm0
  rw [if_neg (by omega)]
  have : Int.gcd a 1 = 1 := by simp
  rw [this]
  show (⟨bz (a.tdiv 1), bz ((1 : Int).tdiv 1)⟩ : BRat) = _
  rw [Int.tdiv_one, Int.tdiv_one]
theorem nrm_pos {a b : Int} (h : 0 < b) : nrm a b = nrm0 a b := by unfold nrm; rw [if_neg (by omega)]
/-- Lowest terms of a/b, whatever sign b has. -/
theorem nrm_is {a b : Int} (hb : b ≠ 0) : ∃ g x y : Int, g ≠ 0 ∧ 0 < y ∧ a = g * x ∧ b = g * y ∧ nrm a b = ⟨bz x, bz y⟩ ∧ Int.gcd x y = 1 := by
  by_cases h : b < 0
  · obtain ⟨g, x, y, h1, h2, h3, h4, h5, h6⟩ := nrm0_is (a := -a) (b := -b) (by omega)
    refine ⟨-g, x, y, by omega, h2, ?_, ?_, ?_, h6⟩
    · rw [Int.neg_mul, ← h3]
      omega
    · rw [Int.neg_mul, ← h4]
      omega
    · unfold nrm
      rw [if_pos h]
      exact h5
  · obtain ⟨g, x, y, h1, h2, h3, h4, h5, h6⟩ := nrm0_is (a := a) (b := b) (by omega)
    exact ⟨g, x, y, by omega, h2, h3, h4, by rw [nrm_pos (by omega)]; exact h5, h6⟩
theorem abs_part2 {g x a : Int} (hg : g ≠ 0) (h : a = g * x) : x.natAbs ≤ a.natAbs := by
  rw [h, Int.natAbs_mul]
  have : 1 * x.natAbs ≤ g.natAbs * x.natAbs := Nat.mul_le_mul_right _ (by omega)
  omega
theorem zcmp_lt {x y : Int} : decide (zcmp x y < 0) = decide (x < y) := by
  unfold zcmp
  rw [decide_eq_decide]
  split
  · rename_i h
    exact ⟨fun _ => h, fun _ => by decide⟩
  · rename_i h
    split
    · exact ⟨fun hc => absurd hc (by decide), fun hc => absurd hc h⟩
    · exact ⟨fun hc => absurd hc (by decide), fun hc => absurd hc h⟩
theorem zcmp_ge {x y : Int} : decide (zcmp x y ≥ 0) = decide (y ≤ x) := by
  unfold zcmp
  rw [decide_eq_decide]
  split
  · exact ⟨fun hc => absurd hc (by decide), fun hc => by omega⟩
  · split
    · exact ⟨fun _ => by omega, fun _ => by decide⟩
    · exact ⟨fun _ => by omega, fun _ => by decide⟩
theorem unm_tail (R : BRat) (x L U : Int) (hR : R.a = bz x) (bx : x.natAbs < 9223372036854775808) (bL : L.natAbs < 18446744073709551616) (bU : U.natAbs < 18446744073709551616) {A : Int × Int → Prop} (h1 : x < L → A (0, 3)) (h2 : U ≤ x → A (0, 3)) (h3 : L ≤ x → x < U → A (x, 0)) :
    (∀ r743, (rnumS R) = r743 →
          (r743.a.abs.length ≤ 140737488355328 →
          (r743.b.abs.length ≤ 140737488355328 →
          ((bk r743.a ∧ bk (bz L)) ∧
          (∀ r766, (gcmpAS r743 (bz L)) = r766 →
          (r766.2.1.a.abs.length ≤ 140737488355328 →
          (r766.2.1.b.abs.length ≤ 140737488355328 →
          (r766.2.2.abs.length ≤ 140737488355328 →
          (((decide (r766.1 < 0)) = true →
            (A (0, 3))) ∧
          ((decide (r766.1 < 0)) = false →
            (∀ r817, (rnumS r766.2.1) = r817 →
            (r817.a.abs.length ≤ 140737488355328 →
            (r817.b.abs.length ≤ 140737488355328 →
            ((bk r817.a ∧ bk (bz U)) ∧
            (∀ r840, (gcmpAS r817 (bz U)) = r840 →
            (r840.2.1.a.abs.length ≤ 140737488355328 →
            (r840.2.1.b.abs.length ≤ 140737488355328 →
            (r840.2.2.abs.length ≤ 140737488355328 →
            (((decide (r840.1 ≥ 0)) = true →
              (A (0, 3))) ∧
            ((decide (r840.1 ≥ 0)) = false →
              (∀ r878, (rnumS r840.2.1) = r878 →
              (r878.a.abs.length ≤ 140737488355328 →
              (r878.b.abs.length ≤ 140737488355328 →
              ((bs r878.a) ∧
              (∀ r899, (gi64AS r878) = r899 →
              (r899.2.a.abs.length ≤ 140737488355328 →
              (r899.2.b.abs.length ≤ 140737488355328 →
              (A (r899.1, 0))))))))))))))))))))))))))))) := by
  have ka : bk R.a := by rw [hR]; exact bk_bz (by omega)
  have ks : bs R.a := by
    rw [hR]
    unfold bs
    rw [iv_bz]
    exact ⟨rfl, bx⟩
  have hiv : iv R.a = x := by rw [hR, iv_bz]
  rintro _ rfl _ _
  refine ⟨⟨ka, bk_bz bL⟩, ?_⟩
  rintro _ rfl _ _ _
  have e1 : (gcmpAS (rnumS R) (bz L)).1 = zcmp x L := by
    show zcmp (iv R.a) (iv (bz L)) = _
    rw [hiv, iv_bz]
  rw [e1, zcmp_lt]
  refine ⟨fun h => h1 (of_decide_eq_true h), fun h => ?_⟩
  have h := of_decide_eq_false h
  rintro _ rfl _ _
  refine ⟨⟨ka, bk_bz bU⟩, ?_⟩
  rintro _ rfl _ _ _
  have e2 : (gcmpAS (rnumS (gcmpAS (rnumS R) (bz L)).2.1) (bz U)).1 = zcmp x U := by
    show zcmp (iv R.a) (iv (bz U)) = _
    rw [hiv, iv_bz]
  rw [e2, zcmp_ge]
  refine ⟨fun h => h2 (of_decide_eq_true h), fun h' => ?_⟩
  have h' := of_decide_eq_false h'
  rintro _ rfl _ _
  refine ⟨ks, ?_⟩
  rintro _ rfl _ _
  show A (iv R.a, 0)
  rw [hiv]
  exact h3 (by omega) (by omega)
set_option maxHeartbeats 0 in
theorem runm_ok (s : Signal) (num den : Int) (h : checkS s 64 = 0) : runm_vc s num den (fun r => r = rawS s num den) := by
  obtain ⟨⟨_, _, z1, z2⟩, ⟨m0, m1, m2, d1, d2, a1, a2⟩, _, _⟩ := check_zero h
  unfold rawS
  rw [if_neg (show ¬ checkS s 64 ≠ 0 by rw [h]; simp)]
  refine ⟨fun h1 => ?_, fun h1 => ?_⟩
  · rw [if_pos]
    simp only [Bool.or_eq_true, decide_eq_true_eq] at h1
    omega
  simp only [Bool.or_eq_false_iff, decide_eq_false_iff_not] at h1
  rw [if_neg (by omega)]
  refine ⟨by omega, ?_⟩
  obtain ⟨g, x, y, hg, hy, hx1, hy1, hq1, _⟩ := nrm_is (a := num) (b := den) (by omega)
  have bx := abs_part2 hg hx1
  have bY := abs_part2 hg hy1
  have e67 : rsf64S (⟨(⟨false, []⟩ : BInt), (⟨false, []⟩ : BInt)⟩ : BRat) num den = ⟨bz x, bz y⟩ := hq1
  rw [e67]
  rintro _ rfl _ _
  refine ⟨by omega, ?_⟩
  have e104 : rsiS (⟨(⟨false, []⟩ : BInt), (⟨false, []⟩ : BInt)⟩ : BRat) s.Add = ⟨bz s.Add, bz 1⟩ := nrm_one _
  rw [e104]
  rintro _ rfl _ _
  have hAy := mul_abs (a := s.Add) (b := y) (A := 1000000) (B := 1000000) ⟨a1, a2⟩ (by omega)
  have rk1 : ∀ z : Int, z.natAbs < 18446744073709551616 → rk ⟨bz z, bz 1⟩ := fun z hz => ⟨bk_bz hz, bk_bz (by decide), by show 0 < iv (bz 1); rw [iv_bz]; decide⟩
  have rk2 : ∀ z w : Int, z.natAbs < 18446744073709551616 → w.natAbs < 18446744073709551616 → 0 < w → rk ⟨bz z, bz w⟩ := fun z w hz hw h0 => ⟨bk_bz hz, bk_bz hw, by show 0 < iv (bz w); rw [iv_bz]; exact h0⟩
  refine ⟨⟨rk2 x y (by omega) (by omega) hy, rk1 s.Add (by omega), ?_⟩, ?_⟩
  · unfold rlows
    dsimp only
    rw [iv_bz, iv_bz, iv_bz, iv_bz, Int.mul_one, Int.mul_one]
    omega
  obtain ⟨g2, x2, y2, hg2, hy2, hx3, hy3, hq2, _⟩ := nrm_is (a := x - s.Add * y) (b := y) (by omega)
  have bx2 := abs_part2 hg2 hx3
  have bY2 := abs_part2 hg2 hy3
  have e125 : rsubS (⟨bz x, bz y⟩ : BRat) ⟨bz s.Add, bz 1⟩ = (⟨bz x2, bz y2⟩, ⟨bz s.Add, bz 1⟩) := by
    unfold rsubS
    dsimp only
    rw [iv_bz, iv_bz, iv_bz, iv_bz, Int.mul_one, Int.mul_one, hq2]
  rw [e125]
  rintro _ rfl _ _ _ _
  refine ⟨by omega, ?_⟩
  have e168 : rsiS (⟨(⟨false, []⟩ : BInt), (⟨false, []⟩ : BInt)⟩ : BRat) s.Div = ⟨bz s.Div, bz 1⟩ := nrm_one _
  rw [e168]
  rintro _ rfl _ _
  have hxd := mul_abs (a := x2) (b := s.Div) (A := 2099511627776) (B := 1000000) (by omega) ⟨by omega, d2⟩
  refine ⟨⟨rk2 x2 y2 (by omega) (by omega) hy2, rk1 s.Div (by omega), ?_⟩, ?_⟩
  · unfold rlowm
    dsimp only
    rw [iv_bz, iv_bz, iv_bz, iv_bz, Int.mul_one]
    omega
  obtain ⟨g3, x3, y3, hg3, hy3', hx4, hy4, hq3, _⟩ := nrm_is (a := x2 * s.Div) (b := y2) (by omega)
  have bx3 := abs_part2 hg3 hx4
  have bY3 := abs_part2 hg3 hy4
  have e189 : rmulS (⟨bz x2, bz y2⟩ : BRat) ⟨bz s.Div, bz 1⟩ = (⟨bz x3, bz y3⟩, ⟨bz s.Div, bz 1⟩) := by
    unfold rmulS
    dsimp only
    rw [iv_bz, iv_bz, iv_bz, iv_bz, Int.mul_one, hq3]
  rw [e189]
  rintro _ rfl _ _ _ _
  refine ⟨by omega, ?_⟩
  have e232 : rsiS (⟨(⟨false, []⟩ : BInt), (⟨false, []⟩ : BInt)⟩ : BRat) s.Mul = ⟨bz s.Mul, bz 1⟩ := nrm_one _
  rw [e232]
  rintro _ rfl _ _
  have hym := mul_abs (a := y3) (b := s.Mul) (A := 1000000) (B := 1000000) (by omega) ⟨m1, m2⟩
  have hym0 : y3 * s.Mul ≠ 0 := Int.mul_ne_zero (by omega) m0
  refine ⟨⟨rk2 x3 y3 (by omega) (by omega) hy3', rk1 s.Mul (by omega), ?_⟩, ?_⟩
  · unfold rlowq
    dsimp only
    rw [iv_bz, iv_bz, iv_bz, iv_bz, Int.mul_one]
    exact ⟨by omega, by omega, m0⟩
  obtain ⟨g4, x4, y4, hg4, hy4', hx5, hy5, hq4, hco⟩ := nrm_is (a := x3) (b := y3 * s.Mul) hym0
  have bx4 := abs_part2 hg4 hx5
  have bY4 := abs_part2 hg4 hy5
  have e253 : rquoS (⟨bz x3, bz y3⟩ : BRat) ⟨bz s.Mul, bz 1⟩ = (⟨bz x4, bz y4⟩, ⟨bz s.Mul, bz 1⟩) := by
    unfold rquoS
    dsimp only
    rw [iv_bz, iv_bz, iv_bz, iv_bz, Int.mul_one, hq4]
  rw [e253]
  rintro _ rfl _ _ _ _
  refine ⟨rk2 x4 y4 (by omega) (by omega) hy4', ?_⟩
  have e286 : risintS (⟨bz x4, bz y4⟩ : BRat) = (decide (y4 = 1), ⟨bz x4, bz y4⟩) := by
    unfold risintS
    dsimp only
    rw [iv_bz]
  rw [e286]
  rintro _ rfl _ _
  -- what the ratio is
  have hrel : x4 * (den * s.Mul) = y4 * ((num - s.Add * den) * s.Div) := by
    have r1 : num - s.Add * den = g * (g2 * x2) := by
      rw [hx1, hy1, Int.mul_left_comm s.Add g y, ← Int.mul_sub, hx3]
    have r2 : den = g * (g2 * (g3 * y3)) := by rw [hy1, hy3, hy4]
    have r3 : x4 * (y3 * s.Mul) = y4 * x3 := by
      rw [hy5, hx5, Int.mul_left_comm, Int.mul_left_comm y4 g4, Int.mul_comm x4 y4]
    have r4 : (num - s.Add * den) * s.Div = g * (g2 * (g3 * x3)) := by
      rw [r1, Int.mul_assoc, Int.mul_assoc, hx4]
    rw [r4]
    have r5 : den * s.Mul = g * (g2 * (g3 * (y3 * s.Mul))) := by rw [r2, Int.mul_assoc, Int.mul_assoc, Int.mul_assoc]
    rw [r5, Int.mul_left_comm x4 g, Int.mul_left_comm x4 g2, Int.mul_left_comm x4 g3, r3, Int.mul_left_comm y4 g, Int.mul_left_comm y4 g2, Int.mul_left_comm y4 g3]
  have hdm : den * s.Mul ≠ 0 := Int.mul_ne_zero (by omega) m0
  refine ⟨fun h2 => ?_, fun h2 => ?_⟩
  · have h2 : ¬ y4 = 1 := by simpa using h2
    rw [if_pos]
    cases hr : (rawN s.Mul s.Div s.Add num den).2 with
    | false => rfl
    | true =>
      exfalso
      have hs := rawN_sound hr
      generalize (rawN s.Mul s.Div s.Add num den).1 = n at hs
      have h9 : y4 * (n * s.Mul * den) = (y4 * n) * (den * s.Mul) := by rw [Int.mul_assoc n, Int.mul_comm s.Mul den, ← Int.mul_assoc y4]
      rw [← hs, h9] at hrel
      have := Int.eq_of_mul_eq_mul_right hdm hrel
      rw [this, Int.gcd_mul_right_left] at hco
      omega
  have h2 : y4 = 1 := by simpa using h2
  subst h2
  rw [Int.one_mul] at hrel
  have hraw : rawN s.Mul s.Div s.Add num den = (x4, true) := rawN_back m0 (by omega) (by rw [← hrel, Int.mul_assoc, Int.mul_comm s.Mul den])
  rw [hraw, if_neg (by simp)]
  dsimp only
  obtain ⟨S, hS⟩ : ∃ S : Nat, s.Size = ((S + 1 : Nat) : Int) := ⟨s.Size.toNat - 1, by omega⟩
  have hw : wu64 s.Size = ((S + 1 : Nat) : Int) := by rw [hS, wu64_eq _ (by omega)]
  have hp : (2 : Int) ^ S ≤ 549755813888 := by
    have : 2 ^ S ≤ 2 ^ 39 := Nat.pow_le_pow_right (by omega) (by omega)
    have e : ((2 ^ S : Nat) : Int) = (2 : Int) ^ S := by norm_cast
    omega
  have hp0 : (0 : Int) < 2 ^ S := Int.pow_pos (by decide)
  have hps : (2 : Int) ^ (S + 1) = 2 * 2 ^ S := by rw [Int.pow_succ]; omega
  have eL : glshIS (⟨false, []⟩ : BInt) (bz 1) (wu64 s.Size) = (bz (2 * 2 ^ S), bz 1) := by
    unfold glshIS
    rw [hw, iv_bz, Int.toNat_natCast, hps, Int.one_mul]
  rw [eL]
  refine ⟨by decide, by decide, ⟨bk_bz (by decide), by rw [iv_bz]; decide, by omega, by omega⟩, fun hsg => ⟨⟨bk_bz (by omega), by show 0 ≤ iv (bz _); rw [iv_bz]; omega, rfl⟩, ?_⟩, fun hsg => ?_⟩
  · have eR : grshIS (bz (2 * 2 ^ S)) 1 = bz (2 ^ S) := by
      unfold grshIS
      rw [iv_bz]
      congr 1
      show 2 * 2 ^ S / 2 ^ 1 = _
      omega
    rw [eR]
    rintro _ rfl _
    refine ⟨bk_bz (by omega), ?_⟩
    have eN : gnegIS (bz 0) (bz (2 ^ S)) = (bz (-(2 ^ S)), bz (2 ^ S)) := by
      unfold gnegIS
      rw [iv_bz]
    rw [eN]
    rintro _ rfl _ _
    have hlo : lowS s = -(2 ^ S) := by
      unfold lowS
      rw [if_pos hsg, hS, Int.toNat_natCast, Nat.add_sub_cancel]
    have hhi : highS s = 2 ^ S - 1 := by
      unfold highS
      rw [if_pos hsg, hS, Int.toNat_natCast, Nat.add_sub_cancel]
    rw [hlo, hhi]
    dsimp only
    refine unm_tail ⟨bz x4, bz 1⟩ x4 (-(2 ^ S)) (2 ^ S) rfl (by omega) (by omega) (by omega) (A := fun r => r = if x4 < -2 ^ S ∨ 2 ^ S - 1 < x4 then (0, 3) else (x4, 0)) (fun h => ?_) (fun h => ?_) (fun h h' => ?_)
    · rw [if_pos (by omega)]
    · rw [if_pos (by omega)]
    · rw [if_neg (by omega)]
  · have hlo : lowS s = 0 := by
      unfold lowS
      rw [if_neg (by rw [hsg]; simp)]
    have hhi : highS s = 2 * 2 ^ S - 1 := by
      unfold highS
      rw [if_neg (by rw [hsg]; simp), hS, Int.toNat_natCast, hps]
    rw [hlo, hhi]
    dsimp only
    refine unm_tail ⟨bz x4, bz 1⟩ x4 0 (2 * 2 ^ S) rfl (by omega) (by decide) (by omega) (A := fun r => r = if x4 < 0 ∨ 2 * 2 ^ S - 1 < x4 then (0, 3) else (x4, 0)) (fun h => ?_) (fun h => ?_) (fun h h' => ?_)
    · rw [if_pos (by omega)]
    · rw [if_pos (by omega)]
    · rw [if_neg (by omega)]

end Go.Proofs.YtdndfbamhnchfaaDoor
set_option linter.unusedVariables false
set_option linter.unusedSimpArgs false
namespace Go.Proofs.YtdndfbamhnchfaaDoor
open Go.Sy Go.RowKit
def LWrite_vc (u0 : Signal) (u1 : List Int) (u2 : Int) (u3 : Int) (K : Bool → Prop) : Prop :=
  (u1.length ≤ 140737488355328 →
    ((u1.length ≤ 140737488355328) ∧
    ((bcloneS u1).length ≤ 140737488355328 →
    ((isBytes (bcloneS u1)) ∧
    ((swriteS u0 (bcloneS u1) u2 u3).1.length ≤ 140737488355328 →
    (((!(beqS (bcloneS u1) u1)) = true →
      (K false)) ∧
    ((!(beqS (bcloneS u1) u1)) = false →
      ((((checkS u0 64) == 0) = true →
        ((checkS u0 64 = 0) ∧
        (((((rawS u0 u2 u3).2 != (rawS u0 u2 u3).2) || ((rawS u0 u2 u3).1 != (rawS u0 u2 u3).1)) = true →
          (K false)) ∧
        ((((rawS u0 u2 u3).2 != (rawS u0 u2 u3).2) || ((rawS u0 u2 u3).1 != (rawS u0 u2 u3).1)) = false →
          ((((checkS u0 (u1.length : Int)) != 0) = true →
            (K (((swriteS u0 (bcloneS u1) u2 u3).2 == (checkS u0 (u1.length : Int))) && (((swriteS u0 (bcloneS u1) u2 u3).1.length : Int) == 0)))) ∧
          (((checkS u0 (u1.length : Int)) != 0) = false →
            ((((rawS u0 u2 u3).2 != 0) = true →
              (K (((swriteS u0 (bcloneS u1) u2 u3).2 == (rawS u0 u2 u3).2) && (((swriteS u0 (bcloneS u1) u2 u3).1.length : Int) == 0)))) ∧
            (((rawS u0 u2 u3).2 != 0) = false →
              ((((swriteS u0 (bcloneS u1) u2 u3).2 == 0) = true →
                ((inD u0 u1) ∧
                ((putS u0 u1 (rawS u0 u2 u3).1).length ≤ 140737488355328 →
                (K (beqS (swriteS u0 (bcloneS u1) u2 u3).1 (putS u0 u1 (rawS u0 u2 u3).1)))))) ∧
              (((swriteS u0 (bcloneS u1) u2 u3).2 == 0) = false →
                (K false))))))))))) ∧
      (((checkS u0 64) == 0) = false →
        (((((rawS u0 u2 u3).2 != (checkS u0 64)) || ((rawS u0 u2 u3).1 != 0)) = true →
          (K false)) ∧
        ((((rawS u0 u2 u3).2 != (checkS u0 64)) || ((rawS u0 u2 u3).1 != 0)) = false →
          ((((checkS u0 (u1.length : Int)) != 0) = true →
            (K (((swriteS u0 (bcloneS u1) u2 u3).2 == (checkS u0 (u1.length : Int))) && (((swriteS u0 (bcloneS u1) u2 u3).1.length : Int) == 0)))) ∧
          (((checkS u0 (u1.length : Int)) != 0) = false →
            ((((checkS u0 64) != 0) = true →
              (K (((swriteS u0 (bcloneS u1) u2 u3).2 == (checkS u0 64)) && (((swriteS u0 (bcloneS u1) u2 u3).1.length : Int) == 0)))) ∧
            (((checkS u0 64) != 0) = false →
              ((((swriteS u0 (bcloneS u1) u2 u3).2 == 0) = true →
                ((inD u0 u1) ∧
                ((putS u0 u1 0).length ≤ 140737488355328 →
                (K (beqS (swriteS u0 (bcloneS u1) u2 u3).1 (putS u0 u1 0)))))) ∧
              (((swriteS u0 (bcloneS u1) u2 u3).2 == 0) = false →
                (K false))))))))))))))))))

/-! Pure proofs: no program in sight. -/
theorem LWrite_ok {A C D : Prop} (s : Signal) (d : List Int) (num den : Int) (k0 : A) (k1 : (∀ y0 ∈ d, IntKind.u8.min ≤ y0 ∧ y0 ≤ IntKind.u8.max) ∧ d.length * 1 ≤ lim) (k2 : C) (k3 : D) : LWrite_vc s d num den (fun r => r = true) := by
  have hd : isBytes d := fun x hx => k1.1 x hx
  have hcl : bcloneS d = d := rfl
  intro hl
  rw [hcl]
  refine ⟨hl, fun _ => ⟨hd, fun _ => ⟨fun h => ?_, fun _ => ⟨fun h1 => ?_, fun h1 => ?_⟩⟩⟩⟩
  · simp [beqS] at h
  · have h1 : checkS s 64 = 0 := by simpa using h1
    refine ⟨h1, fun h => by simp at h, fun _ => ⟨fun h2 => ?_, fun h2 => ⟨fun h3 => ?_, fun h3 => ⟨fun _ => ?_, fun h4 => ?_⟩⟩⟩⟩
    · have h2 : checkS s d.length ≠ 0 := by simpa using h2
      unfold swriteS
      rw [if_pos h2]
      simp
    · have h2 : ¬ checkS s d.length ≠ 0 := by simpa using h2
      have h3 : (rawS s num den).2 ≠ 0 := by simpa using h3
      unfold swriteS
      rw [if_neg h2, if_pos h3]
      simp
    · have h2 : checkS s d.length = 0 := by simpa using h2
      have h3 : ¬ (rawS s num den).2 ≠ 0 := by simpa using h3
      obtain ⟨c1, c2, c3, c4⟩ := check_zero h2
      refine ⟨⟨⟨by omega, by omega⟩, hd, fun p hp => by have := c4 p hp; omega⟩, fun _ => ?_⟩
      unfold swriteS
      rw [if_neg (by rw [h2]; simp), if_neg h3]
      simp [beqS]
    · have h2 : ¬ checkS s d.length ≠ 0 := by simpa using h2
      have h3 : ¬ (rawS s num den).2 ≠ 0 := by simpa using h3
      unfold swriteS at h4
      rw [if_neg h2, if_neg h3] at h4
      simp at h4
  · have h1 : checkS s 64 ≠ 0 := by simpa using h1
    have hr : rawS s num den = (0, checkS s 64) := by
      unfold rawS
      rw [if_pos h1]
    refine ⟨fun h => by rw [hr] at h; simp at h, fun _ => ⟨fun h2 => ?_, fun h2 => ⟨fun _ => ?_, fun h3 => ?_⟩⟩⟩
    · have h2 : checkS s d.length ≠ 0 := by simpa using h2
      unfold swriteS
      rw [if_pos h2]
      simp
    · have h2 : ¬ checkS s d.length ≠ 0 := by simpa using h2
      unfold swriteS
      rw [if_neg h2, hr, if_pos h1]
      simp
    · exact absurd (by simpa using h3) h1

end Go.Proofs.YtdndfbamhnchfaaDoor
