/- What must hold so that each function ends well: pure predicates, made by program. -/
import Derived.Test.YtginlmgkimfjmaaPDr
set_option linter.unusedVariables false
set_option linter.unusedSimpArgs false
namespace Go.Proofs.Ytginlmgkimfjmaa
open Go.Sy Go.RowKit
def swaits_vc (u0 : List Task) (u1 : List Slot) (K : ((List Int) × Int) → Prop) : Prop :=
  (u0.length ≤ 140737488355328 →
    (u1.length ≤ 140737488355328 →
    ((((dcheckS u0) != 0) = true →
      (K (([] : List Int), (dcheckS u0)))) ∧
    (((dcheckS u0) != 0) = false →
      ((0 ≤ (u0.length : Int) ∧ (u0.length : Int) ≤ (u0.length : Int) ∧ (u0.length : Int) * 8 ≤ 140737488355328) ∧
      (∃ inv62 : Int → (List Int) → Prop, ∃ mu62 : Int → (List Int) → Nat, inv62 0 (List.replicate (u0.length : Int).toNat (0 : Int)) ∧
      (∀ (x20 : Int) (zg460 : List Int), inv62 x20 zg460 →
      (((decide (x20 < (u1.length : Int))) = true →
        ((0 ≤ x20 ∧ x20 < (u1.length : Int)) ∧
        (∀ q86, u1[x20.toNat]? = some q86 →
        ((((((decide (q86.Task < 0)) || (decide (q86.Task ≥ (u0.length : Int)))) || (decide (q86.Asked < 0))) || (decide (q86.End > 10000000))) = true →
          (K (([] : List Int), 3))) ∧
        (((((decide (q86.Task < 0)) || (decide (q86.Task ≥ (u0.length : Int)))) || (decide (q86.Asked < 0))) || (decide (q86.End > 10000000))) = false →
          ((0 ≤ q86.Task ∧ q86.Task < (zg460.length : Int)) ∧
          (∀ qd7_0, zg460[q86.Task.toNat]? = some qd7_0 →
          ((0 ≤ q86.Task ∧ q86.Task < (zg460.length : Int)) ∧
          (inv62 (w64 (x20 + 1)) (zg460.set q86.Task.toNat (max qd7_0 (w64 (q86.End - q86.Asked)))) ∧ mu62 (w64 (x20 + 1)) (zg460.set q86.Task.toNat (max qd7_0 (w64 (q86.End - q86.Asked)))) < mu62 x20 zg460))))))))) ∧
      ((decide (x20 < (u1.length : Int))) = false →
        (K (zg460, 0)))))))))))

def ctin_vc (u0 : Int) (u1 : Int) (u2 : Int) (K : Bool → Prop) : Prop :=
  (K ((decide (u0 ≥ u1)) && (decide (u0 ≤ u2))))
def ctin (u0 : Int) (u1 : Int) (u2 : Int) : Bool :=
  (decide (u0 ≥ u1)) && (decide (u0 ≤ u2))
theorem ctin_ok (u0 : Int) (u1 : Int) (u2 : Int) : ctin_vc u0 u1 u2 (fun r => r = ctin u0 u1 u2) := (by rfl)

def ieq_vc (u0 : List Int) (u1 : List Int) (K : Bool → Prop) : Prop :=
  (u0.length ≤ 140737488355328 →
    (u1.length ≤ 140737488355328 →
    ((((u0.length : Int) != (u1.length : Int)) = true →
      (K false)) ∧
    (((u0.length : Int) != (u1.length : Int)) = false →
      (∃ inv37 : Int → Prop, ∃ mu37 : Int → Nat, inv37 0 ∧
      (∀ (x13 : Int), inv37 x13 →
      (((decide (x13 < (u0.length : Int))) = true →
        ((0 ≤ x13 ∧ x13 < (u0.length : Int)) ∧
        (∀ q74, u0[x13.toNat]? = some q74 →
        ((0 ≤ x13 ∧ x13 < (u1.length : Int)) ∧
        (∀ q96, u1[x13.toNat]? = some q96 →
        (((q74 != q96) = true →
          (K false)) ∧
        ((q74 != q96) = false →
          (inv37 (w64 (x13 + 1)) ∧ mu37 (w64 (x13 + 1)) < mu37 x13)))))))) ∧
      ((decide (x13 < (u0.length : Int))) = false →
        (K true)))))))))

def sleq_vc (u0 : List Slot) (u1 : List Slot) (K : Bool → Prop) : Prop :=
  (u0.length ≤ 140737488355328 →
    (u1.length ≤ 140737488355328 →
    ((((u0.length : Int) != (u1.length : Int)) = true →
      (K false)) ∧
    (((u0.length : Int) != (u1.length : Int)) = false →
      (∃ inv37 : Int → Prop, ∃ mu37 : Int → Nat, inv37 0 ∧
      (∀ (x13 : Int), inv37 x13 →
      (((decide (x13 < (u0.length : Int))) = true →
        ((0 ≤ x13 ∧ x13 < (u0.length : Int)) ∧
        (∀ q74, u0[x13.toNat]? = some q74 →
        ((0 ≤ x13 ∧ x13 < (u1.length : Int)) ∧
        (∀ q96, u1[x13.toNat]? = some q96 →
        (((!((q74.Task == q96.Task) && ((q74.Asked == q96.Asked) && ((q74.From == q96.From) && ((q74.End == q96.End) && true))))) = true →
          (K false)) ∧
        ((!((q74.Task == q96.Task) && ((q74.Asked == q96.Asked) && ((q74.From == q96.From) && ((q74.End == q96.End) && true))))) = false →
          (inv37 (w64 (x13 + 1)) ∧ mu37 (w64 (x13 + 1)) < mu37 x13)))))))) ∧
      ((decide (x13 < (u0.length : Int))) = false →
        (K true)))))))))

/-! Pure proofs: no program in sight. -/
def sbad (n : Int) (x : Slot) : Bool := (((decide (x.Task < 0)) || (decide (x.Task ≥ n))) || (decide (x.Asked < 0))) || (decide (x.End > 10000000))
def waitF (n : Int) : List Slot → List Int → Option (List Int)
  | [], out => some out
  | x :: r, out => if sbad n x = true then none else waitF n r (out.set x.Task.toNat (max (out[x.Task.toNat]?.getD 0) (w64 (x.End - x.Asked))))
def swaitsS (l : List Task) (s : List Slot) : List Int × Int := if dcheckS l ≠ 0 then ([], dcheckS l) else match waitF (l.length : Int) s (List.replicate l.length 0) with
  | none => ([], 3)
  | some o => (o, 0)
theorem sbad_false {n : Int} {x : Slot} (h : sbad n x = false) : 0 ≤ x.Task ∧ x.Task < n ∧ 0 ≤ x.Asked ∧ x.End ≤ 10000000 := by
  unfold sbad at h
  simp only [Bool.or_eq_false_iff, decide_eq_false_iff_not] at h
  omega
theorem swaits_ok (l : List Task) (s : List Slot) (h : l.length * 8 ≤ 140737488355328) : swaits_vc l s (fun r => r = swaitsS l s) := by
  intro _ _
  refine ⟨fun h1 => ?_, fun h1 => ?_⟩
  · unfold swaitsS
    rw [if_pos (by simpa using h1)]
  · have h1 : dcheckS l = 0 := by simpa using h1
    refine ⟨by omega, ?_⟩
    rw [Int.toNat_natCast]
    have hS : swaitsS l s = match waitF (l.length : Int) s (List.replicate l.length 0) with
      | none => ([], 3)
      | some o => (o, 0) := by
      unfold swaitsS
      rw [if_neg (fun h => h h1)]
    rw [hS]
    generalize hR : waitF (l.length : Int) s (List.replicate l.length 0) = R
    refine ⟨fun i z => ∃ k : Nat, i = k ∧ k ≤ s.length ∧ z.length = l.length ∧ waitF (l.length : Int) (s.drop k) z = R, fun i _ => s.length - i.toNat, ⟨0, rfl, by omega, by simp, hR⟩, ?_⟩
    rintro _ z ⟨k, rfl, hk, hz, hw⟩
    refine ⟨fun h2 => ?_, fun h2 => ?_⟩
    · have hks : k < s.length := by have := of_decide_eq_true h2; omega
      refine ⟨by omega, fun q hq => ?_⟩
      rw [Int.toNat_natCast] at hq
      rw [drop_this s k q hq, waitF] at hw
      refine ⟨fun h3 => ?_, fun h3 => ?_⟩
      · have h3 : sbad (l.length : Int) q = true := h3
        rw [if_pos h3] at hw
        rw [← hw]
      · have h3 : sbad (l.length : Int) q = false := h3
        obtain ⟨b1, b2, b3, b4⟩ := sbad_false h3
        rw [if_neg (by rw [h3]; simp)] at hw
        refine ⟨by omega, fun v hv => ⟨by omega, ?_, ?_⟩⟩
        · rw [hv, Option.getD_some] at hw
          rw [w64_succ k (by omega)]
          exact ⟨k + 1, rfl, by omega, by rw [List.length_set]; exact hz, hw⟩
        · rw [w64_succ k (by omega)]
          (try dsimp only)
          omega
    · have hks : k = s.length := by have := of_decide_eq_false h2; omega
      subst hks
      rw [List.drop_eq_nil_of_le (Nat.le_refl _), waitF] at hw
      rw [← hw]
theorem eq_loop {α : Type} [DecidableEq α] (a b : List α) (hl : a.length = b.length) : (a = b) ↔ ∀ (k : Nat) (x y : α), a[k]? = some x → b[k]? = some y → x = y := by
  constructor
  · rintro rfl k x y hx hy
    rw [hx] at hy
    exact Option.some.inj hy
  · intro h
    apply List.ext_getElem?
    intro k
    rcases Nat.lt_or_ge k a.length with hk | hk
    · have h1 := List.getElem?_eq_getElem hk
      have h2 := List.getElem?_eq_getElem (l := b) (show k < b.length by omega)
      rw [h1, h2, h k _ _ h1 h2]
    · rw [List.getElem?_eq_none hk, List.getElem?_eq_none (by omega)]
def ieqS (a b : List Int) : Bool := decide (a = b)
theorem ieq_ok (a b : List Int) : ieq_vc a b (fun r => r = ieqS a b) := by
  intro ha hb
  refine ⟨fun h => ?_, fun h => ?_⟩
  · have h : ¬ (a.length : Int) = (b.length : Int) := by simpa using h
    unfold ieqS
    rw [decide_eq_false]
    intro e
    rw [e] at h
    exact h rfl
  · have h : a.length = b.length := by
      have h : (a.length : Int) = (b.length : Int) := by simpa only [bne_eq_false_iff_eq] using h
      omega
    refine ⟨fun i => ∃ k : Nat, i = k ∧ k ≤ a.length ∧ ∀ (j : Nat) (x y : Int), j < k → a[j]? = some x → b[j]? = some y → x = y, fun i => a.length - i.toNat, ⟨0, rfl, by omega, fun j _ _ hj => absurd hj (Nat.not_lt_zero _)⟩, ?_⟩
    rintro _ ⟨k, rfl, hk, hj⟩
    refine ⟨fun h1 => ?_, fun h1 => ?_⟩
    · have hk : k < a.length := by have := of_decide_eq_true h1; omega
      rw [w64_succ k (by omega)]
      refine ⟨by omega, fun q hq => ⟨by omega, fun p hp => ⟨fun h2 => ?_, fun h2 => ?_⟩⟩⟩
      · unfold ieqS
        rw [decide_eq_false]
        rintro rfl
        rw [hq] at hp
        cases hp
        simp at h2
      · have h2 : q = p := by simpa using h2
        rw [Int.toNat_natCast] at hq hp
        refine ⟨⟨k + 1, rfl, by omega, fun j x y hj1 hx hy => ?_⟩, by (try dsimp only); omega⟩
        rcases Nat.lt_or_ge j k with hc | hc
        · exact hj j x y hc hx hy
        · have : j = k := by omega
          subst this
          rw [hq] at hx
          rw [hp] at hy
          cases hx; cases hy; exact h2
    · have : k = a.length := by have := of_decide_eq_false h1; omega
      subst this
      unfold ieqS
      rw [decide_eq_true]
      exact (eq_loop a b h).2 fun k x y hx hy => hj k x y (List.getElem?_eq_some_iff.1 hx).1 hx hy
def sleqS (a b : List Slot) : Bool := decide (a = b)
theorem slot_eq (q p : Slot) : ((q.Task == p.Task) && ((q.Asked == p.Asked) && ((q.From == p.From) && ((q.End == p.End) && true)))) = decide (q = p) := by
  obtain ⟨a1, a2, a3, a4⟩ := q
  obtain ⟨b1, b2, b3, b4⟩ := p
  rw [Bool.eq_iff_iff]
  simp
theorem sleq_ok (a b : List Slot) : sleq_vc a b (fun r => r = sleqS a b) := by
  intro ha hb
  refine ⟨fun h => ?_, fun h => ?_⟩
  · have h : ¬ (a.length : Int) = (b.length : Int) := by simpa using h
    unfold sleqS
    rw [decide_eq_false]
    intro e
    rw [e] at h
    exact h rfl
  · have h : a.length = b.length := by
      have h : (a.length : Int) = (b.length : Int) := by simpa only [bne_eq_false_iff_eq] using h
      omega
    refine ⟨fun i => ∃ k : Nat, i = k ∧ k ≤ a.length ∧ ∀ (j : Nat) (x y : Slot), j < k → a[j]? = some x → b[j]? = some y → x = y, fun i => a.length - i.toNat, ⟨0, rfl, by omega, fun j _ _ hj => absurd hj (Nat.not_lt_zero _)⟩, ?_⟩
    rintro _ ⟨k, rfl, hk, hj⟩
    refine ⟨fun h1 => ?_, fun h1 => ?_⟩
    · have hk : k < a.length := by have := of_decide_eq_true h1; omega
      rw [w64_succ k (by omega)]
      refine ⟨by omega, fun q hq => ⟨by omega, fun p hp => ?_⟩⟩
      rw [slot_eq]
      refine ⟨fun h2 => ?_, fun h2 => ?_⟩
      · unfold sleqS
        rw [decide_eq_false]
        rintro rfl
        rw [hq] at hp
        cases hp
        simp at h2
      · have h2 : q = p := by simpa using h2
        rw [Int.toNat_natCast] at hq hp
        refine ⟨⟨k + 1, rfl, by omega, fun j x y hj1 hx hy => ?_⟩, by (try dsimp only); omega⟩
        rcases Nat.lt_or_ge j k with hc | hc
        · exact hj j x y hc hx hy
        · have : j = k := by omega
          subst this
          rw [hq] at hx
          rw [hp] at hy
          cases hx; cases hy; exact h2
    · have : k = a.length := by have := of_decide_eq_false h1; omega
      subst this
      unfold sleqS
      rw [decide_eq_true]
      exact (eq_loop a b h).2 fun k x y hx hy => hj k x y (List.getElem?_eq_some_iff.1 hx).1 hx hy

end Go.Proofs.Ytginlmgkimfjmaa
