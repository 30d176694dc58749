/- What must hold so that each function ends well: pure predicates, made by program. -/
import Derived.Test.YtdndfbamhnchfaaDoorPQ
set_option linter.unusedVariables false
set_option linter.unusedSimpArgs false
namespace Go.Proofs.YtdndfbamhnchfaaDoor
open Go.Sy Go.RowKit
def rcheck_vc (u0 : Signal) (u1 : Int) (K : Int → Prop) : Prop :=
  (((!(nameS u0.Name)) = true →
      (K 1)) ∧
    ((!(nameS u0.Name)) = false →
      (((((((((!(rin u1 0 64)) || (!(rin u0.Size 1 40))) || (u0.Mul == 0)) || (!(rin u0.Mul (-1000000) 1000000))) || (!(rin u0.Div 1 1000000))) || (!(rin u0.Add (-1000000) 1000000))) || (!(rin u0.Key (-1) 255))) = true →
        (K 3)) ∧
      ((((((((!(rin u1 0 64)) || (!(rin u0.Size 1 40))) || (u0.Mul == 0)) || (!(rin u0.Mul (-1000000) 1000000))) || (!(rin u0.Div 1 1000000))) || (!(rin u0.Add (-1000000) 1000000))) || (!(rin u0.Key (-1) 255))) = false →
        (((!(rin u0.Start 0 (w64 ((w64 (8 * u1)) - 1)))) = true →
          (K 7)) ∧
        ((!(rin u0.Start 0 (w64 ((w64 (8 * u1)) - 1)))) = false →
          (((0 ≤ u0.Start ∧ u0.Start ≤ 512) ∧ 1 ≤ u0.Size ∧ u0.Size ≤ 40) ∧
          ((placesS u0).length ≤ 140737488355328 →
          (∃ inv189 : Int → Prop, ∃ mu189 : Int → Nat, inv189 0 ∧
          (∀ (x67 : Int), inv189 x67 →
          (((decide (x67 < ((placesS u0).length : Int))) = true →
            ((0 ≤ x67 ∧ x67 < ((placesS u0).length : Int)) ∧
            (∀ q218, (placesS u0)[x67.toNat]? = some q218 →
            (((decide (q218 ≥ (w64 (8 * u1)))) = true →
              (K 7)) ∧
            ((decide (q218 ≥ (w64 (8 * u1)))) = false →
              (inv189 (w64 (x67 + 1)) ∧ mu189 (w64 (x67 + 1)) < mu189 x67)))))) ∧
          ((decide (x67 < ((placesS u0).length : Int))) = false →
            (K 0)))))))))))))

def splc_vc (u0 : Signal) (u1 : Int) (K : ((List Int) × Int) → Prop) : Prop :=
  ((((checkS u0 u1) != 0) = true →
      (K (([] : List Int), (checkS u0 u1)))) ∧
    (((checkS u0 u1) != 0) = false →
      (((0 ≤ u0.Start ∧ u0.Start ≤ 512) ∧ 1 ≤ u0.Size ∧ u0.Size ≤ 40) ∧
      ((placesS u0).length ≤ 140737488355328 →
      (K ((placesS u0), 0))))))

def rover_vc (u0 : Signal) (u1 : Signal) (K : Bool → Prop) : Prop :=
  (((0 ≤ u1.Start ∧ u1.Start ≤ 512) ∧ 1 ≤ u1.Size ∧ u1.Size ≤ 40) ∧
    ((placesS u1).length ≤ 140737488355328 →
    (((0 ≤ u0.Start ∧ u0.Start ≤ 512) ∧ 1 ≤ u0.Size ∧ u0.Size ≤ 40) ∧
    ((placesS u0).length ≤ 140737488355328 →
    (K (icontfS (placesS u0) (fun x0 => rov1 x0 (placesS u1))))))))

def ieq_vc (u0 : List Int) (u1 : List Int) (K : Bool → Prop) : Prop :=
  (u0.length ≤ 140737488355328 →
    (u1.length ≤ 140737488355328 →
    ((((u0.length : Int) != (u1.length : Int)) = true →
      (K false)) ∧
    (((u0.length : Int) != (u1.length : Int)) = false →
      (∃ inv37 : Int → Prop, ∃ mu37 : Int → Nat, inv37 0 ∧
      (∀ (x13 : Int), inv37 x13 →
      (((decide (x13 < (u0.length : Int))) = true →
        ((0 ≤ x13 ∧ x13 < (u0.length : Int)) ∧
        (∀ q74, u0[x13.toNat]? = some q74 →
        ((0 ≤ x13 ∧ x13 < (u1.length : Int)) ∧
        (∀ q96, u1[x13.toNat]? = some q96 →
        (((q74 != q96) = true →
          (K false)) ∧
        ((q74 != q96) = false →
          (inv37 (w64 (x13 + 1)) ∧ mu37 (w64 (x13 + 1)) < mu37 x13)))))))) ∧
      ((decide (x13 < (u0.length : Int))) = false →
        (K true)))))))))

/-! Pure proofs: no program in sight. -/
def ieqS (a b : List Int) : Bool := decide (a = b)
theorem ieq_ok (a b : List Int) : ieq_vc a b (fun r => r = ieqS a b) := by
  intro ha hb
  refine ⟨fun h => ?_, fun h => ?_⟩
  · have h : ¬ (a.length : Int) = (b.length : Int) := by simpa using h
    unfold ieqS
    rw [decide_eq_false]
    intro e
    rw [e] at h
    exact h rfl
  · have h : a.length = b.length := by
      have h : (a.length : Int) = (b.length : Int) := by simpa only [bne_eq_false_iff_eq] using h
      omega
    refine ⟨fun i => ∃ k : Nat, i = k ∧ k ≤ a.length ∧ ∀ (j : Nat) (x y : Int), j < k → a[j]? = some x → b[j]? = some y → x = y, fun i => a.length - i.toNat, ⟨0, rfl, by omega, fun j _ _ hj => absurd hj (Nat.not_lt_zero _)⟩, ?_⟩
    rintro _ ⟨k, rfl, hk, hj⟩
    refine ⟨fun h1 => ?_, fun h1 => ?_⟩
    · have hk : k < a.length := by have := of_decide_eq_true h1; omega
      rw [w64_succ k (by omega)]
      refine ⟨by omega, fun q hq => ⟨by omega, fun p hp => ⟨fun h2 => ?_, fun h2 => ?_⟩⟩⟩
      · unfold ieqS
        rw [decide_eq_false]
        rintro rfl
        rw [hq] at hp
        cases hp
        simp at h2
      · have h2 : q = p := by simpa using h2
        rw [Int.toNat_natCast] at hq hp
        refine ⟨⟨k + 1, rfl, by omega, fun j x y hj1 hx hy => ?_⟩, by (try dsimp only); omega⟩
        rcases Nat.lt_or_ge j k with hc | hc
        · exact hj j x y hc hx hy
        · have : j = k := by omega
          subst this
          rw [hq] at hx
          rw [hp] at hy
          cases hx; cases hy; exact h2
    · have : k = a.length := by have := of_decide_eq_false h1; omega
      subst this
      unfold ieqS
      rw [decide_eq_true]
      exact list_eq_at h fun k x y hx hy => hj k x y (List.getElem?_eq_some_iff.1 hx).1 hx hy
theorem rin_eq (x a b : Int) : rin x a b = decide (a ≤ x ∧ x ≤ b) := by
  unfold rin
  rw [Bool.eq_iff_iff, Bool.and_eq_true, decide_eq_true_eq, decide_eq_true_eq, decide_eq_true_eq]
def splcS (s : Signal) (n : Int) : List Int × Int := if checkS s n ≠ 0 then ([], checkS s n) else (placesS s, 0)
theorem splc_ok (s : Signal) (n : Int) : splc_vc s n (fun r => r = splcS s n) := by
  refine ⟨fun h => ?_, fun h => ?_⟩
  · unfold splcS; rw [if_pos (by simpa using h)]
  · have h0 : checkS s n = 0 := by simpa using h
    obtain ⟨h1, h2, h3, _⟩ := check_zero h0
    refine ⟨⟨⟨h3.1, by omega⟩, h1.2.2⟩, fun _ => ?_⟩
    unfold splcS
    rw [if_neg (by rw [h0]; decide)]

theorem rcheck_ok (s : Signal) (n : Int) : rcheck_vc s n (fun r => r = checkS s n) := by
  unfold rcheck_vc
  simp only [rin_eq]
  unfold checkS
  refine ⟨fun h => ?_, fun h => ?_⟩
  · rw [if_pos (by simpa using h)]
  rw [if_neg (by simpa using h)]
  refine ⟨fun h1 => ?_, fun h1 => ?_⟩
  · simp only [Bool.or_eq_true, Bool.not_eq_true', decide_eq_false_iff_not, beq_iff_eq] at h1
    by_cases c1 : n < 0 ∨ 64 < n ∨ s.Size < 1 ∨ 40 < s.Size
    · rw [if_pos c1]
    · rw [if_neg c1]
      by_cases c2 : ¬ factS s
      · rw [if_pos c2]
      · rw [if_neg c2]
        have c2 : factS s := Classical.not_not.1 c2
        unfold factS at c2
        rw [if_pos (by omega)]
  · simp only [Bool.or_eq_false_iff, Bool.not_eq_false', decide_eq_true_eq, beq_eq_false_iff_ne] at h1
    have c1 : ¬ (n < 0 ∨ 64 < n ∨ s.Size < 1 ∨ 40 < s.Size) := by omega
    have c2 : factS s := by unfold factS; omega
    rw [if_neg c1, if_neg (fun hh => hh c2), if_neg (by omega), w64_eq (8 * n) (by omega), w64_eq (8 * n - 1) (by omega)]
    refine ⟨fun h2 => ?_, fun h2 => ?_⟩
    · simp only [Bool.not_eq_true', decide_eq_false_iff_not] at h2
      rw [if_pos (by omega)]
    · simp only [Bool.not_eq_false', decide_eq_true_eq] at h2
      rw [if_neg (by omega)]
      have hpl := plS_len s
      have hl := places_len s
      refine ⟨by omega, fun _ => ⟨fun i => ∃ k : Nat, i = k ∧ k ≤ (plS s).length ∧ ((plS s).take k).any (fun p => decide (8 * n ≤ (p : Int))) = false, fun i => (plS s).length - i.toNat, ⟨0, rfl, by omega, rfl⟩, ?_⟩⟩
      rintro _ ⟨k, rfl, hk, ha⟩
      refine ⟨fun h3 => ?_, fun h3 => ?_⟩
      · have h3 := of_decide_eq_true h3
        refine ⟨by omega, fun q hq => ?_⟩
        rw [Int.toNat_natCast] at hq
        obtain ⟨p, hp, rfl, hm⟩ := place_at hq
        refine ⟨fun h4 => ?_, fun h4 => ?_⟩
        · have h4 : decide (8 * n ≤ (p : Int)) = true := h4
          rw [if_pos (List.any_eq_true.2 ⟨p, hm, h4⟩)]
        · have h4 : decide (8 * n ≤ (p : Int)) = false := h4
          rw [w64_succ k (by omega)]
          refine ⟨⟨k + 1, rfl, by omega, ?_⟩, by (try dsimp only); omega⟩
          rw [List.take_add_one, hp, List.any_append, ha]
          simp only [Option.toList_some, List.any_cons, List.any_nil, Bool.or_false, Bool.false_or]
          exact h4
      · have h3 := of_decide_eq_false h3
        have : k = (plS s).length := by omega
        subst this
        rw [List.take_length] at ha
        rw [if_neg (by rw [ha]; decide)]
def roverS (s t : Signal) : Bool := icontfS (placesS s) (fun x0 => rov1 x0 (placesS t))
theorem rover_ok (s t : Signal) (h : ((0 ≤ s.Start ∧ s.Start ≤ 512) ∧ 1 ≤ s.Size ∧ s.Size ≤ 40) ∧ (0 ≤ t.Start ∧ t.Start ≤ 512) ∧ 1 ≤ t.Size ∧ t.Size ≤ 40) : rover_vc s t (fun r => r = roverS s t) :=
  ⟨h.2, fun _ => ⟨h.1, fun _ => rfl⟩⟩
theorem over_eq {s t : Signal} (h1 : checkS s 64 = 0) (h2 : checkS t 64 = 0) : overS s t = roverS s t := by
  rw [Bool.eq_iff_iff, over_common h1 h2]
  unfold roverS icontfS Common rov1 scontainsS
  rw [List.any_eq_true]
  constructor
  · rintro ⟨p, hp, hq⟩
    exact ⟨p, hp, by rw [List.any_eq_true]; exact ⟨p, hq, by simp⟩⟩
  · rintro ⟨p, hp, hq⟩
    obtain ⟨q, hq, e⟩ := List.any_eq_true.1 hq
    have e : p = q := by simpa using e
    subst e
    exact ⟨p, hp, hq⟩

end Go.Proofs.YtdndfbamhnchfaaDoor
