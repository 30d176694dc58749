/- What must hold so that each function ends well: pure predicates, made by program. -/
import Derived.Test.YtdndfbamhnchfaaDoorPZ
set_option linter.unusedVariables false
set_option linter.unusedSimpArgs false
namespace Go.Proofs.YtdndfbamhnchfaaDoor
open Go.Sy Go.RowKit
def splaces_vc (u0 : Signal) (K : (List Int) → Prop) : Prop :=
  (∃ inv27 : (List Int) → Int → Int → Prop, ∃ mu27 : (List Int) → Int → Int → Nat, inv27 ([] : List Int) u0.Start 0 ∧
    (∀ (x3 : List Int) (x4 : Int) (x9 : Int), inv27 x3 x4 x9 →
    (((decide (x9 < u0.Size)) = true →
      (((x3.length + 1) * 8 ≤ 140737488355328) ∧
      (((!u0.Back) = true →
        (inv27 (x3 ++ [x4]) (w64 (x4 + 1)) (w64 (x9 + 1)) ∧ mu27 (x3 ++ [x4]) (w64 (x4 + 1)) (w64 (x9 + 1)) < mu27 x3 x4 x9)) ∧
      ((!u0.Back) = false →
        ((((x4.tmod 8) == 0) = true →
          (inv27 (x3 ++ [x4]) (w64 (x4 + 15)) (w64 (x9 + 1)) ∧ mu27 (x3 ++ [x4]) (w64 (x4 + 15)) (w64 (x9 + 1)) < mu27 x3 x4 x9)) ∧
        (((x4.tmod 8) == 0) = false →
          (inv27 (x3 ++ [x4]) (w64 (x4 - 1)) (w64 (x9 + 1)) ∧ mu27 (x3 ++ [x4]) (w64 (x4 - 1)) (w64 (x9 + 1)) < mu27 x3 x4 x9))))))) ∧
    ((decide (x9 < u0.Size)) = false →
      ((u0.Back = true →
        ((irevS x3).length ≤ 140737488355328 →
        (K (irevS x3)))) ∧
      (u0.Back = false →
        (K x3)))))))

def smean_vc (u0 : Signal) (u1 : Int) (K : Reading → Prop) : Prop :=
  (((-4611686018427387904 ≤ (w64 ((w64 (u1 * u0.Mul)) + (w64 (u0.Add * u0.Div)))) ∧ (w64 ((w64 (u1 * u0.Mul)) + (w64 (u0.Add * u0.Div)))) ≤ 4611686018427387904) ∧ -4611686018427387904 ≤ u0.Div ∧ u0.Div ≤ 4611686018427387904) ∧
    (((ngcd (w64 ((w64 (u1 * u0.Mul)) + (w64 (u0.Add * u0.Div)))) u0.Div) ≠ 0) ∧
    (((ngcd (w64 ((w64 (u1 * u0.Mul)) + (w64 (u0.Add * u0.Div)))) u0.Div) ≠ 0) ∧
    (K (⟨u0.Name, w64 ((w64 ((w64 (u1 * u0.Mul)) + (w64 (u0.Add * u0.Div)))).tdiv (ngcd (w64 ((w64 (u1 * u0.Mul)) + (w64 (u0.Add * u0.Div)))) u0.Div)), w64 (u0.Div.tdiv (ngcd (w64 ((w64 (u1 * u0.Mul)) + (w64 (u0.Add * u0.Div)))) u0.Div))⟩ : Reading)))))

/-! Pure proofs: no program in sight. -/
theorem splaces_ok (s : Signal) (h : (0 ≤ s.Start ∧ s.Start ≤ 512) ∧ 1 ≤ s.Size ∧ s.Size ≤ 40) : splaces_vc s (fun r => r = placesS s) := by
  obtain ⟨⟨h1, h2⟩, h3, h4⟩ := h
  obtain ⟨st, hst⟩ : ∃ st : Nat, s.Start = st := ⟨s.Start.toNat, by omega⟩
  obtain ⟨n, hn⟩ : ∃ n : Nat, s.Size = n := ⟨s.Size.toNat, by omega⟩
  rw [hst] at h1 h2
  rw [hn] at h3 h4
  have hP : placesS s = (plN s.Back st n).map (fun (k : Nat) => (k : Int)) := by unfold placesS plS; rw [hst, hn, Int.toNat_natCast, Int.toNat_natCast]
  rw [hP]
  refine ⟨fun x a i => ∃ k : Nat, i = k ∧ k ≤ n ∧ x = (List.range k).map (fun j => (fp s.Back st j : Int)) ∧ a = (fp s.Back st k : Int), fun _ _ i => n - i.toNat, ⟨0, rfl, by omega, rfl, by rw [fp_zero, hst]⟩, ?_⟩
  rintro _ _ _ ⟨k, rfl, hk, rfl, rfl⟩
  have hb := fp_le s.Back st k
  have happ : (List.range k).map (fun j => (fp s.Back st j : Int)) ++ [(fp s.Back st k : Int)] = (List.range (k + 1)).map (fun j => (fp s.Back st j : Int)) := by rw [List.range_succ, List.map_append]; rfl
  refine ⟨fun hc => ?_, fun hc => ?_⟩
  · have hc := of_decide_eq_true hc
    rw [hn] at hc
    rw [happ, w64_succ k (by omega)]
    refine ⟨by rw [List.length_map, List.length_range]; omega, fun hB => ?_, fun hB => ?_⟩
    · have hB : s.Back = false := by simpa using hB
      refine ⟨⟨k + 1, rfl, by omega, rfl, ?_⟩, by (try dsimp only); omega⟩
      rw [w64_succ _ (by omega), hB, fp_up]
    · have hB : s.Back = true := by simpa using hB
      have hm : (((fp s.Back st k : Nat) : Int).tmod 8 == 0) = decide (fp s.Back st k % 8 = 0) := by
        rw [Int.tmod_eq_emod_of_nonneg (by omega), Bool.eq_iff_iff, beq_iff_eq, decide_eq_true_eq]
        omega
      rw [hm]
      refine ⟨fun h5 => ?_, fun h5 => ?_⟩
      · have h5 := of_decide_eq_true h5
        refine ⟨⟨k + 1, rfl, by omega, rfl, ?_⟩, by (try dsimp only); omega⟩
        rw [w64_eq _ (by omega)]
        rw [hB] at h5 ⊢
        rw [fp_back, if_pos h5]
        omega
      · have h5 := of_decide_eq_false h5
        refine ⟨⟨k + 1, rfl, by omega, rfl, ?_⟩, by (try dsimp only); omega⟩
        rw [w64_eq _ (by omega)]
        rw [hB] at h5 ⊢
        rw [fp_back, if_neg h5]
        omega
  · have hc := of_decide_eq_false hc
    rw [hn] at hc
    have : k = n := by omega
    subst this
    refine ⟨fun hB => ?_, fun hB => ?_⟩
    · intro _
      unfold irevS plN
      rw [if_pos hB, List.map_reverse, List.map_map]
      rfl
    · unfold plN
      rw [if_neg (by rw [hB]; decide), List.map_map]
      rfl
theorem mean_bound {s : Signal} {n : Int} (h : factS s ∧ -1099511627776 ≤ n ∧ n ≤ 1099511627776) : (-(1099511627776 * 1000000) ≤ n * s.Mul ∧ n * s.Mul ≤ 1099511627776 * 1000000) ∧ -(1000000 * 1000000) ≤ s.Add * s.Div ∧ s.Add * s.Div ≤ 1000000 * 1000000 := by
  obtain ⟨⟨h1, h2, h3, h4, h5, h6, h7⟩, h8⟩ := h
  exact ⟨mul_abs h8 ⟨h2, h3⟩, mul_abs ⟨h6, h7⟩ ⟨by omega, h5⟩⟩
theorem smean_ok (s : Signal) (n : Int) (h : factS s ∧ -1099511627776 ≤ n ∧ n ≤ 1099511627776) : smean_vc s n (fun r => r = meanS s n) := by
  obtain ⟨hb1, hb2⟩ := mean_bound h
  obtain ⟨⟨h1, h2, h3, h4, h5, h6, h7⟩, h8⟩ := h
  unfold smean_vc meanS
  rw [w64_eq (n * s.Mul) (by omega), w64_eq (s.Add * s.Div) (by omega), w64_eq (n * s.Mul + s.Add * s.Div) (by omega)]
  have hg := ngcd_pos (a := n * s.Mul + s.Add * s.Div) (b := s.Div) (by omega)
  have t1 := tdiv_abs (n * s.Mul + s.Add * s.Div) (ngcd (n * s.Mul + s.Add * s.Div) s.Div)
  have t2 := tdiv_abs s.Div (ngcd (n * s.Mul + s.Add * s.Div) s.Div)
  rw [w64_eq ((n * s.Mul + s.Add * s.Div).tdiv _) (by omega), w64_eq (s.Div.tdiv _) (by omega)]
  exact ⟨by omega, by omega, by omega, rfl⟩

end Go.Proofs.YtdndfbamhnchfaaDoor
