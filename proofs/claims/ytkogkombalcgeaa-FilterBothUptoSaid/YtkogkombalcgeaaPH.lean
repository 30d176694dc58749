/- Pure proofs: no program in sight. -/
import Derived.Test.YtkogkombalcgeaaVH
set_option linter.unusedVariables false
set_option linter.unusedSimpArgs false
namespace Go.Proofs.Ytkogkombalcgeaa
open Go.Sy Go.RowKit
theorem fidx_append (p : Filter → Bool) (m : List Filter) : ∀ (l : List Filter) (i : Nat), fidx p i (l ++ m) = fidx p i l ++ fidx p (i + l.length) m
  | [], i => by simp [fidx]
  | x :: l, i => by
    simp only [List.cons_append, fidx, fidx_append p m l (i + 1), List.length_cons]
    rw [show i + 1 + l.length = i + (l.length + 1) by omega]
    split <;> simp
theorem fidx_shift (p : Filter → Bool) (j : Nat) : ∀ (m : List Filter) (i : Nat), fidx p (j + i) m = (fidx p i m).map fun q => (j : Int) + q
  | [], i => rfl
  | x :: m, i => by
    unfold fidx
    rw [show j + i + 1 = j + (i + 1) by omega, fidx_shift p j m (i + 1)]
    split
    · simp
    · rfl
theorem fidx_range (p : Filter → Bool) : ∀ (m : List Filter) (i : Nat), ∀ q ∈ fidx p i m, 0 ≤ q ∧ q < (i : Int) + m.length
  | [], i => by simp [fidx]
  | x :: m, i => by
    intro q hq
    have ih := fidx_range p m (i + 1)
    unfold fidx at hq
    simp only [List.length_cons]
    split at hq
    · rcases List.mem_cons.1 hq with rfl | hq
      · omega
      · have := ih q hq; omega
    · have := ih q hq; omega
theorem fin_zero (l : List Filter) (f : Frame) (h : (finS l f).2 = 0) : fcheckS l = 0 ∧ fcheckfr f = 0 := by
  unfold finS at h
  by_cases h1 : fcheckS l = 0
  · rw [if_neg (by rw [h1]; exact fun h => h rfl)] at h
    by_cases h2 : fcheckfr f = 0
    · exact ⟨h1, h2⟩
    · rw [if_pos h2] at h
      exact absurd h h2
  · rw [if_pos h1] at h
    exact absurd h h1
theorem countP_le_of {p q : Nat → Bool} (l : List Nat) (h : ∀ x ∈ l, p x = true → q x = true) : l.countP p ≤ l.countP q := List.countP_mono_left h
theorem LBoth_ok (u0 u1 : List Filter) (u2 : Frame) (k0 : (∀ y0 ∈ u0, okFilter y0) ∧ u0.length * 24 ≤ lim) (k1 : (∀ y0 ∈ u1, okFilter y0) ∧ u1.length * 24 ≤ lim) (k2 : okFrame u2) (b0 : u0.length ≤ 1048576) (b1 : u1.length ≤ 1048576) : LBoth_vc u0 u1 u2 (fun r => r = true) := by
  intro _ _ _ _ _
  have hpre : (∀ l ∈ ([u0, u1] : List (List Filter)), l.length ≤ 1048576) ∧ ([u0, u1] : List (List Filter)).length ≤ 2 := by
    refine ⟨fun l hl => ?_, by simp⟩
    simp only [List.mem_cons, List.not_mem_nil, or_false] at hl
    rcases hl with rfl | rfl <;> assumption
  have hc : fconcatS [u0, u1] = u0 ++ u1 := by simp [fconcatS]
  rw [hc]
  refine ⟨hpre, fun _ => rfl, fun h => ?_⟩
  simp only [Bool.or_eq_false_iff, bne_eq_false_iff_eq] at h
  obtain ⟨⟨h1, h2⟩, h3⟩ := h
  obtain ⟨z0, zf⟩ := fin_zero _ _ h1
  obtain ⟨z1, _⟩ := fin_zero _ _ h2
  obtain ⟨z2, _⟩ := fin_zero _ _ h3
  have l0 := fcheckS_len u0 z0
  have l1 := fcheckS_len u1 z1
  have e0 : finS u0 u2 = (fidx (fun x => lets1 x u2) 0 u0, 0) := by rw [finS_of _ z0, if_pos zf]
  have e1 : finS u1 u2 = (fidx (fun x => lets1 x u2) 0 u1, 0) := by rw [finS_of _ z1, if_pos zf]
  have e2 : finS (u0 ++ u1) u2 = (fidx (fun x => lets1 x u2) 0 (u0 ++ u1), 0) := by rw [finS_of _ z2, if_pos zf]
  simp only [e0, e1, e2]
  have f0 := fidx_len (fun x => lets1 x u2) u0 0
  have f1 := fidx_len (fun x => lets1 x u2) u1 0
  refine rg1b (by omega) (fun k (x : List Int) => x = fidx (fun x => lets1 x u2) 0 u0 ++ ((fidx (fun x => lets1 x u2) 0 u1).take k).map fun q => (u0.length : Int) + q) (by simp) ?_ ?_
  · rintro k _ q hk hq rfl inv mu hn
    have hr := fidx_range _ u1 0 q (List.mem_of_getElem? hq)
    have ew : w64 ((u0.length : Int) + q) = (u0.length : Int) + q := w64_eq _ (by omega)
    rw [ew]
    refine ⟨?_, hn _ ?_⟩
    · simp only [List.length_append, List.length_map, List.length_take]
      omega
    · rw [take_next _ k q hq, List.map_append, List.append_assoc]
      rfl
  · rintro _ rfl
    rw [List.take_length, ← fidx_shift, Nat.add_zero]
    have ea : fidx (fun x => lets1 x u2) 0 u0 ++ fidx (fun x => lets1 x u2) u0.length u1 = fidx (fun x => lets1 x u2) 0 (u0 ++ u1) := by rw [fidx_append, Nat.zero_add]
    rw [ea]
    refine ⟨hpre, ?_⟩
    rw [fCountS_of _ z2, fCountS_of _ z0]
    have hle : (List.range ((ftop u2.Long).toNat + 1)).countP (fun id => u0.any fun f => (f.Long == u2.Long) && fmatch f id) ≤ (List.range ((ftop u2.Long).toNat + 1)).countP (fun id => (u0 ++ u1).any fun f => (f.Long == u2.Long) && fmatch f id) :=
      countP_le_of _ fun id _ h => by rw [List.any_append, h]; rfl
    simp only [sequalS, decide_true, beq_self_eq_true, Bool.true_and, decide_eq_true_eq]
    omega

end Go.Proofs.Ytkogkombalcgeaa
