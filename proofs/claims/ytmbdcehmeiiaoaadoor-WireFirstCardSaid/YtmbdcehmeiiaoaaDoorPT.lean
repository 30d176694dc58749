/- What must hold so that each function ends well: pure predicates, made by program. -/
import Derived.Test.YtmbdcehmeiiaoaaDoorPS
set_option linter.unusedVariables false
set_option linter.unusedSimpArgs false
namespace Go.Proofs.YtmbdcehmeiiaoaaDoor
open Go.Sy Go.RowKit
def LFirst_vc (u0 : List Frame) (K : Bool → Prop) : Prop :=
  (u0.length ≤ 140737488355328 →
    (((decide ((u0.length : Int) > 6)) = true →
      (K ((((firstS u0).2) == 2) && (((firstS u0).1) == 0)))) ∧
    ((decide ((u0.length : Int) > 6)) = false →
      (∃ inv82 : (List (List UInt8)) → Int → Prop, ∃ mu82 : (List (List UInt8)) → Int → Nat, inv82 ([] : List (List UInt8)) 0 ∧
      (∀ (x5 : List (List UInt8)) (x36 : Int), inv82 x5 x36 →
      (((decide (x36 < (u0.length : Int))) = true →
        ((0 ≤ x36 ∧ x36 < (u0.length : Int)) ∧
        (∀ q107, u0[x36.toNat]? = some q107 →
        (q107.Data.length ≤ 140737488355328 →
        ((((fcheckfr q107) != 0) = true →
          (K ((((firstS u0).2) == (fcheckfr q107)) && (((firstS u0).1) == 0)))) ∧
        (((fcheckfr q107) != 0) = false →
          ((fcheckfr q107 = 0) ∧
          (((x5.length + 1) * 16 ≤ 140737488355328) ∧
          (inv82 (x5 ++ [(fnameS q107)]) (w64 (x36 + 1)) ∧ mu82 (x5 ++ [(fnameS q107)]) (w64 (x36 + 1)) < mu82 x5 x36))))))))) ∧
      ((decide (x36 < (u0.length : Int))) = false →
        ((((u0.length : Int) == 0) = true →
          (K ((((firstS u0).2) == 8) && (((firstS u0).1) == 0)))) ∧
        (((u0.length : Int) == 0) = false →
          ((0 < x5.length) ∧
          (∃ inv251 : Int → Int → Prop, ∃ mu251 : Int → Int → Nat, inv251 0 0 ∧
          (∀ (x10 : Int) (x70 : Int), inv251 x10 x70 →
          (((decide (x70 < (x5.length : Int))) = true →
            ((0 ≤ x70 ∧ x70 < (x5.length : Int)) ∧
            (∀ q275, x5[x70.toNat]? = some q275 →
            (((q275 == (minR x5)) = true →
              (inv251 (w64 (x10 + 1)) (w64 (x70 + 1)) ∧ mu251 (w64 (x10 + 1)) (w64 (x70 + 1)) < mu251 x10 x70)) ∧
            ((q275 == (minR x5)) = false →
              (inv251 x10 (w64 (x70 + 1)) ∧ mu251 x10 (w64 (x70 + 1)) < mu251 x10 x70)))))) ∧
          ((decide (x70 < (x5.length : Int))) = false →
            (((decide (x10 > 1)) = true →
              (K ((((firstS u0).2) == 9) && (((firstS u0).1) == 0)))) ∧
            ((decide (x10 > 1)) = false →
              (K ((((firstS u0).2) == 0) && (((firstS u0).1) == (ssidxS x5 (minR x5)))))))))))))))))))))

/-! Pure proofs: no program in sight. -/
theorem fName_two (f : Frame) : (fNameS f).2 = fcheckfr f := by
  unfold fNameS
  by_cases e : fcheckfr f = 0
  · rw [if_neg (fun h => h e), e]
  · rw [if_pos e]
theorem frun_bad : ∀ (l : List Frame) (k : Nat) (q : Frame) (i b : Int) (n : List UInt8) (t : Bool), l[k]? = some q → (∀ f ∈ l.take k, fcheckfr f = 0) → fcheckfr q ≠ 0 → frun l i b n t = (0, fcheckfr q) := by
  intro l
  induction l with
  | nil => intro k q i b n t h; simp at h
  | cons f l ih =>
    intro k q i b n t h hz hb
    cases k with
    | zero =>
      cases h
      rw [frun, fName_two, if_pos hb]
    | succ k =>
      have h0 := hz f (by simp)
      have hi : ∀ i b n t, frun l i b n t = (0, fcheckfr q) := fun i b n t => ih k q i b n t h (fun g hg => hz g (by simp [hg])) hb
      rw [frun, fName_two, if_neg (fun hc => hc h0)]
      split
      · exact hi _ _ _ _
      · split
        · exact hi _ _ _ _
        · exact hi _ _ _ _
def namesOf (l : List Frame) : List (List UInt8) := l.map fnameS
theorem ssidx_mem {l : List (List UInt8)} {x : List UInt8} (h : x ∈ l) (r : List (List UInt8)) : ssidxS (l ++ r) x = ssidxS l x ∧ 0 ≤ ssidxS l x := by
  obtain ⟨j, hj⟩ := List.mem_iff_getElem?.1 h
  unfold ssidxS sidx
  rw [List.findIdx?_append]
  cases hf : l.findIdx? (fun q => x == q) with
  | some i => exact ⟨rfl, by show (0 : Int) ≤ (i : Int); omega⟩
  | none =>
    rw [List.findIdx?_eq_none_iff] at hf
    have := hf x h
    simp at this
theorem ssidx_new {l : List (List UInt8)} {x : List UInt8} (h : x ∉ l) : ssidxS (l ++ [x]) x = (l.length : Int) := by
  refine sidx_at _ _ l.length x (by simp) (by simp) fun j y hj hy => ?_
  rw [List.getElem?_append_left hj] at hy
  have := List.mem_of_getElem? hy
  rw [beq_eq_false_iff_ne]
  rintro rfl
  exact h this
/-- What has been found so far. -/
def Sum (p : List Frame) (b : Int) (n : List UInt8) (t : Bool) : Prop := (p = [] ∧ b = -1) ∨ (p ≠ [] ∧ n = minR (namesOf p) ∧ b = ssidxS (namesOf p) n ∧ t = decide (1 < (namesOf p).count n))
theorem namesOf_append (p : List Frame) (f : Frame) : namesOf (p ++ [f]) = namesOf p ++ [fnameS f] := by simp [namesOf]
theorem frun_sum : ∀ (l p : List Frame) (b : Int) (n : List UInt8) (t : Bool), (∀ f ∈ l, fcheckfr f = 0) → Sum p b n t → ∃ b' n' t', Sum (p ++ l) b' n' t' ∧ frun l (p.length : Int) b n t = if b' < 0 then (0, 8) else if t' = true then (0, 9) else (b', 0) := by
  intro l
  induction l with
  | nil => intro p b n t _ h; exact ⟨b, n, t, by rw [List.append_nil]; exact h, rfl⟩
  | cons f l ih =>
    intro p b n t hz hS
    have h0 := hz f (List.mem_cons_self ..)
    have ep : p ++ f :: l = (p ++ [f]) ++ l := by simp
    have el : ((p.length : Int) + 1) = (((p ++ [f]).length : Nat) : Int) := by simp
    have hn1 : (fNameS f).1 = fnameS f := (name_code (by rw [fName_two]; exact h0)).2
    rw [frun, fName_two, if_neg (fun hc => hc h0), ep, el, hn1]
    have hz2 : ∀ g ∈ l, fcheckfr g = 0 := fun g hg => hz g (List.mem_cons_of_mem _ hg)
    have hnl : (namesOf p).length = p.length := by simp [namesOf]
    rcases hS with ⟨rfl, rfl⟩ | ⟨hne, rfl, rfl, rfl⟩
    · rw [if_pos (show (decide ((-1 : Int) < 0) || Op.bytesLess (fnameS f) n) = true from rfl)]
      refine ih _ _ _ _ hz2 (.inr ⟨by simp, rfl, ?_, ?_⟩)
      · have : ssidxS ([] ++ [fnameS f]) (fnameS f) = (([] : List (List UInt8)).length : Int) := ssidx_new (by simp)
        exact this.symm
      · show false = decide (1 < ([fnameS f] : List (List UInt8)).count (fnameS f))
        simp
    · have hne2 : namesOf p ≠ [] := fun h => hne (by simpa [namesOf] using h)
      obtain ⟨hm, hmin⟩ := minR_spec _ hne2
      generalize hmm : minR (namesOf p) = m at *
      obtain ⟨hsi, hs0⟩ := ssidx_mem hm [fnameS f]
      rw [decide_eq_false (by omega : ¬ ssidxS (namesOf p) m < 0), Bool.false_or, bless_lexle]
      by_cases hlt : (!lexle m (fnameS f)) = true
      · rw [if_pos hlt]
        have hlt : lexle m (fnameS f) = false := by simpa using hlt
        have hb := below_of_not hlt
        have hnot : fnameS f ∉ namesOf p := fun h => by
          have := hmin _ h
          rw [hlt] at this
          cases this
        have hmn : minR (namesOf (p ++ [f])) = fnameS f := by
          rw [namesOf_append]
          refine minR_unique (by simp) fun r hr => ?_
          rcases List.mem_append.1 hr with hr | hr
          · exact lexle_trans _ _ _ hb.1 (hmin r hr)
          · rw [List.mem_singleton.1 hr]; exact lexle_refl _
        refine ih _ _ _ _ hz2 (.inr ⟨by simp, hmn.symm, ?_, ?_⟩)
        · rw [namesOf_append, ssidx_new hnot, hnl]
        · rw [namesOf_append, List.count_append, List.count_eq_zero.2 hnot]
          simp
      · rw [if_neg hlt]
        have hle : lexle m (fnameS f) = true := by simpa using hlt
        have hmn : minR (namesOf (p ++ [f])) = m := by
          rw [namesOf_append]
          refine minR_unique (List.mem_append_left _ hm) fun r hr => ?_
          rcases List.mem_append.1 hr with hr | hr
          · exact hmin r hr
          · rw [List.mem_singleton.1 hr]; exact hle
        have hc1 := List.count_pos_iff.2 hm
        by_cases he : (fnameS f == m) = true
        · rw [if_pos he]
          refine ih _ _ _ _ hz2 (.inr ⟨by simp, hmn.symm, by rw [namesOf_append, hsi], ?_⟩)
          rw [namesOf_append, List.count_append, List.count_singleton, he]
          rw [if_pos rfl, decide_eq_true (by omega)]
        · rw [if_neg he]
          refine ih _ _ _ _ hz2 (.inr ⟨by simp, hmn.symm, by rw [namesOf_append, hsi], ?_⟩)
          rw [namesOf_append, List.count_append, List.count_singleton, if_neg he]
          rfl
theorem LFirst_ok (l : List Frame) (k0 : (∀ y0 ∈ l, okFrame y0) ∧ l.length * 48 ≤ lim) : LFirst_vc l (fun r => r = true) := by
  intro hlen
  refine ⟨fun h1 => ?_, fun h1 => ?_⟩
  · have := of_decide_eq_true h1
    unfold firstS
    rw [if_pos (by omega)]
    rfl
  have h1 : ¬ 6 < l.length := by have := of_decide_eq_false h1; omega
  have hS : firstS l = frun l 0 (-1) [] false := by unfold firstS; rw [if_neg h1]
  rw [hS]
  refine ⟨fun x5 x => ∃ k : Nat, x = k ∧ k ≤ l.length ∧ (∀ f ∈ l.take k, fcheckfr f = 0) ∧ x5 = namesOf (l.take k), fun _ x => l.length - x.toNat, ⟨0, rfl, by omega, by simp, rfl⟩, ?_⟩
  rintro _ _ ⟨k, rfl, hk, hz, rfl⟩
  refine ⟨fun h2 => ?_, fun h2 => ?_⟩
  · have hkl : k < l.length := by have := of_decide_eq_true h2; omega
    refine ⟨by omega, fun q hq _ => ?_⟩
    rw [Int.toNat_natCast] at hq
    refine ⟨fun h3 => ?_, fun h3 => ?_⟩
    · have h3 : fcheckfr q ≠ 0 := by simpa using h3
      rw [frun_bad l k q 0 (-1) [] false hq hz h3]
      simp
    · have h3 : fcheckfr q = 0 := by simpa using h3
      rw [w64_succ k (by omega)]
      refine ⟨h3, by simp [namesOf]; omega, ⟨k + 1, rfl, by omega, ?_, ?_⟩, by (try dsimp only); omega⟩
      · intro f hf
        rw [take_next l k q hq] at hf
        rcases List.mem_append.1 hf with hf | hf
        · exact hz f hf
        · rw [List.mem_singleton.1 hf]; exact h3
      · rw [take_next l k q hq, namesOf_append]
  · have hkl : k = l.length := by have := of_decide_eq_false h2; omega
    subst hkl
    rw [List.take_length] at hz ⊢
    obtain ⟨b, n, t, hsum, hr⟩ := frun_sum l [] (-1) [] false hz (.inl ⟨rfl, rfl⟩)
    have hr : frun l 0 (-1) [] false = _ := hr
    rw [List.nil_append] at hsum
    rw [hr]
    refine ⟨fun h3 => ?_, fun h3 => ?_⟩
    · have h3 : l.length = 0 := by
        have h3 : (l.length : Int) = 0 := by simpa only [beq_iff_eq] using h3
        omega
      rcases hsum with ⟨_, rfl⟩ | ⟨hne, _⟩
      · rfl
      · exact absurd (List.eq_nil_of_length_eq_zero h3) hne
    · have hl0 : l.length ≠ 0 := fun h => by rw [h] at h3; cases h3
      rcases hsum with ⟨rfl, _⟩ | ⟨hne, rfl, rfl, rfl⟩
      · exact absurd rfl hl0
      have hnl : (namesOf l).length = l.length := by simp [namesOf]
      have hne2 : namesOf l ≠ [] := fun h => by rw [h] at hnl; exact hl0 hnl.symm
      obtain ⟨hm, hmin⟩ := minR_spec _ hne2
      have hs0 := (ssidx_mem hm []).2
      rw [if_neg (by omega)]
      generalize namesOf l = ns at *
      generalize minR ns = m at *
      refine ⟨by omega, fun c x => ∃ j : Nat, x = j ∧ j ≤ ns.length ∧ c = ((ns.take j).count m : Nat), fun _ x => ns.length - x.toNat, ⟨0, rfl, by omega, by simp⟩, ?_⟩
      rintro _ _ ⟨j, rfl, hj, rfl⟩
      refine ⟨fun h4 => ?_, fun h4 => ?_⟩
      · have hjl : j < ns.length := by have := of_decide_eq_true h4; omega
        refine ⟨by omega, fun q hq => ?_⟩
        rw [Int.toNat_natCast] at hq
        have hcl := List.count_le_length (a := m) (l := ns.take j)
        have hcl2 : (ns.take j).length ≤ 6 := by rw [List.length_take]; omega
        rw [w64_succ j (by omega), w64_succ _ (by omega)]
        have hcn : (ns.take (j + 1)).count m = (ns.take j).count m + if (q == m) = true then 1 else 0 := by
          rw [take_next ns j q hq, List.count_append, List.count_singleton]
        refine ⟨fun h5 => ⟨⟨j + 1, rfl, by omega, by rw [hcn, if_pos h5]⟩, by (try dsimp only); omega⟩, fun h5 => ⟨⟨j + 1, rfl, by omega, by rw [hcn, if_neg (by rw [h5]; simp), Nat.add_zero]⟩, by (try dsimp only); omega⟩⟩
      · have hjl : j = ns.length := by have := of_decide_eq_false h4; omega
        subst hjl
        rw [List.take_length]
        refine ⟨fun h5 => ?_, fun h5 => ?_⟩
        · have h5 := of_decide_eq_true h5
          rw [if_pos (decide_eq_true (by omega))]
          rfl
        · have h5 := of_decide_eq_false h5
          rw [if_neg (by rw [decide_eq_false (by omega)]; simp)]
          simp

end Go.Proofs.YtmbdcehmeiiaoaaDoor
