/- Texts put together (pure ones, or walks made by program). -/
import Derived.Test.YtginlmgkimfjmaaDoorKp0
import Derived.Test.YtginlmgkimfjmaaDoorKp1
set_option linter.unusedVariables false
set_option linter.unusedSimpArgs false
namespace Go.Proofs.YtginlmgkimfjmaaDoor
open Go.Sy Go.RowKit
def LPlay_vc (u0 : List Task) (u1 : List Int) (u2 : List Int) (u3 : Int) (K : Bool → Prop) : Prop :=
  (u0.length ≤ 140737488355328 →
    (u1.length ≤ 140737488355328 →
    (u2.length ≤ 140737488355328 →
    ((playS u0 u1 u2 u3).1.length ≤ 140737488355328 →
    (∃ inv104 : Int → Prop,
    (((((dcheckS u0) == 0) && (((((u1.length : Int) != (u0.length : Int)) || (decide ((u2.length : Int) > 1000))) || (decide (u3 < 0))) || (decide (u3 > 1000000)))) = true →
      (inv104 2)) ∧
    ((((dcheckS u0) == 0) && (((((u1.length : Int) != (u0.length : Int)) || (decide ((u2.length : Int) > 1000))) || (decide (u3 < 0))) || (decide (u3 > 1000000)))) = false →
      (inv104 (dcheckS u0)))) ∧
    (∀ (x11 : Int), inv104 x11 →
      (∃ inv127 : Int → (List Ask) → Prop,
      (∃ inv963 : Int → (List Ask) → Int → Int → Prop, ∃ mu963 : Int → (List Ask) → Int → Int → Nat, inv963 x11 ([] : List Ask) 0 0 ∧
      (∀ (x11vv : Int) (x12v : List Ask) (x13 : Int) (x14 : Int), inv963 x11vv x12v x13 x14 →
      ((((x11vv == 0) && (decide (x14 < (u0.length : Int)))) = true →
        (∃ inv998 : Int → (List Ask) → Int → Prop,
        ((0 ≤ x14 ∧ x14 < (u0.length : Int)) ∧
        (∀ q1028, u0[x14.toNat]? = some q1028 →
        ((0 ≤ x14 ∧ x14 < (u1.length : Int)) ∧
        (∀ q1055, u1[x14.toNat]? = some q1055 →
        (((decide (q1055 < 0)) = true →
          ((0 ≤ x14 ∧ x14 < (u1.length : Int)) ∧
          (∀ q1096, u1[x14.toNat]? = some q1096 →
          (∃ inv1108 : Int → (List Ask) → Int → Int → Prop, ∃ mu1108 : Int → (List Ask) → Int → Int → Nat, inv1108 3 x12v x13 q1096 ∧
          (∀ (x11vvvv : Int) (x12vvv : List Ask) (x13vv : Int) (x16 : Int), inv1108 x11vvvv x12vvv x13vv x16 →
          ((((x11vvvv == 0) && (decide (x16 < u3))) = true →
            (∃ inv1140 : Int → (List Ask) → Int → Prop,
            (∃ inv1188 : Int → Int → Int → Prop,
            ((((decide (q1028.Jitter > 0)) && (decide ((u2.length : Int) > 0))) = true →
              (((u2.length : Int) ≠ 0) ∧
              ((0 ≤ x13vv.tmod (u2.length : Int) ∧ x13vv.tmod (u2.length : Int) < (u2.length : Int)) ∧
              (∀ q1262, u2[(x13vv.tmod (u2.length : Int)).toNat]? = some q1262 →
              (((decide (q1262 < 0)) = true →
                (inv998 3 x12vvv x13vv)) ∧
              ((decide (q1262 < 0)) = false →
                (((u2.length : Int) ≠ 0) ∧
                ((0 ≤ x13vv.tmod (u2.length : Int) ∧ x13vv.tmod (u2.length : Int) < (u2.length : Int)) ∧
                (∀ q1307, u2[(x13vv.tmod (u2.length : Int)).toNat]? = some q1307 →
                ((w64 (q1028.Jitter + 1) ≠ 0) ∧
                (inv1188 x11vvvv (w64 (x13vv + 1)) (w64 (x16 + (q1307.tmod (w64 (q1028.Jitter + 1)))))))))))))))) ∧
            (((decide (q1028.Jitter > 0)) && (decide ((u2.length : Int) > 0))) = false →
              (inv1188 x11vvvv x13vv x16))) ∧
            (∀ (x11vvvvvv : Int) (x13vvvv : Int) (x17 : Int), inv1188 x11vvvvvv x13vvvv x17 →
              (((x12vvv.length + 1) * 24 ≤ 140737488355328) ∧
              (((decide (((x12vvv ++ [(⟨x14, x16, x17⟩ : Ask)]).length : Int) > 1000)) = true →
                (inv1140 2 (x12vvv ++ [(⟨x14, x16, x17⟩ : Ask)]) x13vvvv)) ∧
              ((decide (((x12vvv ++ [(⟨x14, x16, x17⟩ : Ask)]).length : Int) > 1000)) = false →
                (inv1140 x11vvvvvv (x12vvv ++ [(⟨x14, x16, x17⟩ : Ask)]) x13vvvv)))))) ∧
            (∀ (x11vvvvv : Int) (x12vvvv : List Ask) (x13vvv : Int), inv1140 x11vvvvv x12vvvv x13vvv →
              (inv1108 x11vvvvv x12vvvv x13vvv (w64 (x16 + q1028.Every)) ∧ mu1108 x11vvvvv x12vvvv x13vvv (w64 (x16 + q1028.Every)) < mu1108 x11vvvv x12vvv x13vv x16)))) ∧
          (((x11vvvv == 0) && (decide (x16 < u3))) = false →
            (inv998 x11vvvv x12vvv x13vv)))))))) ∧
        ((decide (q1055 < 0)) = false →
          ((0 ≤ x14 ∧ x14 < (u1.length : Int)) ∧
          (∀ q1359, u1[x14.toNat]? = some q1359 →
          (∃ inv1373 : Int → Prop,
          (((decide (q1359 > 1000000)) = true →
            (inv1373 3)) ∧
          ((decide (q1359 > 1000000)) = false →
            (inv1373 x11vv))) ∧
          (∀ (x11vvvv : Int), inv1373 x11vvvv →
            ((0 ≤ x14 ∧ x14 < (u1.length : Int)) ∧
            (∀ q1396, u1[x14.toNat]? = some q1396 →
            (∃ inv1408 : Int → (List Ask) → Int → Int → Prop, ∃ mu1408 : Int → (List Ask) → Int → Int → Nat, inv1408 x11vvvv x12v x13 q1396 ∧
            (∀ (x11vvvvv : Int) (x12vvv : List Ask) (x13vv : Int) (x16 : Int), inv1408 x11vvvvv x12vvv x13vv x16 →
            ((((x11vvvvv == 0) && (decide (x16 < u3))) = true →
              (∃ inv1440 : Int → (List Ask) → Int → Prop,
              (∃ inv1488 : Int → Int → Int → Prop,
              ((((decide (q1028.Jitter > 0)) && (decide ((u2.length : Int) > 0))) = true →
                (((u2.length : Int) ≠ 0) ∧
                ((0 ≤ x13vv.tmod (u2.length : Int) ∧ x13vv.tmod (u2.length : Int) < (u2.length : Int)) ∧
                (∀ q1562, u2[(x13vv.tmod (u2.length : Int)).toNat]? = some q1562 →
                (((decide (q1562 < 0)) = true →
                  (inv998 3 x12vvv x13vv)) ∧
                ((decide (q1562 < 0)) = false →
                  (((u2.length : Int) ≠ 0) ∧
                  ((0 ≤ x13vv.tmod (u2.length : Int) ∧ x13vv.tmod (u2.length : Int) < (u2.length : Int)) ∧
                  (∀ q1607, u2[(x13vv.tmod (u2.length : Int)).toNat]? = some q1607 →
                  ((w64 (q1028.Jitter + 1) ≠ 0) ∧
                  (inv1488 x11vvvvv (w64 (x13vv + 1)) (w64 (x16 + (q1607.tmod (w64 (q1028.Jitter + 1)))))))))))))))) ∧
              (((decide (q1028.Jitter > 0)) && (decide ((u2.length : Int) > 0))) = false →
                (inv1488 x11vvvvv x13vv x16))) ∧
              (∀ (x11vvvvvvv : Int) (x13vvvv : Int) (x17 : Int), inv1488 x11vvvvvvv x13vvvv x17 →
                (((x12vvv.length + 1) * 24 ≤ 140737488355328) ∧
                (((decide (((x12vvv ++ [(⟨x14, x16, x17⟩ : Ask)]).length : Int) > 1000)) = true →
                  (inv1440 2 (x12vvv ++ [(⟨x14, x16, x17⟩ : Ask)]) x13vvvv)) ∧
                ((decide (((x12vvv ++ [(⟨x14, x16, x17⟩ : Ask)]).length : Int) > 1000)) = false →
                  (inv1440 x11vvvvvvv (x12vvv ++ [(⟨x14, x16, x17⟩ : Ask)]) x13vvvv)))))) ∧
              (∀ (x11vvvvvv : Int) (x12vvvv : List Ask) (x13vvv : Int), inv1440 x11vvvvvv x12vvvv x13vvv →
                (inv1408 x11vvvvvv x12vvvv x13vvv (w64 (x16 + q1028.Every)) ∧ mu1408 x11vvvvvv x12vvvv x13vvv (w64 (x16 + q1028.Every)) < mu1408 x11vvvvv x12vvv x13vv x16)))) ∧
            (((x11vvvvv == 0) && (decide (x16 < u3))) = false →
              (inv998 x11vvvvv x12vvv x13vv))))))))))))))))) ∧
        (∀ (x11vvv : Int) (x12vv : List Ask) (x13v : Int), inv998 x11vvv x12vv x13v →
          (inv963 x11vvv x12vv x13v (w64 (x14 + 1)) ∧ mu963 x11vvv x12vv x13v (w64 (x14 + 1)) < mu963 x11vv x12v x13 x14)))) ∧
      (((x11vv == 0) && (decide (x14 < (u0.length : Int)))) = false →
        (inv127 x11vv x12v))))) ∧
      (∀ (x11v : Int) (x12 : List Ask), inv127 x11v x12 →
        (((x11v != 0) = true →
          (K (((playS u0 u1 u2 u3).2 == x11v) && (((playS u0 u1 u2 u3).1.length : Int) == 0)))) ∧
        ((x11v != 0) = false →
          (∃ inv193 : (List Slot) → Prop,
          (∃ inv242 : (List Ask) → (List Slot) → Int → Prop, ∃ mu242 : (List Ask) → (List Slot) → Int → Nat, inv242 x12 ([] : List Slot) 0 ∧
          (∀ (x12v : List Ask) (x18v : List Slot) (x19 : Int), inv242 x12v x18v x19 →
          (((decide ((x12v.length : Int) > 0)) = true →
            ((0 ≤ (0 : Int) ∧ (0 : Int) < (x12v.length : Int)) ∧
            (∀ q281, x12v[(0 : Int).toNat]? = some q281 →
            (∃ inv299 : Int → Prop,
            (∃ inv903 : Int → Int → Prop, ∃ mu903 : Int → Int → Nat, inv903 q281.at_ 0 ∧
            (∀ (x20v : Int) (x168 : Int), inv903 x20v x168 →
            (((decide (x168 < (x12v.length : Int))) = true →
              ((0 ≤ x168 ∧ x168 < (x12v.length : Int)) ∧
              (∀ q928, x12v[x168.toNat]? = some q928 →
              (inv903 (min x20v q928.at_) (w64 (x168 + 1)) ∧ mu903 (min x20v q928.at_) (w64 (x168 + 1)) < mu903 x20v x168)))) ∧
            ((decide (x168 < (x12v.length : Int))) = false →
              (inv299 x20v))))) ∧
            (∀ (x20 : Int), inv299 x20 →
              (∃ inv332 : Int → Prop,
              (∃ inv501 : Int → Int → Prop, ∃ mu501 : Int → Int → Nat, inv501 (-1) 0 ∧
              (∀ (x23v : Int) (x182 : Int), inv501 x23v x182 →
              (((decide (x182 < (x12v.length : Int))) = true →
                (∃ inv520 : Int → Prop,
                ((0 ≤ x182 ∧ x182 < (x12v.length : Int)) ∧
                (∀ q547, x12v[x182.toNat]? = some q547 →
                (((decide (q547.at_ ≤ (max x19 x20))) = true →
                  (((decide (x23v < 0)) = true →
                    (inv520 x182)) ∧
                  ((decide (x23v < 0)) = false →
                    ((0 ≤ x23v ∧ x23v < (x12v.length : Int)) ∧
                    (∀ q674, x12v[x23v.toNat]? = some q674 →
                    (((decide (q547.task < q674.task)) = true →
                      (inv520 x182)) ∧
                    ((decide (q547.task < q674.task)) = false →
                      ((0 ≤ x23v ∧ x23v < (x12v.length : Int)) ∧
                      (∀ q754, x12v[x23v.toNat]? = some q754 →
                      (((q547.task == q754.task) = true →
                        ((0 ≤ x23v ∧ x23v < (x12v.length : Int)) ∧
                        (∀ q785, x12v[x23v.toNat]? = some q785 →
                        (((decide (q547.due < q785.due)) = true →
                          (inv520 x182)) ∧
                        ((decide (q547.due < q785.due)) = false →
                          (inv520 x23v)))))) ∧
                      ((q547.task == q754.task) = false →
                        (inv520 x23v)))))))))))) ∧
                ((decide (q547.at_ ≤ (max x19 x20))) = false →
                  (inv520 x23v))))) ∧
                (∀ (x23vv : Int), inv520 x23vv →
                  (inv501 x23vv (w64 (x182 + 1)) ∧ mu501 x23vv (w64 (x182 + 1)) < mu501 x23v x182)))) ∧
              ((decide (x182 < (x12v.length : Int))) = false →
                (inv332 x23v))))) ∧
              (∀ (x23 : Int), inv332 x23 →
                ((0 ≤ x23 ∧ x23 < (x12v.length : Int)) ∧
                (∀ q356, x12v[x23.toNat]? = some q356 →
                ((0 ≤ x23 ∧ x23 ≤ (w64 (x23 + 1)) ∧ (w64 (x23 + 1)) ≤ (x12v.length : Int)) ∧
                ((adelS x12v x23 (w64 (x23 + 1))).length ≤ 140737488355328 →
                ((0 ≤ q356.task ∧ q356.task < (u0.length : Int)) ∧
                (∀ q426, u0[q356.task.toNat]? = some q426 →
                ((0 ≤ q426.Bytes ∧ q426.Bytes ≤ 8) ∧
                (((x18v.length + 1) * 32 ≤ 140737488355328) ∧
                ((0 ≤ q356.task ∧ q356.task < (u0.length : Int)) ∧
                (∀ q480, u0[q356.task.toNat]? = some q480 →
                ((0 ≤ q480.Bytes ∧ q480.Bytes ≤ 8) ∧
                (inv242 (adelS x12v x23 (w64 (x23 + 1))) (x18v ++ [(⟨q356.task, q356.due, max x19 x20, w64 ((max x19 x20) + (ltakesS q426))⟩ : Slot)]) (w64 ((max x19 x20) + (ltakesS q480))) ∧ mu242 (adelS x12v x23 (w64 (x23 + 1))) (x18v ++ [(⟨q356.task, q356.due, max x19 x20, w64 ((max x19 x20) + (ltakesS q426))⟩ : Slot)]) (w64 ((max x19 x20) + (ltakesS q480))) < mu242 x12v x18v x19))))))))))))))))))) ∧
          ((decide ((x12v.length : Int) > 0)) = false →
            (inv193 x18v))))) ∧
          (∀ (x18 : List Slot), inv193 x18 →
            (K (((playS u0 u1 u2 u3).2 == 0) && (sleqS (playS u0 u1 u2 u3).1 x18)))))))))))))))

/-! Pure proofs: no program in sight. -/
theorem insC_perm {α : Type} (cmp : α → α → Int) (a : α) (s : List α) : (insC cmp a s).Perm (a :: s) := by
  induction s with
  | nil => exact List.Perm.refl _
  | cons b r ih =>
    rw [insC]
    split
    · exact List.Perm.refl _
    · exact (ih.cons b).trans (List.Perm.swap a b r)
theorem sortC_perm {α : Type} (cmp : α → α → Int) (l : List α) : (sortC cmp l).Perm l := by
  have key : ∀ (l s : List α), (l.foldl (fun s x => insC cmp x s) s).Perm (l ++ s) := by
    intro l
    induction l with
    | nil => intro s; exact List.Perm.refl _
    | cons a r ih =>
      intro s
      rw [List.foldl_cons]
      refine (ih _).trans ?_
      refine ((insC_perm cmp a s).append_left r).trans ?_
      exact List.perm_middle
  have := key l []
  rwa [List.append_nil] at this
theorem del_perm {α β : Type} (f : β → α) {A : List α} {B : List β} (h : A.Perm (B.map f)) {m b : Nat} {j : β} (hm : A[m]? = some (f j)) (hb : B[b]? = some j) :
    (A.take m ++ A.drop (m + 1)).Perm ((B.take b ++ B.drop (b + 1)).map f) := by
  have e1 : A = A.take m ++ f j :: A.drop (m + 1) := by
    obtain ⟨hl, he⟩ := List.getElem?_eq_some_iff.1 hm
    rw [← he, ← List.drop_eq_getElem_cons hl, List.take_append_drop]
  have e2 : B = B.take b ++ j :: B.drop (b + 1) := by
    obtain ⟨hl, he⟩ := List.getElem?_eq_some_iff.1 hb
    rw [← he, ← List.drop_eq_getElem_cons hl, List.take_append_drop]
  have h2 : (f j :: (A.take m ++ A.drop (m + 1))).Perm (f j :: ((B.take b ++ B.drop (b + 1)).map f)) := by
    refine (List.perm_middle.symm.trans ?_).trans (?_ : (B.map f).Perm _)
    · rw [← e1]; exact h
    · have : (B.map f) = (B.take b).map f ++ f j :: (B.drop (b + 1)).map f := by
        conv => lhs; rw [e2]
        rw [List.map_append, List.map_cons]
      rw [this, List.map_append]
      exact List.perm_middle
  exact h2.cons_inv
/-- Ahead, of those that were asked for. -/
def KLe (a b : Job) : Prop := a.task < b.task ∨ a.task = b.task ∧ a.from_ ≤ b.from_
def KLt (a b : Job) : Prop := a.task < b.task ∨ a.task = b.task ∧ a.from_ < b.from_
def IsBest (js : List Job) (now : Int) (j : Job) : Prop := j ∈ js ∧ j.asked ≤ now ∧ ∀ k ∈ js, k.asked ≤ now → KLe j k
def Inj (js : List Job) : Prop := ∀ a ∈ js, ∀ b ∈ js, a.task = b.task → a.from_ = b.from_ → a = b
theorem best_one {js : List Job} {now : Int} {i j : Job} (hI : Inj js) (hi : IsBest js now i) (hj : IsBest js now j) : i = j := by
  have h1 := hi.2.2 j hj.1 hj.2.1
  have h2 := hj.2.2 i hi.1 hi.2.1
  unfold KLe at h1 h2
  exact hI i hi.1 j hj.1 (by omega) (by omega)
theorem ahead_iff (a b : Job) (now : Int) : ahead a b now = true ↔ a.asked ≤ now ∧ KLt a b := by
  unfold ahead KLt
  simp only [Bool.and_eq_true, Bool.or_eq_true, decide_eq_true_eq, beq_iff_eq]
theorem bestF_best (now : Int) (jobs : List Job) : ∀ (n i b : Nat), jobs.length - i = n → i ≤ jobs.length → (∃ p, jobs[b]? = some p ∧ p.asked ≤ now ∧ ∀ (k : Nat) (q : Job), k < i → jobs[k]? = some q → q.asked ≤ now → KLe p q) →
    ∃ p, jobs[bestF now jobs (jobs.drop i) i b]? = some p ∧ IsBest jobs now p := by
  intro n
  induction n with
  | zero =>
    rintro i b h1 h2 ⟨p, hp, ha, hq⟩
    have : i = jobs.length := by omega
    subst this
    rw [List.drop_length, bestF]
    refine ⟨p, hp, List.mem_of_getElem? hp, ha, fun q hm hqa => ?_⟩
    obtain ⟨k, hk, rfl⟩ := List.mem_iff_getElem.1 hm
    exact hq k _ hk (List.getElem?_eq_getElem hk) hqa
  | succ n ih =>
    rintro i b h1 h2 ⟨p, hp, ha, hq⟩
    have hi : i < jobs.length := by omega
    rw [List.drop_eq_getElem_cons hi, bestF, hp, Option.getD_some]
    by_cases h3 : ahead jobs[i] p now = true
    · rw [if_pos h3]
      have h4 := (ahead_iff _ _ _).1 h3
      refine ih (i + 1) i (by omega) (by omega) ⟨jobs[i], List.getElem?_eq_getElem hi, h4.1, fun k q hk hkq hqa => ?_⟩
      rcases Nat.lt_or_ge k i with hc | hc
      · have h5 := hq k q hc hkq hqa
        have h6 := h4.2
        unfold KLe KLt at *
        omega
      · have : k = i := by omega
        subst this
        rw [List.getElem?_eq_getElem hi] at hkq
        cases hkq
        unfold KLe
        omega
    · rw [if_neg h3]
      refine ih (i + 1) b (by omega) (by omega) ⟨p, hp, ha, fun k q hk hkq hqa => ?_⟩
      rcases Nat.lt_or_ge k i with hc | hc
      · exact hq k q hc hkq hqa
      · have : k = i := by omega
        subst this
        rw [List.getElem?_eq_getElem hi] at hkq
        cases hkq
        have h5 : ¬ KLt jobs[k] p := fun hc => h3 ((ahead_iff _ _ _).2 ⟨hqa, hc⟩)
        unfold KLe KLt at *
        omega
def toAsk (j : Job) : Ask := ⟨j.task, j.from_, j.asked⟩
/-- What the law's loop holds: the program's jobs. -/
structure Gd (l : List Task) (n : Int) (js : List Job) (k a : Int) : Prop where
  len : js.length ≤ 1000
  ok : ∀ j ∈ js, jok l j
  k0 : 0 ≤ k
  k1 : k ≤ js.length
  srt : js.Pairwise KLt
  bel : ∀ j ∈ js, j.task < n ∨ j.task = n ∧ j.from_ < a
theorem Gd.add {l : List Task} {n : Int} {js : List Job} {k k' a a' : Int} {x : Job} (h : Gd l n js k a) (hx : jok l x) (hn : x.task = n) (hf : x.from_ = a) (haa : a < a') (hk0 : 0 ≤ k') (hk1 : k' ≤ js.length + 1) (hl : js.length + 1 ≤ 1000) : Gd l n (js ++ [x]) k' a' := by
  refine ⟨by simp; omega, fun j hj => ?_, hk0, by simp; omega, ?_, fun j hj => ?_⟩
  · rcases List.mem_append.1 hj with hj | hj
    · exact h.ok j hj
    · rw [List.mem_singleton.1 hj]; exact hx
  · rw [List.pairwise_append]
    refine ⟨h.srt, List.pairwise_singleton _ _, fun y hy z hz => ?_⟩
    rw [List.mem_singleton.1 hz]
    have := h.bel y hy
    unfold KLt
    omega
  · rcases List.mem_append.1 hj with hj | hj
    · have := h.bel j hj
      omega
    · rw [List.mem_singleton.1 hj]; omega
theorem Gd.next {l : List Task} {n : Int} {js : List Job} {k a : Int} (h : Gd l n js k a) (a' : Int) : Gd l (n + 1) js k a' :=
  ⟨h.len, h.ok, h.k0, h.k1, h.srt, fun j hj => by have := h.bel j hj; omega⟩
theorem Gd.inj {l : List Task} {n : Int} {js : List Job} {k a : Int} (h : Gd l n js k a) : Inj js := by
  have key : ∀ js : List Job, js.Pairwise KLt → Inj js := by
    intro js
    induction js with
    | nil => intro _ a ha; simp at ha
    | cons x r ih =>
      intro hp a ha b hb h1 h2
      obtain ⟨p1, p2⟩ := List.pairwise_cons.1 hp
      rcases List.mem_cons.1 ha with ha | ha <;> rcases List.mem_cons.1 hb with hb | hb
      · rw [ha, hb]
      · have := p1 b hb; subst ha; unfold KLt at this; omega
      · have := p1 a ha; subst hb; unfold KLt at this; omega
      · exact ih p2 a ha b hb h1 h2
  exact key js h.srt
theorem ltakes_long {l : List Task} (htok : ∀ o ∈ l, tok o = true) {j : Job} {t : Task} (ht : l[j.task.toNat]? = some t) : ltakesS t = longJ l j + 3 ∧ 0 ≤ longJ l j ∧ longJ l j ≤ 200 := by
  have := long_bound (htok t (List.mem_of_getElem? ht))
  unfold longJ
  rw [ht, Option.getD_some]
  exact ⟨rfl, this.1, this.2⟩
theorem mod_ok {k : Int} {n : Nat} (h0 : 0 ≤ k) (hn : 0 < n) : 0 ≤ k.tmod (n : Int) ∧ k.tmod (n : Int) < (n : Int) := by
  rw [Int.tmod_eq_emod_of_nonneg h0]
  exact ⟨Int.emod_nonneg k (by omega), Int.emod_lt_of_pos k (by omega)⟩
/-- The jobs of one task, one of them. -/
theorem genT_step {i : Int} {t : Task} {later : List Int} {e a k : Int} {n : Nat} {js : List Job} (h : a < e) :
    genT i t later e (n + 1) a js k = if 0 < later.length ∧ 0 < t.Jitter then
        (match later[(k.tmod (later.length : Int)).toNat]? with
        | none => .error 3
        | some v => if v < 0 then .error 3 else if 1000 < (js ++ [(⟨i, a, a + v.tmod (t.Jitter + 1)⟩ : Job)]).length then .error 2 else genT i t later e n (a + t.Every) (js ++ [⟨i, a, a + v.tmod (t.Jitter + 1)⟩]) (k + 1))
      else if 1000 < (js ++ [(⟨i, a, a⟩ : Job)]).length then .error 2 else genT i t later e n (a + t.Every) (js ++ [⟨i, a, a⟩]) k := by
  rw [genT, if_pos h]
  rfl
def contA (later : List Int) (e : Int) (z : List (Task × Int)) (n : Int) (r : Except Int (List Job × Int)) : Except Int (List Job) := match r with
  | .error x => .error x
  | .ok q => genA later e z n q.1 q.2
theorem genA_cons (later : List Int) (e : Int) (t : Task) (f : Int) (r : List (Task × Int)) (i : Int) (jobs : List Job) (k : Int) :
    genA later e ((t, f) :: r) i jobs k = if f < 0 ∨ 1000000 < f then .error 3 else contA later e r (i + 1) (genT i t later e (1001 - jobs.length) f jobs k) := by
  rw [genA]
  rfl
def playR (l : List Task) (R : Except Int (List Job)) : List Slot × Int := match R with
  | .error x => ([], x)
  | .ok jobs => (playL l jobs.length (sortC (fun a b => cmpj a b) jobs) [] 0, 0)
theorem playS_eq {l : List Task} {first later : List Int} {e : Int} (h1 : dcheckS l = 0) (h2 : ¬ (first.length ≠ l.length ∨ 1000 < later.length ∨ e < 0 ∨ 1000000 < e)) : playS l first later e = playR l (genA later e (l.zip first) 0 [] 0) := by
  unfold playS
  rw [if_neg (fun h => h h1), if_neg h2]
  rfl
theorem playL_step (l : List Task) (js : List Job) (j0 : Job) (r : List Job) (hr : js = j0 :: r) (out : List Slot) (now : Int) (b : Nat) (hb : b = bestF (max now j0.asked) js js 0 0) (q : Job) (hq : js[b]? = some q) :
    playL l js.length js out now = playL l (js.length - 1) (js.take b ++ js.drop (b + 1)) (out ++ [⟨q.task, q.from_, max now j0.asked, max now j0.asked + longJ l q + 3⟩]) (max now j0.asked + longJ l q + 3) := by
  have e : playL l js.length js out now = (fun now2 => (fun b => (fun j => playL l (js.length - 1) (js.take b ++ js.drop (b + 1)) (out ++ [⟨j.task, j.from_, now2, now2 + longJ l j + 3⟩]) (now2 + longJ l j + 3)) (js[b]?.getD default)) (bestF now2 js js 0 0)) (if j0.asked > now then j0.asked else now) := by
    rw [hr, List.length_cons, playL]
    rfl
  have hn : (if j0.asked > now then j0.asked else now) = max now j0.asked := by split <;> omega
  rw [e, hn]
  dsimp only
  rw [← hb, hq, Option.getD_some]
theorem LPlay_ok (l : List Task) (first later : List Int) (e : Int) : LPlay_vc l first later e (fun r => r = true) := by
  intro hL1 hL2 hL3 hL4
  obtain ⟨b0, hb1, hb2, hbad, hgood⟩ : ∃ b0 : Int, ((((dcheckS l) == 0) && (((((first.length : Int) != (l.length : Int)) || (decide ((later.length : Int) > 1000))) || (decide (e < 0))) || (decide (e > 1000000)))) = true → b0 = 2) ∧
      ((((dcheckS l) == 0) && (((((first.length : Int) != (l.length : Int)) || (decide ((later.length : Int) > 1000))) || (decide (e < 0))) || (decide (e > 1000000)))) = false → b0 = dcheckS l) ∧
      (b0 ≠ 0 → playS l first later e = ([], b0)) ∧ (b0 = 0 → dcheckS l = 0 ∧ first.length = l.length ∧ later.length ≤ 1000 ∧ 0 ≤ e ∧ e ≤ 1000000) := by
    by_cases h1 : dcheckS l = 0
    · by_cases h2 : first.length ≠ l.length ∨ 1000 < later.length ∨ e < 0 ∨ 1000000 < e
      · refine ⟨2, fun _ => rfl, fun h => ?_, fun _ => ?_, fun h => by omega⟩
        · simp only [Bool.and_eq_false_iff, Bool.or_eq_false_iff, beq_eq_false_iff_ne, bne_eq_false_iff_eq, decide_eq_false_iff_not] at h
          omega
        · unfold playS
          rw [if_neg (fun h => h h1), if_pos h2]
      · refine ⟨0, fun h => ?_, fun _ => h1.symm, fun h => absurd rfl h, fun _ => ⟨h1, by omega, by omega, by omega, by omega⟩⟩
        simp only [Bool.and_eq_true, Bool.or_eq_true, beq_iff_eq, bne_iff_ne, decide_eq_true_eq] at h
        omega
    · refine ⟨dcheckS l, fun h => ?_, fun _ => rfl, fun _ => ?_, fun h => absurd h h1⟩
      · simp only [Bool.and_eq_true, beq_iff_eq] at h
        exact absurd h.1 h1
      · unfold playS
        rw [if_pos h1]
  refine ⟨fun x => x = b0, ⟨fun h => (hb1 h).symm, fun h => (hb2 h).symm⟩, ?_⟩
  rintro x11 hx11
  obtain rfl : x11 = b0 := hx11
  have hS : x11 = 0 → playS l first later e = playR l (genA later e (l.zip first) 0 [] 0) := by
    intro h0
    obtain ⟨g0, g1, g2, g3, g4⟩ := hgood h0
    exact playS_eq g0 (by omega)
  generalize hR : genA later e (l.zip first) 0 [] 0 = R at hS
  refine ⟨fun b all => (b ≠ 0 ∧ playS l first later e = ([], b)) ∨ (b = 0 ∧ x11 = 0 ∧ ∃ js k, Gd l l.length js k 0 ∧ all = js.map toAsk ∧ R = .ok js), ?_, ?_⟩
  · refine ⟨fun b all k i => (b ≠ 0 ∧ playS l first later e = ([], b)) ∨ (b = 0 ∧ x11 = 0 ∧ ∃ (n : Nat) (js : List Job), i = n ∧ n ≤ l.length ∧ (∀ a, Gd l n js k a) ∧ all = js.map toAsk ∧ genA later e ((l.zip first).drop n) n js k = R), fun _ _ _ i => l.length - i.toNat, ?_, ?_⟩
    · by_cases h0 : x11 = 0
      · exact .inr ⟨h0, h0, 0, [], rfl, by omega, fun a => ⟨by simp, by simp, by omega, by simp, List.Pairwise.nil, by simp⟩, rfl, hR⟩
      · exact .inl ⟨h0, hbad h0⟩
    · rintro b all k i (⟨hb, hpb⟩ | ⟨rfl, h0, n, js, rfl, hn, hG, rfl, hgen⟩)
      · refine ⟨fun h => ?_, fun _ => .inl ⟨hb, hpb⟩⟩
        simp only [Bool.and_eq_true, beq_iff_eq] at h
        exact absurd h.1 hb
      obtain ⟨g0, g1, g2, g3, g4⟩ := hgood h0
      obtain ⟨hl20, htok⟩ := dcheckS_zero g0
      have herr : ∀ x, R = .error x → playS l first later e = ([], x) := fun x hx => by rw [hS h0, hx]; rfl
      refine ⟨fun h3 => ?_, fun h3 => ?_⟩
      · have hnl : n < l.length := by
          simp only [Bool.and_eq_true, decide_eq_true_eq] at h3
          omega
        refine ⟨fun b all k => (b ≠ 0 ∧ playS l first later e = ([], b)) ∨ (b = 0 ∧ ∃ (js : List Job), (∀ a, Gd l (n + 1) js k a) ∧ all = js.map toAsk ∧ genA later e ((l.zip first).drop (n + 1)) ((n : Int) + 1) js k = R), ⟨by omega, fun t ht => ⟨by omega, fun f hf => ?_⟩⟩, ?_⟩
        · rw [Int.toNat_natCast] at ht hf ⊢
          have hz := zip_get ht hf
          rw [drop_this _ _ _ hz, genA_cons] at hgen
          have htk := tok_spec (htok t (List.mem_of_getElem? ht))
          refine ⟨fun h4 => ⟨by omega, fun f2 hf2 => ?_⟩, fun h4 => ⟨by omega, fun f2 hf2 => ?_⟩⟩
          · have h4 := of_decide_eq_true h4
            rw [if_pos (.inl h4)] at hgen
            refine ⟨fun b _ _ _ => b = 3, fun _ _ _ _ => 0, rfl, ?_⟩
            rintro _ all k a rfl
            refine ⟨fun h => ?_, fun h => .inl ⟨by decide, herr 3 hgen.symm⟩⟩
            simp at h
          · rw [hf] at hf2
            cases hf2
            have h4 := of_decide_eq_false h4
            refine ⟨fun b => (b ≠ 0 ∧ playS l first later e = ([], b)) ∨ (b = 0 ∧ f ≤ 1000000), ⟨fun h5 => ?_, fun h5 => ?_⟩, ?_⟩
            · have h5 := of_decide_eq_true h5
              rw [if_pos (.inr h5)] at hgen
              exact .inl ⟨by decide, herr 3 hgen.symm⟩
            · have h5 := of_decide_eq_false h5
              exact .inr ⟨rfl, by omega⟩
            intro b hb
            refine ⟨by omega, fun f2 hf2 => ?_⟩
            rw [hf] at hf2
            cases hf2
            -- the task's jobs
            refine ⟨fun b all k a => (b ≠ 0 ∧ playS l first later e = ([], b)) ∨ (b = 0 ∧ ∃ js, Gd l n js k a ∧ 0 ≤ a ∧ a ≤ 2000000 ∧ all = js.map toAsk ∧ contA later e ((l.zip first).drop (n + 1)) (n + 1) (genT n t later e (1001 - js.length) a js k) = R), fun _ _ _ a => (e - a).toNat, ?_, ?_⟩
            · rcases hb with hb | ⟨rfl, hb⟩
              · exact .inl hb
              · rw [if_neg (by omega)] at hgen
                exact .inr ⟨rfl, js, hG f, by omega, by omega, rfl, hgen⟩
            · rintro b all k a (⟨hb, hpb⟩ | ⟨rfl, js2, hG2, a0, a1, rfl, hgt⟩)
              · refine ⟨fun h => ?_, fun _ => .inl ⟨hb, hpb⟩⟩
                simp only [Bool.and_eq_true, beq_iff_eq] at h
                exact absurd h.1 hb
              obtain ⟨q, hq⟩ : ∃ q, 1001 - js2.length = q + 1 := ⟨1000 - js2.length, by have := hG2.len; omega⟩
              have hjl := hG2.len
              have hk0 := hG2.k0
              have hk1 := hG2.k1
              refine ⟨fun h6 => ?_, fun h6 => ?_⟩
              · have h6 : a < e := by
                  simp only [Bool.and_eq_true, decide_eq_true_eq] at h6
                  exact h6.2
                rw [hq, genT_step h6] at hgt
                refine ⟨fun b all k => (b ≠ 0 ∧ playS l first later e = ([], b)) ∨ (b = 0 ∧ ∃ js, Gd l n js k (a + t.Every) ∧ all = js.map toAsk ∧ contA later e ((l.zip first).drop (n + 1)) (n + 1) (genT n t later e (1001 - js.length) (a + t.Every) js k) = R), ⟨fun b k a' => b = 0 ∧ 0 ≤ k ∧ k ≤ js2.length + 1 ∧ 0 ≤ a' ∧ a' ≤ 3000000 ∧ contA later e ((l.zip first).drop (n + 1)) (n + 1) (if 1000 < (js2 ++ [(⟨n, a, a'⟩ : Job)]).length then .error 2 else genT n t later e q (a + t.Every) (js2 ++ [⟨n, a, a'⟩]) k) = R, ⟨fun h7 => ?_, fun h7 => ?_⟩, ?_⟩, ?_⟩
                · rw [Bool.and_eq_true, decide_eq_true_eq, decide_eq_true_eq] at h7
                  have h8 : 0 < later.length ∧ 0 < t.Jitter := ⟨by omega, h7.1⟩
                  have hm := mod_ok hk0 h8.1
                  rw [if_pos h8] at hgt
                  refine ⟨by omega, hm, fun v hv => ?_⟩
                  rw [hv] at hgt
                  dsimp only at hgt
                  refine ⟨fun h9 => ?_, fun h9 => ⟨by omega, hm, fun v2 hv2 => ?_⟩⟩
                  · rw [if_pos (of_decide_eq_true h9)] at hgt
                    exact .inl ⟨by decide, herr 3 hgt.symm⟩
                  · rw [hv] at hv2
                    cases hv2
                    have h9 := of_decide_eq_false h9
                    rw [if_neg h9] at hgt
                    have ej : w64 (t.Jitter + 1) = t.Jitter + 1 := w64_eq _ (by omega)
                    have hv0 := Int.tmod_eq_emod_of_nonneg (b := t.Jitter + 1) (show 0 ≤ v by omega)
                    have hv1 := Int.emod_nonneg v (show t.Jitter + 1 ≠ 0 by omega)
                    have hv2 := Int.emod_lt_of_pos v (show 0 < t.Jitter + 1 by omega)
                    have ea : w64 (a + v.tmod (t.Jitter + 1)) = a + v.tmod (t.Jitter + 1) := w64_eq _ (by omega)
                    rw [ej, ea, w64_eq (k + 1) (by omega)]
                    exact ⟨by omega, rfl, by omega, by omega, by omega, by omega, hgt⟩
                · have h8 : ¬ (0 < later.length ∧ 0 < t.Jitter) := by
                    intro hc
                    have : ((decide (t.Jitter > 0)) && (decide ((later.length : Int) > 0))) = true := by
                      rw [decide_eq_true (show (later.length : Int) > 0 by omega), decide_eq_true hc.2]; rfl
                    rw [this] at h7
                    cases h7
                  rw [if_neg h8] at hgt
                  exact ⟨rfl, hk0, by omega, by omega, by omega, hgt⟩
                · rintro _ k2 a' ⟨rfl, c1, c2, c3, c4, c5⟩
                  have hmap : js2.map toAsk ++ [(⟨(n : Int), a, a'⟩ : Ask)] = (js2 ++ [(⟨(n : Int), a, a'⟩ : Job)]).map toAsk := by rw [List.map_append]; rfl
                  have hlen : (js2 ++ [(⟨(n : Int), a, a'⟩ : Job)]).length = js2.length + 1 := by simp
                  rw [hmap, List.length_map, List.length_map, hlen]
                  rw [hlen] at c5
                  refine ⟨by omega, fun h10 => ?_, fun h10 => ?_⟩
                  · have h10 := of_decide_eq_true h10
                    rw [if_pos (by omega)] at c5
                    exact .inl ⟨by decide, herr 2 c5.symm⟩
                  · have h10 := of_decide_eq_false h10
                    rw [if_neg (by omega)] at c5
                    have e9 : 1001 - (js2.length + 1) = q := by omega
                    refine .inr ⟨rfl, _, hG2.add (k' := k2) (a' := a + t.Every) ?_ rfl rfl (by omega) c1 c2 (by omega), rfl, ?_⟩
                    · exact ⟨by show (0 : Int) ≤ n; omega, by show (n : Int) < _; omega, by show 0 ≤ a'; omega, by show a' ≤ _; omega⟩
                    · rw [hlen, e9]
                      exact c5
                · intro b all k2 hb
                  rw [w64_eq (a + t.Every) (by omega)]
                  refine ⟨?_, by (try dsimp only); omega⟩
                  rcases hb with hb | ⟨rfl, js3, d1, d2, d3⟩
                  · exact .inl hb
                  · exact .inr ⟨rfl, js3, d1, by omega, by omega, d2, d3⟩
              · have h6 : ¬ a < e := by
                  intro hc
                  rw [decide_eq_true hc] at h6
                  cases h6
                rw [hq, genT, if_neg h6] at hgt
                exact .inr ⟨rfl, js2, fun a => hG2.next a, rfl, hgt⟩
        · intro b all k2 hb
          rw [w64_succ n (by omega)]
          refine ⟨?_, by (try dsimp only); omega⟩
          rcases hb with hb | ⟨rfl, js3, d1, d2, d3⟩
          · exact .inl hb
          · exact .inr ⟨rfl, h0, n + 1, js3, rfl, by omega, d1, d2, d3⟩
      · have hnl : n = l.length := by
          have : ¬ (n : Int) < (l.length : Int) := by
            intro hc
            rw [decide_eq_true hc] at h3
            cases h3
          omega
        subst hnl
        have hzl : (l.zip first).length = l.length := by rw [List.length_zip, g1]; omega
        rw [List.drop_eq_nil_of_le (by omega), genA] at hgen
        exact .inr ⟨rfl, h0, js, k, hG 0, rfl, hgen.symm⟩
  · rintro b all (⟨hb, hpb⟩ | ⟨rfl, h0, J, k, hG, rfl, rfl⟩)
    · refine ⟨fun _ => ?_, fun h => ?_⟩
      · rw [hpb]
        simp
      · exact absurd (by simpa using h) hb
    refine ⟨fun h => by simp at h, fun _ => ?_⟩
    obtain ⟨g0, g1, g2, g3, g4⟩ := hgood h0
    obtain ⟨hl20, htok⟩ := dcheckS_zero g0
    have hS : playS l first later e = (playL l J.length (sortC (fun a b => cmpj a b) J) [] 0, 0) := hS h0
    rw [hS]
    dsimp only
    have hkey := cmpj_keyed (l := J) fun j hj => ⟨(hG.ok j hj).2.2.1, (hG.ok j hj).2.2.2⟩
    have hsp := sortC_perm (fun a b => cmpj a b) J
    generalize hF : playL l J.length (sortC (fun a b => cmpj a b) J) [] 0 = F
    have hJl := hG.len
    have hsl : (sortC (fun a b => cmpj a b) J).length = J.length := hsp.length_eq
    refine ⟨fun out => out = F, ?_, ?_⟩
    · refine ⟨fun all out free => ∃ js : List Job, all.Perm (js.map toAsk) ∧ (∀ j ∈ js, jok l j) ∧ Inj js ∧ js.Pairwise (fun a b => a.asked ≤ b.asked) ∧ out.length + js.length ≤ 1000 ∧ 0 ≤ free ∧ free ≤ 3000000 + 1000 * (out.length : Int) ∧ playL l js.length js out free = F, fun all _ _ => all.length, ?_, ?_⟩
      · refine ⟨sortC (fun a b => cmpj a b) J, (hsp.symm.map toAsk), fun j hj => hG.ok j (hsp.mem_iff.1 hj), fun a ha b hb => hG.inj a (hsp.mem_iff.1 ha) b (hsp.mem_iff.1 hb), (sortC_spec hkey).1, by simp only [List.length_nil]; omega, Int.le_refl _, by simp, by rw [hsl]; exact hF⟩
      · rintro all out free ⟨js, hp, hok, hinj, hsrt, hlen, f0, f1, hpl⟩
        have hal : all.length = js.length := by rw [hp.length_eq, List.length_map]
        refine ⟨fun h1 => ?_, fun h1 => ?_⟩
        · have h1 : 0 < all.length := by have := of_decide_eq_true h1; omega
          refine ⟨⟨by decide, by omega⟩, fun q0 hq0 => ?_⟩
          have hq0 : all[0]? = some q0 := hq0
          obtain ⟨j0, r, hr⟩ : ∃ j0 r, js = j0 :: r := by
            cases js with
            | nil => rw [List.length_nil] at hal; omega
            | cons x r => exact ⟨x, r, rfl⟩
          have hj0 : j0 ∈ js := by rw [hr]; simp
          have hmin : ∀ j ∈ js, j0.asked ≤ j.asked := by
            intro j hj
            rw [hr] at hj hsrt
            rcases List.mem_cons.1 hj with rfl | hj
            · exact Int.le_refl _
            · exact (List.pairwise_cons.1 hsrt).1 j hj
          have hj0o := hok j0 hj0
          have hmem : ∀ q ∈ all, ∃ j ∈ js, toAsk j = q := fun q hq => by simpa using hp.mem_iff.1 hq
          have hmem2 : ∀ j ∈ js, toAsk j ∈ all := fun j hj => hp.mem_iff.2 (List.mem_map_of_mem hj)
          refine ⟨fun x => x = j0.asked, ⟨fun x k => ∃ m : Nat, k = m ∧ m ≤ all.length ∧ (∃ q ∈ all, x = q.at_) ∧ ∀ (i : Nat) q, i < m → all[i]? = some q → x ≤ q.at_, fun _ k => all.length - k.toNat, ⟨0, rfl, by omega, ⟨q0, List.mem_of_getElem? hq0, rfl⟩, fun i _ hi => absurd hi (Nat.not_lt_zero _)⟩, ?_⟩, ?_⟩
          · rintro x _ ⟨m, rfl, hm, ⟨qx, hqx, hx⟩, hxm⟩
            refine ⟨fun h2 => ?_, fun h2 => ?_⟩
            · have h2 : m < all.length := by have := of_decide_eq_true h2; omega
              refine ⟨by omega, fun q hq => ?_⟩
              rw [Int.toNat_natCast] at hq
              rw [w64_succ m (by omega)]
              refine ⟨⟨m + 1, rfl, by omega, ?_, fun i p hi hpi => ?_⟩, by (try dsimp only); omega⟩
              · rcases Int.le_total x q.at_ with hc | hc
                · exact ⟨qx, hqx, by omega⟩
                · exact ⟨q, List.mem_of_getElem? hq, by omega⟩
              · rcases Nat.lt_or_ge i m with hc | hc
                · have := hxm i p hc hpi
                  omega
                · have : i = m := by omega
                  subst this
                  rw [hq] at hpi
                  cases hpi
                  omega
            · have h2 : m = all.length := by have := of_decide_eq_false h2; omega
              subst h2
              obtain ⟨j, hj, rfl⟩ := hmem qx hqx
              have h3 := hmin j hj
              obtain ⟨i, hi, he⟩ := List.mem_iff_getElem.1 (hmem2 j0 hj0)
              have h4 := hxm i _ hi (List.getElem?_eq_getElem hi)
              rw [he] at h4
              have h5 : x = j.asked := hx
              have h6 : x ≤ j0.asked := h4
              show x = j0.asked
              omega
          · rintro _ rfl
            generalize hnow : max free j0.asked = now
            refine ⟨fun x => ∃ m : Nat, x = m ∧ m < all.length ∧ ∃ j, all[m]? = some (toAsk j) ∧ IsBest js now j, ⟨fun x k => ∃ n : Nat, k = n ∧ n ≤ all.length ∧ ((x = -1 ∧ ∀ (i : Nat) q, i < n → all[i]? = some q → now < q.at_) ∨ ∃ m : Nat, x = m ∧ m < all.length ∧ ∃ j ∈ js, all[m]? = some (toAsk j) ∧ j.asked ≤ now ∧ ∀ (i : Nat) p, i < n → all[i]? = some (toAsk p) → p.asked ≤ now → KLe j p), fun _ k => all.length - k.toNat, ⟨0, rfl, by omega, .inl ⟨rfl, fun i _ hi => absurd hi (Nat.not_lt_zero _)⟩⟩, ?_⟩, ?_⟩
            · rintro x _ ⟨n, rfl, hn, hx⟩
              refine ⟨fun h2 => ?_, fun h2 => ?_⟩
              · have h2 : n < all.length := by have := of_decide_eq_true h2; omega
                refine ⟨fun x => (x = -1 ∧ ∀ (i : Nat) q, i < n + 1 → all[i]? = some q → now < q.at_) ∨ ∃ m : Nat, x = m ∧ m < all.length ∧ ∃ j ∈ js, all[m]? = some (toAsk j) ∧ j.asked ≤ now ∧ ∀ (i : Nat) p, i < n + 1 → all[i]? = some (toAsk p) → p.asked ≤ now → KLe j p, ⟨by omega, fun q hq => ?_⟩, ?_⟩
                · rw [Int.toNat_natCast] at hq
                  obtain ⟨jq, hjq, rfl⟩ := hmem q (List.mem_of_getElem? hq)
                  have hlast : ∀ (i : Nat) (p : Job), i < n + 1 → all[i]? = some (toAsk p) → i < n ∨ toAsk p = toAsk jq := by
                    intro i p hi hpi
                    rcases Nat.lt_or_ge i n with hc | hc
                    · exact .inl hc
                    · have : i = n := by omega
                      subst this
                      rw [hq] at hpi
                      exact .inr (Option.some.inj hpi).symm
                  have hsame : ∀ p : Job, toAsk p = toAsk jq → p.task = jq.task ∧ p.from_ = jq.from_ ∧ p.asked = jq.asked := by
                    intro p hp
                    unfold toAsk at hp
                    simpa using hp
                  have htake : jq.asked ≤ now → (∀ (i : Nat) p, i < n → all[i]? = some (toAsk p) → p.asked ≤ now → KLe jq p) → ∃ m : Nat, ((n : Nat) : Int) = m ∧ m < all.length ∧ ∃ j ∈ js, all[m]? = some (toAsk j) ∧ j.asked ≤ now ∧ ∀ (i : Nat) p, i < n + 1 → all[i]? = some (toAsk p) → p.asked ≤ now → KLe j p := by
                    intro ha hb
                    refine ⟨n, rfl, h2, jq, hjq, hq, ha, fun i p hi hpi hpa => ?_⟩
                    rcases hlast i p hi hpi with hc | hc
                    · exact hb i p hc hpi hpa
                    · have := hsame p hc
                      unfold KLe
                      omega
                  refine ⟨fun h3 => ?_, fun h3 => ?_⟩
                  · have h3 : jq.asked ≤ now := of_decide_eq_true h3
                    refine ⟨fun h4 => ?_, fun h4 => ?_⟩
                    · have h4 := of_decide_eq_true h4
                      rcases hx with ⟨hx1, hx2⟩ | ⟨m, hx1, _⟩
                      · refine .inr (htake h3 fun i p hi hpi hpa => ?_)
                        have : now < p.asked := hx2 i _ hi hpi
                        omega
                      · omega
                    · have h4 := of_decide_eq_false h4
                      rcases hx with ⟨hx1, hx2⟩ | ⟨m, rfl, hm, jm, hjm, hjm2, hjm3, hjm4⟩
                      · omega
                      have hkeep : KLe jm jq → ∃ m' : Nat, ((m : Nat) : Int) = m' ∧ m' < all.length ∧ ∃ j ∈ js, all[m']? = some (toAsk j) ∧ j.asked ≤ now ∧ ∀ (i : Nat) p, i < n + 1 → all[i]? = some (toAsk p) → p.asked ≤ now → KLe j p := by
                        intro hk
                        refine ⟨m, rfl, hm, jm, hjm, hjm2, hjm3, fun i p hi hpi hpa => ?_⟩
                        rcases hlast i p hi hpi with hc | hc
                        · exact hjm4 i p hc hpi hpa
                        · have := hsame p hc
                          unfold KLe at hk ⊢
                          omega
                      have hnew : KLt jq jm → ∃ m : Nat, ((n : Nat) : Int) = m ∧ m < all.length ∧ ∃ j ∈ js, all[m]? = some (toAsk j) ∧ j.asked ≤ now ∧ ∀ (i : Nat) p, i < n + 1 → all[i]? = some (toAsk p) → p.asked ≤ now → KLe j p := by
                        intro hk
                        refine htake h3 fun i p hi hpi hpa => ?_
                        have := hjm4 i p hi hpi hpa
                        unfold KLe KLt at *
                        omega
                      refine ⟨by omega, fun q1 hq1 => ?_⟩
                      rw [Int.toNat_natCast] at hq1
                      have e1 : q1 = toAsk jm := by rw [hjm2] at hq1; exact (Option.some.inj hq1).symm
                      subst e1
                      refine ⟨fun h5 => ?_, fun h5 => ⟨by omega, fun q2 hq2 => ?_⟩⟩
                      · have h5 : jq.task < jm.task := of_decide_eq_true h5
                        exact .inr (hnew (.inl h5))
                      · rw [Int.toNat_natCast] at hq2
                        have e2 : q2 = toAsk jm := by rw [hjm2] at hq2; exact (Option.some.inj hq2).symm
                        subst e2
                        have h5 : ¬ jq.task < jm.task := of_decide_eq_false h5
                        refine ⟨fun h6 => ⟨by omega, fun q3 hq3 => ?_⟩, fun h6 => ?_⟩
                        · rw [Int.toNat_natCast] at hq3
                          have e3 : q3 = toAsk jm := by rw [hjm2] at hq3; exact (Option.some.inj hq3).symm
                          subst e3
                          have h6 : jq.task = jm.task := by simpa [toAsk] using h6
                          refine ⟨fun h7 => ?_, fun h7 => ?_⟩
                          · have h7 : jq.from_ < jm.from_ := of_decide_eq_true h7
                            exact .inr (hnew (.inr ⟨h6, h7⟩))
                          · have h7 : ¬ jq.from_ < jm.from_ := of_decide_eq_false h7
                            refine .inr (hkeep ?_)
                            unfold KLe
                            omega
                        · have h6 : ¬ jq.task = jm.task := by simpa [toAsk] using h6
                          refine .inr (hkeep ?_)
                          unfold KLe
                          omega
                  · have h3 : ¬ jq.asked ≤ now := of_decide_eq_false h3
                    rcases hx with ⟨hx1, hx2⟩ | ⟨m, rfl, hm, jm, hjm, hjm2, hjm3, hjm4⟩
                    · refine .inl ⟨hx1, fun i q hi hqi => ?_⟩
                      obtain ⟨p, _, rfl⟩ := hmem q (List.mem_of_getElem? hqi)
                      rcases hlast i p hi hqi with hc | hc
                      · exact hx2 i _ hc hqi
                      · have := hsame p hc
                        show now < p.asked
                        omega
                    · refine .inr ⟨m, rfl, hm, jm, hjm, hjm2, hjm3, fun i p hi hpi hpa => ?_⟩
                      rcases hlast i p hi hpi with hc | hc
                      · exact hjm4 i p hc hpi hpa
                      · have := hsame p hc
                        omega
                · intro x hx
                  rw [w64_succ n (by omega)]
                  exact ⟨⟨n + 1, rfl, by omega, hx⟩, by (try dsimp only); omega⟩
              · have h2 : n = all.length := by have := of_decide_eq_false h2; omega
                subst h2
                rcases hx with ⟨hx1, hx2⟩ | ⟨m, rfl, hm, jm, hjm, hjm2, hjm3, hjm4⟩
                · obtain ⟨i, hi, he⟩ := List.mem_iff_getElem.1 (hmem2 j0 hj0)
                  have := hx2 i _ hi (List.getElem?_eq_getElem hi)
                  rw [he] at this
                  have : now < j0.asked := this
                  omega
                · refine ⟨m, rfl, hm, jm, hjm2, hjm, hjm3, fun k hk hka => ?_⟩
                  obtain ⟨i, hi, he⟩ := List.mem_iff_getElem.1 (hmem2 k hk)
                  exact hjm4 i k hi (by rw [List.getElem?_eq_getElem hi, he]) hka
            · rintro _ ⟨m, rfl, hm, j, hj, hbest⟩
              refine ⟨by omega, fun q hq => ?_⟩
              rw [Int.toNat_natCast, hj] at hq
              cases hq
              have hjo := hok j hbest.1
              obtain ⟨p, hp1, hp2⟩ := bestF_best now js _ 0 0 rfl (by omega) ⟨j0, by rw [hr]; rfl, by omega, fun k _ hk => absurd hk (Nat.not_lt_zero _)⟩
              rw [List.drop_zero] at hp1
              have hpj : p = j := best_one hinj hp2 hbest
              subst hpj
              have hstep := playL_step l js j0 r hr out free (bestF now js js 0 0) (by rw [hnow]) p hp1
              rw [hnow] at hstep
              generalize bestF now js js 0 0 = b at hp1 hstep
              have hb : b < js.length := (List.getElem?_eq_some_iff.1 hp1).1
              rw [w64_succ m (by omega)]
              have hdl : adelS all (m : Int) ((m + 1 : Nat) : Int) = all.take m ++ all.drop (m + 1) := by unfold adelS; rw [Int.toNat_natCast, Int.toNat_natCast]
              have hdn : (all.take m ++ all.drop (m + 1)).length = all.length - 1 := by rw [List.length_append, List.length_take, List.length_drop]; omega
              have hbn : (js.take b ++ js.drop (b + 1)).length = js.length - 1 := by rw [List.length_append, List.length_take, List.length_drop]; omega
              have hsub : (js.take b ++ js.drop (b + 1)).Sublist js := by
                rw [← List.eraseIdx_eq_take_drop_succ]
                exact List.eraseIdx_sublist _ _
              have hnow2 : 0 ≤ now ∧ now ≤ 3000000 + 1000 * (out.length : Int) := by
                have := hj0o.2.2
                omega
              rw [hdl]
              refine ⟨by omega, fun _ => ⟨⟨hjo.1, hjo.2.1⟩, fun t ht => ?_⟩⟩
              have htk := tok_spec (htok t (List.mem_of_getElem? ht))
              obtain ⟨lt1, lt2, lt3⟩ := ltakes_long (j := p) htok ht
              refine ⟨by omega, by omega, ⟨hjo.1, hjo.2.1⟩, fun t2 ht2 => ?_⟩
              rw [ht] at ht2
              cases ht2
              refine ⟨by omega, ?_⟩
              rw [lt1, w64_eq _ (by omega)]
              refine ⟨⟨_, del_perm toAsk hp hj hp1, fun k hk => hok k (hsub.subset hk), fun a ha b hb => hinj a (hsub.subset ha) b (hsub.subset hb), hsrt.sublist hsub, by rw [hbn]; simp; omega, by omega, by simp; omega, ?_⟩, by (try dsimp only); rw [hdn]; omega⟩
              rw [hbn, ← hpl, hstep, Int.add_assoc now]
              rfl
        · have h1 : js = [] := by
            have := of_decide_eq_false h1
            exact List.eq_nil_of_length_eq_zero (by omega)
          subst h1
          exact hpl
    · rintro out rfl
      simp [sleqS]

end Go.Proofs.YtginlmgkimfjmaaDoor
