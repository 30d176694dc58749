/- Texts put together (pure ones, or walks made by program). -/
import Derived.Test.YtginlmgkimfjmaaKb0
import Derived.Test.YtginlmgkimfjmaaKb1
set_option linter.unusedVariables false
set_option linter.unusedSimpArgs false
namespace Go.Proofs.Ytginlmgkimfjmaa
open Go.Sy Go.RowKit
def LBound_vc (u0 : List Task) (u1 : List Int) (u2 : List Int) (u3 : Int) (K : Bool → Prop) : Prop :=
  (u0.length ≤ 140737488355328 →
    (u1.length ≤ 140737488355328 →
    (u2.length ≤ 140737488355328 →
    ((playS u0 u1 u2 u3).1.length ≤ 140737488355328 →
    ((((playS u0 u1 u2 u3).2 != 0) = true →
      (K true)) ∧
    (((playS u0 u1 u2 u3).2 != 0) = false →
      ((swaitsS u0 (playS u0 u1 u2 u3).1).1.length ≤ 140737488355328 →
      ((((swaitsS u0 (playS u0 u1 u2 u3).1).2 != 0) = true →
        (K ((swaitsS u0 (playS u0 u1 u2 u3).1).2 == 3))) ∧
      (((swaitsS u0 (playS u0 u1 u2 u3).1).2 != 0) = false →
        ((WorstS u0).1.length ≤ 140737488355328 →
        (((((WorstS u0).2 != 0) || (((WorstS u0).1.length : Int) != ((swaitsS u0 (playS u0 u1 u2 u3).1).1.length : Int))) = true →
          (K false)) ∧
        ((((WorstS u0).2 != 0) || (((WorstS u0).1.length : Int) != ((swaitsS u0 (playS u0 u1 u2 u3).1).1.length : Int))) = false →
          (∃ inv172 : Int → Prop, ∃ mu172 : Int → Nat, inv172 0 ∧
          (∀ (x55 : Int), inv172 x55 →
          (((decide (x55 < ((swaitsS u0 (playS u0 u1 u2 u3).1).1.length : Int))) = true →
            (∃ inv191 : Prop,
            ((0 ≤ x55 ∧ x55 < ((WorstS u0).1.length : Int)) ∧
            (∀ q230, (WorstS u0).1[x55.toNat]? = some q230 →
            (((decide (q230.Wait ≥ 0)) = true →
              ((0 ≤ x55 ∧ x55 < ((swaitsS u0 (playS u0 u1 u2 u3).1).1.length : Int)) ∧
              (∀ q255, (swaitsS u0 (playS u0 u1 u2 u3).1).1[x55.toNat]? = some q255 →
              ((0 ≤ x55 ∧ x55 < ((WorstS u0).1.length : Int)) ∧
              (∀ q275, (WorstS u0).1[x55.toNat]? = some q275 →
              (((decide (q255 > q275.Wait)) = true →
                (K false)) ∧
              ((decide (q255 > q275.Wait)) = false →
                inv191))))))) ∧
            ((decide (q230.Wait ≥ 0)) = false →
              inv191)))) ∧
            (inv191 →
              (inv172 (w64 (x55 + 1)) ∧ mu172 (w64 (x55 + 1)) < mu172 x55)))) ∧
          ((decide (x55 < ((swaitsS u0 (playS u0 u1 u2 u3).1).1.length : Int))) = false →
            (K true)))))))))))))))))

/-! Pure proofs: no program in sight. -/
theorem insC_perm {α : Type} (cmp : α → α → Int) (a : α) (s : List α) : (insC cmp a s).Perm (a :: s) := by
  induction s with
  | nil => exact List.Perm.refl _
  | cons b r ih =>
    rw [insC]
    split
    · exact List.Perm.refl _
    · exact (ih.cons b).trans (List.Perm.swap a b r)
theorem sortC_perm {α : Type} (cmp : α → α → Int) (l : List α) : (sortC cmp l).Perm l := by
  have key : ∀ (l s : List α), (l.foldl (fun s x => insC cmp x s) s).Perm (l ++ s) := by
    intro l
    induction l with
    | nil => intro s; exact List.Perm.refl _
    | cons a r ih =>
      intro s
      rw [List.foldl_cons]
      refine (ih _).trans ?_
      refine ((insC_perm cmp a s).append_left r).trans ?_
      exact List.perm_middle
  have := key l []
  rwa [List.append_nil] at this
/-- Ahead, of those that were asked for. -/
def KLe (a b : Job) : Prop := a.task < b.task ∨ a.task = b.task ∧ a.from_ ≤ b.from_
def KLt (a b : Job) : Prop := a.task < b.task ∨ a.task = b.task ∧ a.from_ < b.from_
def IsBest (js : List Job) (now : Int) (j : Job) : Prop := j ∈ js ∧ j.asked ≤ now ∧ ∀ k ∈ js, k.asked ≤ now → KLe j k
def Inj (js : List Job) : Prop := ∀ a ∈ js, ∀ b ∈ js, a.task = b.task → a.from_ = b.from_ → a = b
theorem best_one {js : List Job} {now : Int} {i j : Job} (hI : Inj js) (hi : IsBest js now i) (hj : IsBest js now j) : i = j := by
  have h1 := hi.2.2 j hj.1 hj.2.1
  have h2 := hj.2.2 i hi.1 hi.2.1
  unfold KLe at h1 h2
  exact hI i hi.1 j hj.1 (by omega) (by omega)
theorem ahead_iff (a b : Job) (now : Int) : ahead a b now = true ↔ a.asked ≤ now ∧ KLt a b := by
  unfold ahead KLt
  simp only [Bool.and_eq_true, Bool.or_eq_true, decide_eq_true_eq, beq_iff_eq]
theorem bestF_best (now : Int) (jobs : List Job) : ∀ (n i b : Nat), jobs.length - i = n → i ≤ jobs.length → (∃ p, jobs[b]? = some p ∧ p.asked ≤ now ∧ ∀ (k : Nat) (q : Job), k < i → jobs[k]? = some q → q.asked ≤ now → KLe p q) →
    ∃ p, jobs[bestF now jobs (jobs.drop i) i b]? = some p ∧ IsBest jobs now p := by
  intro n
  induction n with
  | zero =>
    rintro i b h1 h2 ⟨p, hp, ha, hq⟩
    have : i = jobs.length := by omega
    subst this
    rw [List.drop_length, bestF]
    refine ⟨p, hp, List.mem_of_getElem? hp, ha, fun q hm hqa => ?_⟩
    obtain ⟨k, hk, rfl⟩ := List.mem_iff_getElem.1 hm
    exact hq k _ hk (List.getElem?_eq_getElem hk) hqa
  | succ n ih =>
    rintro i b h1 h2 ⟨p, hp, ha, hq⟩
    have hi : i < jobs.length := by omega
    rw [List.drop_eq_getElem_cons hi, bestF, hp, Option.getD_some]
    by_cases h3 : ahead jobs[i] p now = true
    · rw [if_pos h3]
      have h4 := (ahead_iff _ _ _).1 h3
      refine ih (i + 1) i (by omega) (by omega) ⟨jobs[i], List.getElem?_eq_getElem hi, h4.1, fun k q hk hkq hqa => ?_⟩
      rcases Nat.lt_or_ge k i with hc | hc
      · have h5 := hq k q hc hkq hqa
        have h6 := h4.2
        unfold KLe KLt at *
        omega
      · have : k = i := by omega
        subst this
        rw [List.getElem?_eq_getElem hi] at hkq
        cases hkq
        unfold KLe
        omega
    · rw [if_neg h3]
      refine ih (i + 1) b (by omega) (by omega) ⟨p, hp, ha, fun k q hk hkq hqa => ?_⟩
      rcases Nat.lt_or_ge k i with hc | hc
      · exact hq k q hc hkq hqa
      · have : k = i := by omega
        subst this
        rw [List.getElem?_eq_getElem hi] at hkq
        cases hkq
        have h5 : ¬ KLt jobs[k] p := fun hc => h3 ((ahead_iff _ _ _).2 ⟨hqa, hc⟩)
        unfold KLe KLt at *
        omega
/-- The jobs of one task, one of them. -/
theorem genT_step {i : Int} {t : Task} {later : List Int} {e a k : Int} {n : Nat} {js : List Job} (h : a < e) :
    genT i t later e (n + 1) a js k = if 0 < later.length ∧ 0 < t.Jitter then
        (match later[(k.tmod (later.length : Int)).toNat]? with
        | none => .error 3
        | some v => if v < 0 then .error 3 else if 1000 < (js ++ [(⟨i, a, a + v.tmod (t.Jitter + 1)⟩ : Job)]).length then .error 2 else genT i t later e n (a + t.Every) (js ++ [⟨i, a, a + v.tmod (t.Jitter + 1)⟩]) (k + 1))
      else if 1000 < (js ++ [(⟨i, a, a⟩ : Job)]).length then .error 2 else genT i t later e n (a + t.Every) (js ++ [⟨i, a, a⟩]) k := by
  rw [genT, if_pos h]
  rfl
def contA (later : List Int) (e : Int) (z : List (Task × Int)) (n : Int) (r : Except Int (List Job × Int)) : Except Int (List Job) := match r with
  | .error x => .error x
  | .ok q => genA later e z n q.1 q.2
theorem genA_cons (later : List Int) (e : Int) (t : Task) (f : Int) (r : List (Task × Int)) (i : Int) (jobs : List Job) (k : Int) :
    genA later e ((t, f) :: r) i jobs k = if f < 0 ∨ 1000000 < f then .error 3 else contA later e r (i + 1) (genT i t later e (1001 - jobs.length) f jobs k) := by
  rw [genA]
  rfl
def playR (l : List Task) (R : Except Int (List Job)) : List Slot × Int := match R with
  | .error x => ([], x)
  | .ok jobs => (playL l jobs.length (sortC (fun a b => cmpj a b) jobs) [] 0, 0)
theorem playS_eq {l : List Task} {first later : List Int} {e : Int} (h1 : dcheckS l = 0) (h2 : ¬ (first.length ≠ l.length ∨ 1000 < later.length ∨ e < 0 ∨ 1000000 < e)) : playS l first later e = playR l (genA later e (l.zip first) 0 [] 0) := by
  unfold playS
  rw [if_neg (fun h => h h1), if_neg h2]
  rfl
theorem playL_step (l : List Task) (js : List Job) (j0 : Job) (r : List Job) (hr : js = j0 :: r) (out : List Slot) (now : Int) (b : Nat) (hb : b = bestF (max now j0.asked) js js 0 0) (q : Job) (hq : js[b]? = some q) :
    playL l js.length js out now = playL l (js.length - 1) (js.take b ++ js.drop (b + 1)) (out ++ [⟨q.task, q.from_, max now j0.asked, max now j0.asked + longJ l q + 3⟩]) (max now j0.asked + longJ l q + 3) := by
  have e : playL l js.length js out now = (fun now2 => (fun b => (fun j => playL l (js.length - 1) (js.take b ++ js.drop (b + 1)) (out ++ [⟨j.task, j.from_, now2, now2 + longJ l j + 3⟩]) (now2 + longJ l j + 3)) (js[b]?.getD default)) (bestF now2 js js 0 0)) (if j0.asked > now then j0.asked else now) := by
    rw [hr, List.length_cons, playL]
    rfl
  have hn : (if j0.asked > now then j0.asked else now) = max now j0.asked := by split <;> omega
  rw [e, hn]
  dsimp only
  rw [← hb, hq, Option.getD_some]
/-! ### How often tasks ask, and what that takes -/
def Cj (l : List Task) (j : Job) : Int := dlongS (l[j.task.toNat]?.getD nil_task)
def Tj (l : List Task) (j : Job) : Int := (l[j.task.toNat]?.getD nil_task).Every
def Jj (l : List Task) (j : Job) : Int := (l[j.task.toNat]?.getD nil_task).Jitter
/-- What went, one after the other: the jobs, and when each began. -/
structure Tr (l : List Task) (N : Nat) (J : Nat → Job) (st : Nat → Int) : Prop where
  ok : ∀ a, a < N → 0 ≤ (J a).task ∧ (J a).task < (l.length : Int) ∧ (J a).from_ ≤ (J a).asked ∧ (J a).asked ≤ (J a).from_ + Jj l (J a)
  gap : ∀ a b, a < b → b < N → (J a).task = (J b).task → (J a).from_ + Tj l (J a) ≤ (J b).from_
  beg : ∀ a, a < N → st 0 ≤ (J a).asked
  start : ∀ a, a < N → (J a).asked ≤ st a
  next : ∀ a, a + 1 < N → st (a + 1) = st a + Cj l (J a) ∨ (∀ b, a + 1 ≤ b → b < N → st (a + 1) ≤ (J b).asked)
  best : ∀ a b, a ≤ b → b < N → (J b).asked ≤ st a → (J a).task ≤ (J b).task
section bound
variable {l : List Task} {N : Nat} {J : Nat → Job} {st : Nat → Int}
def sumC (l : List Task) (J : Nat → Job) : List Nat → Int
  | [] => 0
  | a :: r => Cj l (J a) + sumC l J r
theorem sumC_append (l : List Task) (J : Nat → Job) (x y : List Nat) : sumC l J (x ++ y) = sumC l J x + sumC l J y := by
  induction x with
  | nil => simp [sumC]
  | cons a r ih => rw [List.cons_append, sumC, sumC, ih]; omega
def cnt (J : Nat → Job) (o : Int) (is : List Nat) : Nat := (is.filter fun a => decide ((J a).task = o)).length
def sumN (l : List Task) (J : Nat → Job) (is : List Nat) : Nat → Int
  | 0 => 0
  | n + 1 => sumN l J is n + (cnt J n is : Int) * dlongS (l[n]?.getD nil_task)
theorem sumN_cons (is : List Nat) (a : Nat) (h0 : 0 ≤ (J a).task) : ∀ n : Nat, sumN l J (a :: is) n = sumN l J is n + (if (J a).task < (n : Int) then Cj l (J a) else 0) := by
  intro n
  induction n with
  | zero => rw [sumN, sumN, if_neg (by omega)]; omega
  | succ n ih =>
    rw [sumN, sumN, ih]
    have hc : cnt J (n : Int) (a :: is) = cnt J (n : Int) is + (if (J a).task = (n : Int) then 1 else 0) := by
      unfold cnt
      rw [List.filter_cons]
      by_cases h : (J a).task = (n : Int)
      · simp [h]
      · simp [h]
    rw [hc]
    by_cases h : (J a).task = (n : Int)
    · rw [if_pos h, if_neg (by omega), if_pos (by omega)]
      have e : Cj l (J a) = dlongS (l[n]?.getD nil_task) := by unfold Cj; rw [h, Int.toNat_natCast]
      rw [e, show ((cnt J (n : Int) is + 1 : Nat) : Int) = (cnt J (n : Int) is : Int) + 1 by omega, Int.add_mul, Int.one_mul]
      omega
    · rw [if_neg h, Nat.add_zero]
      by_cases h2 : (J a).task < (n : Int)
      · rw [if_pos h2, if_pos (by omega)]; omega
      · rw [if_neg h2, if_neg (by omega)]; omega
theorem sumC_eq (is : List Nat) (n : Nat) (h : ∀ a ∈ is, 0 ≤ (J a).task ∧ (J a).task < (n : Int)) : sumC l J is = sumN l J is n := by
  induction is with
  | nil =>
    clear h
    induction n with
    | zero => rfl
    | succ n ih => rw [sumN, ← ih]; simp [sumC, cnt]
  | cons a r ih =>
    have ha := h a (by simp)
    rw [sumC, ih fun b hb => h b (by simp [hb]), sumN_cons r a ha.1 n, if_pos ha.2]
    omega
/-- Those of one task lie apart. -/
theorem chain (H : Tr l N J st) (o : Int) (t : Task) (ht : l[o.toNat]? = some t) : ∀ (is : List Nat) (a b : Nat), (a :: is ++ [b]).Pairwise (· < ·) → b < N → (∀ x ∈ a :: is ++ [b], (J x).task = o) → (J a).from_ + ((is.length : Int) + 1) * t.Every ≤ (J b).from_ := by
  have hT : ∀ x, (J x).task = o → Tj l (J x) = t.Every := fun x hx => by unfold Tj; rw [hx, ht]; rfl
  intro is
  induction is with
  | nil =>
    intro a b hp hb ho
    have h1 : a < b := by simpa using hp
    have e1 := ho a (by simp)
    have e2 := ho b (by simp)
    have := H.gap a b h1 hb (by omega)
    rw [hT a e1] at this
    simp only [List.length_nil]
    omega
  | cons c r ih =>
    intro a b hp hb ho
    have hp' : (a :: (c :: r ++ [b])).Pairwise (· < ·) := hp
    obtain ⟨p1, p2⟩ := List.pairwise_cons.1 hp'
    have h2 := ih c b p2 hb (fun x hx => ho x (by simp only [List.cons_append, List.mem_cons] at hx ⊢; exact .inr hx))
    have h1 : a < c := p1 c (by simp)
    have hcb : c < b := by
      have := (List.pairwise_cons.1 (show (c :: (r ++ [b])).Pairwise (· < ·) from p2)).1 b (by simp)
      exact this
    have e1 := ho a (by simp)
    have e2 := ho c (by simp)
    have := H.gap a c h1 (by omega) (by omega)
    rw [hT a e1] at this
    rw [List.length_cons]
    have e : (((r.length + 1 : Nat) : Int) + 1) * t.Every = ((r.length : Int) + 1) * t.Every + t.Every := by rw [show ((r.length + 1 : Nat) : Int) + 1 = ((r.length : Int) + 1) + 1 by omega, Int.add_mul ((r.length : Int) + 1), Int.one_mul]
    omega
/-- .. so only so many within a while. -/
theorem few (H : Tr l N J st) (o : Int) (t : Task) (ht : l[o.toNat]? = some t) (htok : tok t = true) (is : List Nat) (hp : is.Pairwise (· < ·)) (hN : ∀ a ∈ is, a < N) (A B : Int) (hA : ∀ a ∈ is, (J a).task = o → A ≤ (J a).from_ ∧ (J a).from_ ≤ B) (hAB : A ≤ B + 1) : (cnt J o is : Int) ≤ (B - A + t.Every) / t.Every := by
  have hs := tok_spec htok
  unfold cnt
  generalize hys : is.filter (fun a => decide ((J a).task = o)) = ys
  have hyp : ys.Pairwise (· < ·) := by rw [← hys]; exact hp.sublist List.filter_sublist
  have hym : ∀ a ∈ ys, a ∈ is ∧ (J a).task = o := fun a ha => by rw [← hys] at ha; simpa using ha
  cases ys with
  | nil =>
    simp only [List.length_nil]
    exact Int.ediv_nonneg (by omega) (by omega)
  | cons a r =>
    rcases List.eq_nil_or_concat r with hr | ⟨z, b, hr⟩
    · subst hr
      have h1 := hA a (hym a (by simp)).1 (hym a (by simp)).2
      have : 1 * t.Every ≤ B - A + t.Every := by omega
      exact (Int.le_ediv_iff_mul_le (by omega)).2 (by simpa using this)
    · have hr : r = z ++ [b] := by rw [hr, List.concat_eq_append]
      subst hr
      have h1 := hA a (hym a (by simp)).1 (hym a (by simp)).2
      have h2 := hA b (hym b (by simp)).1 (hym b (by simp)).2
      have h3 := chain H o t ht z a b hyp (hN b (hym b (by simp)).1) (fun x hx => (hym x hx).2)
      refine (Int.le_ediv_iff_mul_le (by omega)).2 ?_
      rw [List.length_cons, List.length_append, List.length_singleton, show ((z.length + 1 + 1 : Nat) : Int) = ((z.length : Int) + 1) + 1 by omega, Int.add_mul ((z.length : Int) + 1), Int.one_mul]
      omega
theorem few_true (H : Tr l N J st) (htok : ∀ o ∈ l, tok o = true) (is : List Nat) (hp : is.Pairwise (· < ·)) (hN : ∀ a ∈ is, a < N) (t0 W : Int) (hW : 0 ≤ W) (hw : ∀ a ∈ is, t0 ≤ (J a).asked ∧ (J a).asked ≤ t0 + W) :
    ∀ n : Nat, n ≤ l.length → sumN l J is n ≤ sumA W true (l.take n) := by
  intro n
  induction n with
  | zero => intro _; simp [sumN, sumA]
  | succ n ih =>
    intro hn
    have hlt : n < l.length := hn
    have ht := List.getElem?_eq_getElem hlt
    rw [sumN, List.take_add_one, ht, sumA_append]
    have h1 := ih (by omega)
    have htk := htok _ (List.mem_of_getElem? ht)
    have hs := tok_spec htk
    have hd := dlongS_eq htk
    have h2 := few H (n : Int) l[n] (by simp) htk is hp hN (t0 - l[n].Jitter) (t0 + W) (fun a ha ho => by
      have h3 := H.ok a (hN a ha)
      have h4 := hw a ha
      have e : Jj l (J a) = l[n].Jitter := by unfold Jj; rw [ho, Int.toNat_natCast, ht]; rfl
      rw [e] at h3
      omega) (by omega)
    have e : t0 + W - (t0 - l[n].Jitter) + l[n].Every = (W + l[n].Jitter) + 1 * l[n].Every := by omega
    rw [e, Int.add_mul_ediv_right _ _ (by omega)] at h2
    have h3 : (cnt J (n : Int) is : Int) * dlongS l[n] ≤ asksV W true l[n] * dlongS l[n] := by
      refine Int.mul_le_mul_of_nonneg_right ?_ (by omega)
      unfold asksV
      rw [if_pos rfl]
      exact h2
    simp only [Option.getD_some, Option.toList_some, sumA]
    omega
theorem few_false (H : Tr l N J st) (htok : ∀ o ∈ l, tok o = true) (is : List Nat) (hp : is.Pairwise (· < ·)) (hN : ∀ a ∈ is, a < N) (t0 L : Int) (hL : 1 ≤ L) (hw : ∀ a ∈ is, t0 ≤ (J a).asked ∧ (J a).asked < t0 + L) :
    ∀ n : Nat, n ≤ l.length → sumN l J is n ≤ sumA L false (l.take n) := by
  intro n
  induction n with
  | zero => intro _; simp [sumN, sumA]
  | succ n ih =>
    intro hn
    have hlt : n < l.length := hn
    have ht := List.getElem?_eq_getElem hlt
    rw [sumN, List.take_add_one, ht, sumA_append]
    have h1 := ih (by omega)
    have htk := htok _ (List.mem_of_getElem? ht)
    have hs := tok_spec htk
    have hd := dlongS_eq htk
    have h2 := few H (n : Int) l[n] (by simp) htk is hp hN (t0 - l[n].Jitter) (t0 + L - 1) (fun a ha ho => by
      have h3 := H.ok a (hN a ha)
      have h4 := hw a ha
      have e : Jj l (J a) = l[n].Jitter := by unfold Jj; rw [ho, Int.toNat_natCast, ht]; rfl
      rw [e] at h3
      omega) (by omega)
    have e : t0 + L - 1 - (t0 - l[n].Jitter) + l[n].Every = L + l[n].Jitter + l[n].Every - 1 := by omega
    rw [e] at h2
    have h3 : (cnt J (n : Int) is : Int) * dlongS l[n] ≤ asksV L false l[n] * dlongS l[n] := by
      refine Int.mul_le_mul_of_nonneg_right ?_ (by omega)
      unfold asksV
      rw [if_neg (by simp)]
      exact h2
    simp only [Option.getD_some, Option.toList_some, sumA]
    omega
/-- The bus is at rest, or taken by one behind: those ahead that are left ask from then on. -/
def Beg (l : List Task) (N : Nat) (J : Nat → Job) (st : Nat → Int) (i b : Int) (p : Nat) (t0 : Int) : Prop := st p ≤ t0 + b ∧ ∀ k, p ≤ k → k < N → (J k).task ≤ i → t0 ≤ (J k).asked
theorem last_beg (H : Tr l N J st) (i b : Int) (hb : 0 ≤ b) : ∀ m, m < N → ∃ p, p ≤ m ∧ (∃ t0, Beg l N J st i b p t0) ∧ ∀ k, p < k → k ≤ m → ¬ ∃ t0, Beg l N J st i b k t0 := by
  intro m
  induction m with
  | zero => intro hN; exact ⟨0, Nat.le_refl _, ⟨st 0, by omega, fun k _ hk _ => H.beg k hk⟩, fun k h1 h2 => by omega⟩
  | succ m ih =>
    intro hN
    rcases Classical.em (∃ t0, Beg l N J st i b (m + 1) t0) with h | h
    · exact ⟨m + 1, Nat.le_refl _, h, fun k h1 h2 => by omega⟩
    · obtain ⟨p, h1, h2, h3⟩ := ih (by omega)
      refine ⟨p, by omega, h2, fun k hk1 hk2 => ?_⟩
      rcases Nat.lt_or_ge k (m + 1) with hc | hc
      · exact h3 k hk1 (by omega)
      · have : k = m + 1 := by omega
        subst this
        exact h
theorem block_ge (l : List Task) (htok : ∀ o ∈ l, tok o = true) (i : Int) (hi : 0 ≤ i) (n : Nat) (t : Task) (ht : l[n]? = some t) (hn : i < (n : Int)) : dlongS t ≤ blockS l i := by
  unfold blockS
  have key : ∀ (ts : List Task) (b : Int), b ≤ ts.foldl (fun b o => max b (dlongS o)) b ∧ ∀ x ∈ ts, dlongS x ≤ ts.foldl (fun b o => max b (dlongS o)) b := by
    intro ts
    induction ts with
    | nil => intro b; exact ⟨Int.le_refl _, fun x hx => by simp at hx⟩
    | cons o r ih =>
      intro b
      obtain ⟨h1, h2⟩ := ih (max b (dlongS o))
      rw [List.foldl_cons]
      refine ⟨by omega, fun x hx => ?_⟩
      rcases List.mem_cons.1 hx with rfl | hx
      · omega
      · exact h2 x hx
  refine (key _ 0).2 t ?_
  rw [List.mem_iff_getElem?]
  exact ⟨n - (i + 1).toNat, by rw [List.getElem?_drop, show (i + 1).toNat + (n - (i + 1).toNat) = n by omega]; exact ht⟩
/-- Behind the last beginning the bus is taken by those ahead, without a rest; one of them is always waiting. -/
theorem within (H : Tr l N J st) (htok : ∀ o ∈ l, tok o = true) {i : Int} (hi : 0 ≤ i) {p m : Nat} (hm : m < N) (hno : ∀ k, p < k → k ≤ m → ¬ ∃ t0, Beg l N J st i (blockS l i) k t0) (k : Nat) (hk : p ≤ k) (hkm : k < m) :
    (J k).task ≤ i ∧ st (k + 1) = st k + Cj l (J k) ∧ ∃ x, k + 1 ≤ x ∧ x < N ∧ (J x).task ≤ i ∧ (J x).asked < st (k + 1) := by
  have hn := hno (k + 1) (by omega) (by omega)
  have hb := (blockS_bound l htok i).1
  have hcont : st (k + 1) = st k + Cj l (J k) := by
    rcases H.next k (by omega) with h | h
    · exact h
    · exact absurd ⟨st (k + 1), by omega, fun y h1 h2 _ => h y h1 h2⟩ hn
  refine ⟨?_, hcont, ?_⟩
  · rcases Int.lt_or_le i (J k).task with h | h
    · exfalso
      have ho := H.ok k (by omega)
      have hlt : (J k).task.toNat < l.length := by omega
      have ht := List.getElem?_eq_getElem hlt
      have hC : Cj l (J k) ≤ blockS l i := by
        unfold Cj
        rw [ht]
        exact block_ge l htok i hi _ _ ht (by omega)
      refine hn ⟨st k + 1, by omega, fun y h1 h2 h3 => ?_⟩
      rcases Int.lt_or_le (st k) (J y).asked with h4 | h4
      · omega
      · have := H.best k y (by omega) h2 h4
        omega
    · exact h
  · rcases Classical.em (∃ x, k + 1 ≤ x ∧ x < N ∧ (J x).task ≤ i ∧ (J x).asked < st (k + 1)) with h | h
    · exact h
    · exact absurd ⟨st (k + 1), by omega, fun y h1 h2 h3 => by
        rcases Int.lt_or_le (J y).asked (st (k + 1)) with h4 | h4
        · exact absurd ⟨y, h1, h2, h3, h4⟩ h
        · exact h4⟩ hn
theorem seg_sum (l : List Task) (J : Nat → Job) (st : Nat → Int) (p : Nat) : ∀ k, (∀ d, d < k → st (p + d + 1) = st (p + d) + Cj l (J (p + d))) → st (p + k) = st p + sumC l J (List.range' p k) := by
  intro k
  induction k with
  | zero => intro _; simp [sumC]
  | succ k ih =>
    intro h
    have h1 := ih fun d hd => h d (by omega)
    have h2 := h k (by omega)
    rw [List.range'_1_concat, sumC_append]
    simp only [sumC]
    rw [show p + (k + 1) = p + k + 1 by omega, h2, h1]
    omega
theorem range'_lt (p k : Nat) : (List.range' p k).Pairwise (· < ·) := List.pairwise_lt_range'
theorem cnt_append (o : Int) (x y : List Nat) : cnt J o (x ++ y) = cnt J o x + cnt J o y := by unfold cnt; rw [List.filter_append, List.length_append]
/-- None waits longer than is told. -/
theorem bound_at (H : Tr l N J st) (hl : l.length ≤ 20) (htok : ∀ o ∈ l, tok o = true) {m : Nat} (hm : m < N) (hw : 0 ≤ worstS l (J m).task) : st m + Cj l (J m) - (J m).from_ ≤ worstS l (J m).task := by
  have ho := H.ok m hm
  generalize hi : (J m).task = i at *
  have hlt : i.toNat < l.length := by omega
  have ht := List.getElem?_eq_getElem hlt
  generalize l[i.toNat] = t at ht
  have R : Rt l i t := ⟨hl, htok, ho.1, ht⟩
  have hbb := blockS_bound l htok i
  have hd := dlongS_eq R.tok
  have htk := tok_spec R.tok
  have hS : worstS l i = worstB (blockS l i) l i t := by unfold worstS; rw [ht]; rfl
  rw [hS] at hw ⊢
  have hp : ¬ busyB (blockS l i) l i t < 0 := by
    intro hc
    unfold worstB at hw
    rw [if_pos hc] at hw
    omega
  obtain ⟨k1, k2, k3⟩ := busy_at R hbb hp
  have hN := dasksS_eq R.tok (x := busyB (blockS l i) l i t) (by omega) false
  have hWS : worstB (blockS l i) l i t = bestQ (blockS l i) l i t (asksV (busyB (blockS l i) l i t) false t).toNat := by
    unfold worstB
    rw [if_neg hp, hN]
  rw [hWS]
  generalize hLL : busyB (blockS l i) l i t = L at *
  have hNb := asksV_bound R.tok (x := L) (by omega) false
  obtain ⟨p, hpm, ⟨t0, hst, hask⟩, hno⟩ := last_beg H i (blockS l i) hbb.1 m hm
  have hin := fun k hk hkm => within H htok ho.1 hm hno k hk hkm
  have hsum : ∀ k, p ≤ k → k ≤ m → st k = st p + sumC l J (List.range' p (k - p)) := by
    intro k h1 h2
    have := seg_sum l J st p (k - p) fun d hd => by
      have := (hin (p + d) (by omega) (by omega)).2.1
      exact this
    rwa [show p + (k - p) = k by omega] at this
  have hmem : ∀ k, k ≤ m → ∀ a ∈ List.range' p (k - p), p ≤ a ∧ a < k := by
    intro k hk a ha
    have := List.mem_range'_1.1 ha
    omega
  have htl : (i + 1).toNat = i.toNat + 1 := by omega
  have hhp : ∀ k, k ≤ m → ∀ a ∈ List.range' p (k - p), 0 ≤ (J a).task ∧ (J a).task < ((i.toNat + 1 : Nat) : Int) := by
    intro k hk a ha
    have h1 := hmem k hk a ha
    have h2 := (hin a h1.1 (by omega)).1
    have h3 := (H.ok a (by omega)).1
    omega
  -- all of it is within the time that the bus is never at rest
  have hA : ∀ n k, k - p = n → p ≤ k → k ≤ m → st k < t0 + L := by
    intro n
    induction n using Nat.strongRecOn with
    | _ n ih =>
      intro k hn hk hkm
      rcases Nat.lt_or_ge p k with hc | hc
      · obtain ⟨x, x1, x2, x3, x4⟩ := (hin (k - 1) (by omega) (by omega)).2.2
        rw [show k - 1 + 1 = k by omega] at x1 x4
        rcases Int.lt_or_le (st k) (t0 + L) with h | h
        · exact h
        · exfalso
          have hwin : ∀ a ∈ List.range' p (k - p), t0 ≤ (J a).asked ∧ (J a).asked < t0 + L := by
            intro a ha
            have h1 := hmem k hkm a ha
            have h2 := (hin a h1.1 (by omega)).1
            have h3 := ih (a - p) (by omega) a rfl h1.1 (by omega)
            have h4 := H.start a (by omega)
            exact ⟨hask a h1.1 (by omega) h2, by omega⟩
          have h1 := few_false H htok (List.range' p (k - p)) (range'_lt _ _) (fun a ha => by have := hmem k hkm a ha; omega) t0 L (by omega) hwin (i.toNat + 1) (by omega)
          have h2 := sumC_eq (l := l) (J := J) _ (i.toNat + 1) (hhp k hkm)
          have h3 := hsum k hk hkm
          have h4 : sumA L false (l.take (i.toNat + 1)) = sumA L false (l.take i.toNat) + asksV L false t * dlongS t := by
            rw [← htl, R.take, sumA_append]
            simp only [sumA]
            omega
          have h5 : st k = t0 + L := by omega
          -- and the one that waits asks within it too
          have hwin2 : ∀ a ∈ List.range' p (k - p) ++ [x], t0 ≤ (J a).asked ∧ (J a).asked < t0 + L := by
            intro a ha
            rcases List.mem_append.1 ha with ha | ha
            · exact hwin a ha
            · rw [List.mem_singleton.1 ha]
              exact ⟨hask x (by omega) x2 x3, by omega⟩
          have hpw : (List.range' p (k - p) ++ [x]).Pairwise (· < ·) := by
            rw [List.pairwise_append]
            refine ⟨range'_lt _ _, List.pairwise_singleton _ _, fun a ha b hb => ?_⟩
            have := hmem k hkm a ha
            rw [List.mem_singleton.1 hb]
            omega
          have h6 := few_false H htok (List.range' p (k - p) ++ [x]) hpw (fun a ha => by
            rcases List.mem_append.1 ha with ha | ha
            · have := hmem k hkm a ha; omega
            · rw [List.mem_singleton.1 ha]; exact x2) t0 L (by omega) hwin2 (i.toNat + 1) (by omega)
          have hxo := H.ok x x2
          have h7 := sumC_eq (l := l) (J := J) (List.range' p (k - p) ++ [x]) (i.toNat + 1) (fun a ha => by
            rcases List.mem_append.1 ha with ha | ha
            · exact hhp k hkm a ha
            · rw [List.mem_singleton.1 ha]; omega)
          rw [sumC_append] at h7
          simp only [sumC] at h7
          have hxl : (J x).task.toNat < l.length := by omega
          have hCx : 55 ≤ Cj l (J x) := by
            unfold Cj
            rw [List.getElem?_eq_getElem hxl]
            have := dlongS_eq (htok _ (List.mem_of_getElem? (List.getElem?_eq_getElem hxl)))
            exact this.2.1
          omega
      · have : k = p := by omega
        subst this
        omega
  have hstm := hA _ m rfl hpm (Nat.le_refl _)
  have hstart := H.start m hm
  -- those of the same task that went before
  generalize hq : cnt J i (List.range' p (m - p)) = q
  have hJ : Jj l (J m) = t.Jitter := by unfold Jj; rw [hi, ht]; rfl
  have hCm : Cj l (J m) = dlongS t := by unfold Cj; rw [hi, ht]; rfl
  have hfrom : t0 - t.Jitter + (q : Int) * t.Every ≤ (J m).from_ := by
    have hamm := hask m hpm hm (by omega)
    rw [hJ] at ho
    unfold cnt at hq
    cases hys : (List.range' p (m - p)).filter fun a => decide ((J a).task = i) with
    | nil =>
      rw [hys] at hq
      have hq : q = 0 := hq.symm
      subst hq
      simp only [Int.natCast_zero, Int.zero_mul]
      omega
    | cons a r =>
      rw [hys, List.length_cons] at hq
      have hsub : (a :: r).Sublist (List.range' p (m - p)) := by rw [← hys]; exact List.filter_sublist
      have hall : ∀ x ∈ a :: r, (J x).task = i := fun x hx => by rw [← hys] at hx; simpa using (List.mem_filter.1 hx).2
      have hpw : (a :: r ++ [m]).Pairwise (· < ·) := by
        rw [List.pairwise_append]
        refine ⟨(range'_lt _ _).sublist hsub, List.pairwise_singleton _ _, fun x hx y hy => ?_⟩
        have := hmem m (Nat.le_refl _) x (hsub.subset hx)
        rw [List.mem_singleton.1 hy]
        omega
      have h1 := chain H i t ht r a m hpw hm (fun x hx => by
        rcases List.mem_append.1 hx with hx | hx
        · exact hall x hx
        · rw [List.mem_singleton.1 hx]; exact hi)
      have ham := hmem m (Nat.le_refl _) a (hsub.subset (by simp))
      have hao := H.ok a (by omega)
      have hai := hall a (by simp)
      have hJa : Jj l (J a) = t.Jitter := by unfold Jj; rw [hai, ht]; rfl
      have haa := hask a ham.1 (by omega) (by omega)
      rw [hJa] at hao
      rw [← hq, show ((r.length + 1 : Nat) : Int) = (r.length : Int) + 1 by omega]
      omega
  have hqN : (q : Int) < asksV L false t := by
    unfold asksV
    rw [if_neg (by simp)]
    have : ((q : Int) + 1) ≤ (L + t.Jitter + t.Every - 1) / t.Every := by
      refine (Int.le_ediv_iff_mul_le (by omega)).2 ?_
      rw [Int.add_mul, Int.one_mul]
      omega
    omega
  obtain ⟨w1, w2, w3, w4, w5, w6⟩ := wait_pre R hbb (L := L) (q := q) (by omega) (by omega) ⟨by omega, hqN⟩
  have hWk : waitQ (blockS l i) q l i t = dfixS (blockS l i + q * dlongS t) (fun x => dw2S x (blockS l i) q t l i) := by unfold waitQ; rw [w1]
  have hWf : dw2S (waitQ (blockS l i) q l i t) (blockS l i) q t l i = waitQ (blockS l i) q l i t ∧ blockS l i + q * dlongS t ≤ waitQ (blockS l i) q l i t := by
    rcases fix_spec _ _ w2 with ⟨_, j2⟩ | ⟨j1, j2, j3, _⟩
    · exact absurd w4 fun hc => j2 _ w3 (by omega) hc
    · rw [← hWk] at j1 j3
      exact ⟨j3, j1⟩
  have hqc : 0 ≤ (q : Int) * dlongS t := Int.mul_nonneg (by omega) (by omega)
  have hdw := dw2_eq R hbb (q := q) (x := waitQ (blockS l i) q l i t) (by omega) (by omega)
  have hterm := termQ_eq R (b := blockS l i) (q := q) (by omega) (by omega)
  generalize hW : waitQ (blockS l i) q l i t = W at *
  have hB : ∀ n k, k - p = n → p ≤ k → k ≤ m → st k ≤ t0 + W := by
    intro n
    induction n with
    | zero =>
      intro k hn hk hkm
      have : k = p := by omega
      subst this
      omega
    | succ n ih =>
      intro k hn hk hkm
      have hprev := ih (k - 1) (by omega) (by omega) (by omega)
      have hmonoSt : ∀ a, p ≤ a → a ≤ k - 1 → st a ≤ st (k - 1) := by
        intro a h1 h2
        have key : ∀ d, k - 1 - a = d → st a ≤ st (k - 1) := by
          intro d
          induction d generalizing a with
          | zero => intro hd; have : a = k - 1 := by omega
                    subst this; exact Int.le_refl _
          | succ d ihd =>
            intro hd
            have h3 := ihd (a + 1) (by omega) (by omega) (by omega)
            have h4 := (hin a h1 (by omega)).2.1
            have hao := H.ok a (by omega)
            have hal : (J a).task.toNat < l.length := by omega
            have hCa : 55 ≤ Cj l (J a) := by
              unfold Cj
              rw [List.getElem?_eq_getElem hal]
              exact (dlongS_eq (htok _ (List.mem_of_getElem? (List.getElem?_eq_getElem hal)))).2.1
            omega
        exact key _ rfl
      have hwin : ∀ a ∈ List.range' p (k - p), t0 ≤ (J a).asked ∧ (J a).asked ≤ t0 + W := by
        intro a ha
        have h1 := hmem k hkm a ha
        have h2 := (hin a h1.1 (by omega)).1
        have h3 := hmonoSt a h1.1 (by omega)
        have h4 := H.start a (by omega)
        exact ⟨hask a h1.1 (by omega) h2, by omega⟩
      have h1 := few_true H htok (List.range' p (k - p)) (range'_lt _ _) (fun a ha => by have := hmem k hkm a ha; omega) t0 W (by omega) hwin i.toNat (by omega)
      have h2 := sumC_eq (l := l) (J := J) _ (i.toNat + 1) (hhp k hkm)
      rw [sumN] at h2
      have hcq : cnt J ((i.toNat : Nat) : Int) (List.range' p (k - p)) ≤ q := by
        rw [show ((i.toNat : Nat) : Int) = i by omega, ← hq]
        have e : List.range' p (m - p) = List.range' p (k - p) ++ List.range' (p + (k - p)) (m - k) := by
          rw [List.range'_append_1]
          congr 1
          omega
        rw [e, cnt_append]
        omega
      have h3 := hsum k hk hkm
      rw [ht, Option.getD_some] at h2
      have h4 : (cnt J ((i.toNat : Nat) : Int) (List.range' p (k - p)) : Int) * dlongS t ≤ (q : Int) * dlongS t := Int.mul_le_mul_of_nonneg_right (by omega) (by omega)
      omega
  have hfin := hB _ m rfl hpm (Nat.le_refl _)
  have hbest : ∀ j : Nat, q < j → termQ (blockS l i) q l i t ≤ bestQ (blockS l i) l i t j := by
    intro j
    induction j with
    | zero => intro h; omega
    | succ j ih =>
      intro h
      rw [bestQ]
      rcases Nat.lt_or_ge q j with hc | hc
      · have := ih hc; omega
      · have : q = j := by omega
        subst this
        omega
  have := hbest (asksV L false t).toNat (by omega)
  rw [hCm]
  omega
end bound
/-! ### What Play does is such a row -/
theorem cj_long {l : List Task} (htok : ∀ o ∈ l, tok o = true) {j : Job} (hj : jok l j) : Cj l j = longJ l j + 3 ∧ 0 ≤ longJ l j ∧ longJ l j ≤ 200 := by
  have hlt : j.task.toNat < l.length := by have := hj.1; have := hj.2.1; omega
  have ht := List.getElem?_eq_getElem hlt
  have htk := htok _ (List.mem_of_getElem? ht)
  have hb := tok_spec htk
  have hl := long_bound htk
  unfold Cj longJ
  rw [ht, Option.getD_some]
  refine ⟨?_, hl.1, hl.2⟩
  have e := longs ⟨(l[j.task.toNat]).Bytes.toNat, by omega⟩
  have e2 : (((l[j.task.toNat]).Bytes.toNat : Nat) : Int) = (l[j.task.toNat]).Bytes := by omega
  dsimp only at e
  rw [e2, w64_eq _ (by omega)] at e
  rw [(dlongS_eq htk).1, ← e]
  rfl
structure TrL (l : List Task) (tr : List (Job × Int)) (now : Int) : Prop where
  best : ∀ (a b : Nat) x y, a ≤ b → tr[a]? = some x → tr[b]? = some y → y.1.asked ≤ x.2 → x.1.task ≤ y.1.task
  start : ∀ x ∈ tr, x.1.asked ≤ x.2
  next : ∀ (a : Nat) x y, tr[a]? = some x → tr[a + 1]? = some y → y.2 = x.2 + Cj l x.1 ∨ ∀ (b : Nat) z, a + 1 ≤ b → tr[b]? = some z → y.2 ≤ z.1.asked
  beg : ∀ x, tr[0]? = some x → x.2 = now ∨ ∀ z ∈ tr, x.2 ≤ z.1.asked
  gap : ∀ (a b : Nat) x y, a < b → tr[a]? = some x → tr[b]? = some y → x.1.task = y.1.task → x.1.from_ + Tj l x.1 ≤ y.1.from_
def slotOf (l : List Task) (x : Job × Int) : Slot := ⟨x.1.task, x.1.from_, x.2, x.2 + Cj l x.1⟩
theorem playL_tr {l : List Task} (htok : ∀ o ∈ l, tok o = true) : ∀ (n : Nat) (js : List Job) (out : List Slot) (now : Int), js.length = n → (∀ j ∈ js, jok l j ∧ j.from_ ≤ j.asked) → (js.Pairwise fun a b => a.asked ≤ b.asked) → Inj js → js.Nodup →
    (∀ a ∈ js, ∀ b ∈ js, a.task = b.task → a.from_ < b.from_ → a.asked < b.asked ∧ a.from_ + Tj l a ≤ b.from_) →
    ∃ tr : List (Job × Int), playL l js.length js out now = out ++ tr.map (slotOf l) ∧ (∀ x ∈ tr, x.1 ∈ js) ∧ TrL l tr now := by
  intro n
  induction n with
  | zero =>
    intro js out now h1 _ _ _ _ _
    have : js = [] := List.eq_nil_of_length_eq_zero h1
    subst this
    exact ⟨[], by rw [List.map_nil, List.append_nil]; rfl, by simp, ⟨by simp, by simp, by simp, by simp, by simp⟩⟩
  | succ n ih =>
    intro js out now h1 hok hsrt hinj hnd hmono
    obtain ⟨j0, r, hr⟩ : ∃ j0 r, js = j0 :: r := by
      cases js with
      | nil => simp at h1
      | cons x r => exact ⟨x, r, rfl⟩
    have hmin : ∀ j ∈ js, j0.asked ≤ j.asked := by
      intro j hj
      rw [hr] at hj hsrt
      rcases List.mem_cons.1 hj with rfl | hj
      · exact Int.le_refl _
      · exact (List.pairwise_cons.1 hsrt).1 j hj
    obtain ⟨p, hp1, hp2⟩ := bestF_best (max now j0.asked) js _ 0 0 rfl (by omega) ⟨j0, by rw [hr]; rfl, by omega, fun k _ hk => absurd hk (Nat.not_lt_zero _)⟩
    rw [List.drop_zero] at hp1
    have hstep := playL_step l js j0 r hr out now _ rfl p hp1
    generalize bestF (max now j0.asked) js js 0 0 = b at hp1 hstep
    generalize hnow : max now j0.asked = now2 at hp2 hstep
    have hb : b < js.length := (List.getElem?_eq_some_iff.1 hp1).1
    have hbn : (js.take b ++ js.drop (b + 1)).length = js.length - 1 := by rw [List.length_append, List.length_take, List.length_drop]; omega
    have hsub : (js.take b ++ js.drop (b + 1)).Sublist js := by
      rw [← List.eraseIdx_eq_take_drop_succ]
      exact List.eraseIdx_sublist _ _
    have hpn : p ∉ js.take b ++ js.drop (b + 1) := by
      rw [← List.eraseIdx_eq_take_drop_succ]
      intro hc
      obtain ⟨i, hi, he⟩ := List.mem_iff_getElem.1 hc
      have hi2 := List.getElem?_eq_getElem hi
      rw [he, List.getElem?_eraseIdx] at hi2
      have hinj2 : ∀ i j : Nat, js[i]? = some p → js[j]? = some p → i = j := by
        intro i j h1 h2
        obtain ⟨a1, a2⟩ := List.getElem?_eq_some_iff.1 h1
        obtain ⟨b1, b2⟩ := List.getElem?_eq_some_iff.1 h2
        have hP := List.pairwise_iff_getElem.1 hnd
        rcases Nat.lt_trichotomy i j with hc | hc | hc
        · exact absurd (a2.trans b2.symm) (hP i j a1 b1 hc)
        · exact hc
        · exact absurd (b2.trans a2.symm) (hP j i b1 a1 hc)
      split at hi2
      · have := hinj2 _ _ hi2 hp1
        omega
      · have := hinj2 _ _ hi2 hp1
        omega
    have hpo := hok p hp2.1
    obtain ⟨hC, hl0, hl1⟩ := cj_long htok hpo.1
    obtain ⟨tr, hR1, hR2, hR3⟩ := ih (js.take b ++ js.drop (b + 1)) (out ++ [⟨p.task, p.from_, now2, now2 + longJ l p + 3⟩]) (now2 + longJ l p + 3) (by omega) (fun j hj => hok j (hsub.subset hj)) (hsrt.sublist hsub) (fun a ha b hb => hinj a (hsub.subset ha) b (hsub.subset hb)) (hnd.sublist hsub) (fun a ha b hb => hmono a (hsub.subset ha) b (hsub.subset hb))
    have hmem : ∀ (a : Nat) x, tr[a]? = some x → x.1 ∈ js ∧ x.1 ≠ p := by
      intro a x hx
      have h2 := hR2 x (List.mem_of_getElem? hx)
      exact ⟨hsub.subset h2, fun e => hpn (e ▸ h2)⟩
    refine ⟨(p, now2) :: tr, ?_, ?_, ?_, ?_, ?_, ?_, ?_⟩
    · rw [hstep, ← hbn, hR1, List.append_assoc, List.map_cons]
      unfold slotOf
      dsimp only
      rw [hC, Int.add_assoc now2]
      rfl
    · intro x hx
      rcases List.mem_cons.1 hx with rfl | hx
      · exact hp2.1
      · exact hsub.subset (hR2 x hx)
    · intro a b x y hab hx hy hle
      cases b with
      | zero =>
        have : a = 0 := by omega
        subst this
        rw [hx] at hy
        cases hy
        exact Int.le_refl _
      | succ b =>
        have hy : tr[b]? = some y := hy
        cases a with
        | zero =>
          have hx : (p, now2) = x := by simpa using hx
          subst hx
          have := hp2.2.2 y.1 (hmem b y hy).1 hle
          unfold KLe at this
          show p.task ≤ y.1.task
          omega
        | succ a => exact hR3.best a b x y (by omega) hx hy hle
    · intro x hx
      rcases List.mem_cons.1 hx with rfl | hx
      · exact hp2.2.1
      · exact hR3.start x hx
    · intro a x y hx hy
      cases a with
      | zero =>
        have hx : (p, now2) = x := by simpa using hx
        subst hx
        have hy : tr[0]? = some y := by simpa using hy
        rcases hR3.beg y hy with h | h
        · exact .inl (by rw [h]; show now2 + longJ l p + 3 = now2 + Cj l p; omega)
        · refine .inr fun b z hb hz => ?_
          obtain ⟨b, rfl⟩ : ∃ c, b = c + 1 := ⟨b - 1, by omega⟩
          have hz : tr[b]? = some z := hz
          exact h z (List.mem_of_getElem? hz)
      | succ a =>
        have hx : tr[a]? = some x := hx
        have hy : tr[a + 1]? = some y := hy
        rcases hR3.next a x y hx hy with h | h
        · exact .inl h
        · refine .inr fun b z hb hz => ?_
          obtain ⟨b, rfl⟩ : ∃ c, b = c + 1 := ⟨b - 1, by omega⟩
          have hz : tr[b]? = some z := hz
          exact h b z (by omega) hz
    · intro x hx
      have hx : (p, now2) = x := by simpa using hx
      subst hx
      show now2 = now ∨ ∀ z ∈ (p, now2) :: tr, now2 ≤ z.1.asked
      rcases Int.le_total j0.asked now with h | h
      · exact .inl (by omega)
      · refine .inr fun z hz => ?_
        have hzj : z.1 ∈ js := by
          rcases List.mem_cons.1 hz with rfl | hz
          · exact hp2.1
          · exact hsub.subset (hR2 z hz)
        have := hmin _ hzj
        omega
    · intro a b x y hab hx hy ht
      obtain ⟨b, rfl⟩ : ∃ c, b = c + 1 := ⟨b - 1, by omega⟩
      have hy : tr[b]? = some y := hy
      cases a with
      | zero =>
        have hx : (p, now2) = x := by simpa using hx
        subst hx
        have ht : p.task = y.1.task := ht
        show p.from_ + Tj l p ≤ y.1.from_
        obtain ⟨hyj, hyp⟩ := hmem b y hy
        rcases Int.lt_or_le p.from_ y.1.from_ with h3 | h3
        · exact (hmono p hp2.1 y.1 hyj ht h3).2
        · exfalso
          rcases Int.lt_or_le y.1.from_ p.from_ with h4 | h4
          · have h5 := (hmono y.1 hyj p hp2.1 ht.symm h4).1
            have h6 := hp2.2.2 y.1 hyj (by have := hp2.2.1; omega)
            unfold KLe at h6
            omega
          · exact hyp (hinj y.1 hyj p hp2.1 ht.symm (by omega))
      | succ a => exact hR3.gap a b x y (by omega) hx hy ht
/-- The jobs of a list of tasks. -/
structure Gb (l : List Task) (n : Int) (js : List Job) (a : Int) : Prop where
  len : js.length ≤ 1000
  ok : ∀ j ∈ js, jok l j ∧ j.from_ ≤ j.asked ∧ j.asked ≤ j.from_ + Jj l j
  srt : js.Pairwise fun x y => KLt x y ∧ (x.task = y.task → x.asked < y.asked ∧ x.from_ + Tj l x ≤ y.from_)
  bel : ∀ j ∈ js, j.task < n ∨ j.task = n ∧ j.from_ + Tj l j ≤ a
theorem genT_gb {l : List Task} {i : Int} {t : Task} {later : List Int} {e : Int} (ht : l[i.toNat]? = some t) (hi : 0 ≤ i) (htok : tok t = true) (he : e ≤ 1000000) : ∀ (n : Nat) (a : Int) (js : List Job) (k : Int) (J : List Job) (k' : Int), n + js.length = 1001 → Gb l i js a → 0 ≤ a → 0 ≤ k → genT i t later e n a js k = .ok (J, k') →
    (∃ b, Gb l i J b) ∧ 0 ≤ k' := by
  intro n
  induction n with
  | zero => intro a js k J k' h1 h2 _ _ _; have := h2.len; omega
  | succ n ih =>
    intro a js k J k' h1 h2 ha hk hg
    have hs := tok_spec htok
    have hil : i < (l.length : Int) := by have := (List.getElem?_eq_some_iff.1 ht).1; omega
    have hT : ∀ x : Job, x.task = i → Tj l x = t.Every ∧ Jj l x = t.Jitter := fun x hx => by unfold Tj Jj; rw [hx, ht]; exact ⟨rfl, rfl⟩
    by_cases hae : a < e
    · rw [genT_step hae] at hg
      have hlen : ∀ x : Job, (js ++ [x]).length = js.length + 1 := fun x => by simp
      have add : ∀ x : Int, a ≤ x → x ≤ a + t.Jitter → ¬ 1000 < js.length + 1 → Gb l i (js ++ [⟨i, a, x⟩]) (a + t.Every) := by
        intro x hx0 hx1 hl
        obtain ⟨eT, eJ⟩ := hT ⟨i, a, x⟩ rfl
        refine ⟨by rw [hlen]; omega, fun j hj => ?_, ?_, fun j hj => ?_⟩
        · rcases List.mem_append.1 hj with hj | hj
          · exact h2.ok j hj
          · rw [List.mem_singleton.1 hj, eJ]
            exact ⟨⟨hi, hil, by show 0 ≤ x; omega, by show x ≤ 3000000; omega⟩, hx0, hx1⟩
        · rw [List.pairwise_append]
          refine ⟨h2.srt, List.pairwise_singleton _ _, fun y hy z hz => ?_⟩
          rw [List.mem_singleton.1 hz]
          have h3 := h2.bel y hy
          have h4 := h2.ok y hy
          unfold KLt
          rcases h3 with h3 | h3
          · exact ⟨.inl h3, fun hyz => by have hyz : y.task = i := hyz; omega⟩
          · obtain ⟨eTy, eJy⟩ := hT y h3.1
            rw [eJy] at h4
            rw [eTy] at h3 ⊢
            refine ⟨.inr ⟨h3.1, by show y.from_ < a; omega⟩, fun _ => ⟨by show y.asked < x; omega, by show y.from_ + t.Every ≤ a; omega⟩⟩
        · rcases List.mem_append.1 hj with hj | hj
          · have := h2.bel j hj
            omega
          · rw [List.mem_singleton.1 hj, eT]
            exact .inr ⟨rfl, Int.le_refl _⟩
      have fin : ∀ (x k2 : Int), a ≤ x → x ≤ a + t.Jitter → 0 ≤ k2 → (if 1000 < (js ++ [(⟨i, a, x⟩ : Job)]).length then .error 2 else genT i t later e n (a + t.Every) (js ++ [⟨i, a, x⟩]) k2) = .ok (J, k') → (∃ b, Gb l i J b) ∧ 0 ≤ k' := by
        intro x k2 hx0 hx1 hk0 hg
        rw [hlen] at hg
        by_cases hc : 1000 < js.length + 1
        · rw [if_pos hc] at hg
          cases hg
        · rw [if_neg hc] at hg
          exact ih (a + t.Every) _ k2 J k' (by rw [hlen]; omega) (add x hx0 hx1 hc) (by omega) hk0 hg
      by_cases h8 : 0 < later.length ∧ 0 < t.Jitter
      · rw [if_pos h8] at hg
        split at hg
        · cases hg
        · rename_i v hv
          by_cases h9 : v < 0
          · rw [if_pos h9] at hg
            cases hg
          · rw [if_neg h9] at hg
            have hv0 := Int.tmod_eq_emod_of_nonneg (b := t.Jitter + 1) (show 0 ≤ v by omega)
            have hv1 := Int.emod_nonneg v (show t.Jitter + 1 ≠ 0 by omega)
            have hv2 := Int.emod_lt_of_pos v (show 0 < t.Jitter + 1 by omega)
            exact fin _ _ (by omega) (by omega) (by omega) hg
      · rw [if_neg h8] at hg
        exact fin a k (by omega) (by omega) hk hg
    · rw [genT, if_neg hae] at hg
      cases hg
      exact ⟨⟨a, h2⟩, hk⟩
theorem Gb.next {l : List Task} {n : Int} {js : List Job} {a : Int} (h : Gb l n js a) (a' : Int) : Gb l (n + 1) js a' :=
  ⟨h.len, h.ok, h.srt, fun j hj => by have := h.bel j hj; omega⟩
theorem genA_gb {l : List Task} {later : List Int} {e : Int} (htok : ∀ o ∈ l, tok o = true) (he : e ≤ 1000000) : ∀ (z : List (Task × Int)) (i : Nat) (js : List Job) (k : Int) (J : List Job), (∀ (m : Nat) (x : Task × Int), z[m]? = some x → l[i + m]? = some x.1) → (∀ a, Gb l i js a) → 0 ≤ k → genA later e z i js k = .ok J → ∃ n b, Gb l n J b := by
  intro z
  induction z with
  | nil =>
    intro i js k J _ h2 _ hg
    rw [genA] at hg
    cases hg
    exact ⟨i, 0, h2 0⟩
  | cons x r ih =>
    intro i js k J h1 h2 hk hg
    obtain ⟨t, f⟩ := x
    rw [genA_cons] at hg
    by_cases hf : f < 0 ∨ 1000000 < f
    · rw [if_pos hf] at hg
      cases hg
    · rw [if_neg hf] at hg
      have ht : l[i]? = some t := by have := h1 0 (t, f) rfl; rwa [Nat.add_zero] at this
      have htk := htok t (List.mem_of_getElem? ht)
      cases hq : genT i t later e (1001 - js.length) f js k with
      | error x => rw [hq] at hg; unfold contA at hg; cases hg
      | ok q =>
        rw [hq] at hg
        obtain ⟨J1, k1⟩ := q
        have hjl := (h2 f).len
        obtain ⟨⟨b, g1⟩, g2⟩ := genT_gb (l := l) (by simpa using ht) (by omega) htk he (1001 - js.length) f js k J1 k1 (by omega) (h2 f) (by omega) hk hq
        have hg : genA later e r ((i : Int) + 1) J1 k1 = .ok J := hg
        exact ih (i + 1) J1 k1 J (fun m x hm => by have := h1 (m + 1) x hm; rwa [show i + (m + 1) = i + 1 + m by omega] at this) (fun a => g1.next a) g2 (by rw [show (((i + 1 : Nat)) : Int) = (i : Int) + 1 by omega]; exact hg)
/-- All that went waited at most so long. -/
theorem play_bound {l : List Task} {first later : List Int} {e : Int} (h : (playS l first later e).2 = 0) (hw : dcheckS l = 0) : ∀ s ∈ (playS l first later e).1, 0 ≤ s.Task ∧ s.Task < (l.length : Int) ∧ 0 ≤ s.End - s.Asked ∧ (0 ≤ worstS l s.Task → s.End - s.Asked ≤ worstS l s.Task) := by
  obtain ⟨hl20, htok⟩ := dcheckS_zero hw
  by_cases h2 : first.length ≠ l.length ∨ 1000 < later.length ∨ e < 0 ∨ 1000000 < e
  · unfold playS at h
    rw [if_neg (fun hc => hc hw), if_pos h2] at h
    cases h
  have hS := playS_eq hw h2
  cases hg : genA later e (l.zip first) 0 [] 0 with
  | error x =>
    rw [hS, hg]
    intro s hs
    have hs : s ∈ ([] : List Slot) := hs
    simp at hs
  | ok J =>
    have hP : playS l first later e = (playL l J.length (sortC (fun a b => cmpj a b) J) [] 0, 0) := by rw [hS, hg]; rfl
    obtain ⟨n0, b0, hG⟩ := genA_gb (l := l) (later := later) (e := e) htok (by omega) (l.zip first) 0 [] 0 J (fun m x hm => by
      rw [Nat.zero_add]
      exact ((List.getElem?_zip_eq_some).1 hm).1) (fun a => ⟨by simp, by simp, List.Pairwise.nil, by simp⟩) (Int.le_refl _) hg
    have hkey := cmpj_keyed (l := J) fun j hj => ⟨(hG.ok j hj).1.2.2.1, (hG.ok j hj).1.2.2.2⟩
    have hsp := sortC_perm (fun a b => cmpj a b) J
    have hsl : (sortC (fun a b => cmpj a b) J).length = J.length := hsp.length_eq
    have hpairs : ∀ a ∈ J, ∀ b ∈ J, a = b ∨ (KLt a b ∧ (a.task = b.task → a.asked < b.asked ∧ a.from_ + Tj l a ≤ b.from_)) ∨ (KLt b a ∧ (b.task = a.task → b.asked < a.asked ∧ b.from_ + Tj l b ≤ a.from_)) := by
      have key : ∀ js : List Job, (js.Pairwise fun x y => KLt x y ∧ (x.task = y.task → x.asked < y.asked ∧ x.from_ + Tj l x ≤ y.from_)) → ∀ a ∈ js, ∀ b ∈ js, a = b ∨ (KLt a b ∧ (a.task = b.task → a.asked < b.asked ∧ a.from_ + Tj l a ≤ b.from_)) ∨ (KLt b a ∧ (b.task = a.task → b.asked < a.asked ∧ b.from_ + Tj l b ≤ a.from_)) := by
        intro js
        induction js with
        | nil => intro _ a ha; simp at ha
        | cons x r ih =>
          intro hp a ha b hb
          obtain ⟨p1, p2⟩ := List.pairwise_cons.1 hp
          rcases List.mem_cons.1 ha with ha | ha <;> rcases List.mem_cons.1 hb with hb | hb
          · exact .inl (by rw [ha, hb])
          · exact .inr (.inl (by rw [ha]; exact p1 b hb))
          · exact .inr (.inr (by rw [hb]; exact p1 a ha))
          · exact ih p2 a ha b hb
      exact key J hG.srt
    have hinj : Inj J := by
      intro a ha b hb h1 h2
      rcases hpairs a ha b hb with h3 | h3 | h3
      · exact h3
      · have := h3.1; unfold KLt at this; omega
      · have := h3.1; unfold KLt at this; omega
    have hmono : ∀ a ∈ J, ∀ b ∈ J, a.task = b.task → a.from_ < b.from_ → a.asked < b.asked ∧ a.from_ + Tj l a ≤ b.from_ := by
      intro a ha b hb h1 h2
      rcases hpairs a ha b hb with h3 | h3 | h3
      · rw [h3] at h2; omega
      · exact h3.2 h1
      · have := h3.1; unfold KLt at this; omega
    have hndJ : J.Nodup := hG.srt.imp fun {a b} hab hc => by
      have := hab.1
      rw [hc] at this
      unfold KLt at this
      omega
    obtain ⟨tr, hR1, hR2, hR3⟩ := playL_tr htok _ (sortC (fun a b => cmpj a b) J) [] 0 rfl (fun j hj => ⟨(hG.ok j (hsp.mem_iff.1 hj)).1, (hG.ok j (hsp.mem_iff.1 hj)).2.1⟩) (sortC_spec hkey).1 (fun a ha b hb => hinj a (hsp.mem_iff.1 ha) b (hsp.mem_iff.1 hb)) (hsp.nodup_iff.2 hndJ) (fun a ha b hb => hmono a (hsp.mem_iff.1 ha) b (hsp.mem_iff.1 hb))
    rw [hsl, List.nil_append] at hR1
    rw [hP, hR1]
    dsimp only
    intro s hs
    obtain ⟨x, hx, rfl⟩ := List.mem_map.1 hs
    obtain ⟨m, hm, he⟩ := List.mem_iff_getElem.1 hx
    have hxJ := hG.ok x.1 (hsp.mem_iff.1 (hR2 x hx))
    have hat : ∀ (a : Nat) (ha : a < tr.length), tr[a]? = some tr[a] := fun a ha => List.getElem?_eq_getElem ha
    have hgd : ∀ (a : Nat) (ha : a < tr.length), tr[a]?.getD default = tr[a] := fun a ha => by rw [hat a ha]; rfl
    have H : Tr l tr.length (fun a => (tr[a]?.getD default).1) (fun a => (tr[a]?.getD default).2) := by
      refine ⟨fun a ha => ?_, fun a b hab hb => ?_, fun a ha => ?_, fun a ha => ?_, fun a ha => ?_, fun a b hab hb => ?_⟩
      · rw [hgd a ha]
        have := hG.ok _ (hsp.mem_iff.1 (hR2 _ (List.getElem_mem ha)))
        exact ⟨this.1.1, this.1.2.1, this.2.1, this.2.2⟩
      · rw [hgd a (by omega), hgd b hb]
        exact hR3.gap a b _ _ hab (hat a (by omega)) (hat b hb)
      · rw [hgd a ha, hgd 0 (by omega)]
        rcases hR3.beg _ (hat 0 (by omega)) with h | h
        · rw [h]
          exact (hG.ok _ (hsp.mem_iff.1 (hR2 _ (List.getElem_mem ha)))).1.2.2.1
        · exact h _ (List.getElem_mem ha)
      · rw [hgd a ha]
        exact hR3.start _ (List.getElem_mem ha)
      · rw [hgd a (by omega), hgd (a + 1) ha]
        rcases hR3.next a _ _ (hat a (by omega)) (hat (a + 1) ha) with h | h
        · exact .inl h
        · refine .inr fun b h1 h2 => ?_
          rw [hgd b h2]
          exact h b _ h1 (hat b h2)
      · rw [hgd a (by omega), hgd b hb]
        exact hR3.best a b _ _ hab (hat a (by omega)) (hat b hb)
    have hC := cj_long htok hxJ.1
    have hst := hR3.start x hx
    refine ⟨hxJ.1.1, hxJ.1.2.1, ?_, fun hw0 => ?_⟩
    · show 0 ≤ x.2 + Cj l x.1 - x.1.from_
      omega
    · have hb := bound_at H hl20 htok hm (by (try dsimp only); rw [hgd m hm, he]; exact hw0)
      (try dsimp only at hb)
      rw [hgd m hm, he] at hb
      show x.2 + Cj l x.1 - x.1.from_ ≤ worstS l x.1.task
      exact hb
theorem waitF_len (n : Int) : ∀ (s : List Slot) (out o : List Int), waitF n s out = some o → o.length = out.length := by
  intro s
  induction s with
  | nil => intro out o h; rw [waitF] at h; cases h; rfl
  | cons x r ih =>
    intro out o h
    rw [waitF] at h
    split at h
    · cases h
    · have := ih _ _ h
      rwa [List.length_set] at this
theorem waitF_le (n : Int) (i : Nat) (X : Int) : ∀ (s : List Slot) (out o : List Int), waitF n s out = some o → out[i]?.getD 0 ≤ X → (∀ x ∈ s, x.Task.toNat = i → 0 ≤ x.End - x.Asked ∧ x.End - x.Asked ≤ X) → o[i]?.getD 0 ≤ X := by
  intro s
  induction s with
  | nil => intro out o h h1 _; rw [waitF] at h; cases h; exact h1
  | cons x r ih =>
    intro out o h h1 h2
    rw [waitF] at h
    split at h
    · cases h
    · rename_i hsb
      have hsb := sbad_false (by simpa using hsb)
      refine ih _ _ h ?_ fun y hy => h2 y (by simp [hy])
      rw [List.getElem?_set]
      split
      · rename_i he
        have h3 := h2 x (by simp) he
        split
        · rw [Option.getD_some, he, w64_eq _ (by omega)]
          omega
        · rw [Option.getD_none]
          omega
      · exact h1
theorem LBound_ok (l : List Task) (first later : List Int) (e : Int) : LBound_vc l first later e (fun r => r = true) := by
  intro hL1 hL2 hL3 hL4
  refine ⟨fun _ => rfl, fun h => ?_⟩
  have h : (playS l first later e).2 = 0 := by simpa using h
  have h1 : dcheckS l = 0 := by
    rcases Classical.em (dcheckS l = 0) with h1 | h1
    · exact h1
    · unfold playS at h
      rw [if_pos h1] at h
      exact h
  obtain ⟨hl20, htok⟩ := dcheckS_zero h1
  have hpb := play_bound h h1
  generalize (playS l first later e).1 = s at *
  intro _
  have hWS : WorstS l = (worstL l, 0) := by unfold WorstS; rw [if_neg (fun hc => hc h1)]
  have hlenL : (worstL l).length = l.length := by unfold worstL; simp
  have hSW : swaitsS l s = match waitF (l.length : Int) s (List.replicate l.length 0) with
      | none => ([], 3)
      | some o => (o, 0) := by
    unfold swaitsS
    rw [if_neg (fun h => h h1)]
    rfl
  cases hq : waitF (l.length : Int) s (List.replicate l.length 0) with
  | none =>
    have hSW : swaitsS l s = ([], 3) := by rw [hSW, hq]
    rw [hSW]
    exact ⟨fun _ => rfl, fun hc => by simp at hc⟩
  | some o =>
    have hSW : swaitsS l s = (o, 0) := by rw [hSW, hq]
    have hol := waitF_len _ _ _ _ hq
    rw [List.length_replicate] at hol
    rw [hSW, hWS]
    refine ⟨fun hc => by simp at hc, fun _ _ => ⟨fun hc => ?_, fun _ => ?_⟩⟩
    · simp [hlenL, hol] at hc
    · refine ⟨fun i => ∃ n : Nat, i = n ∧ n ≤ l.length, fun i => l.length - i.toNat, ⟨0, rfl, by omega⟩, ?_⟩
      rintro _ ⟨n, rfl, hn⟩
      dsimp only
      refine ⟨fun h2 => ?_, fun _ => rfl⟩
      have hnl : n < l.length := by have := of_decide_eq_true h2; omega
      have hstop : (worstL l)[n]? = some (stopAt l n) := by unfold worstL; simp [hnl]
      refine ⟨True, ⟨by omega, fun q hq1 => ⟨fun h3 => ⟨by omega, fun w hw => ⟨by omega, fun q2 hq2 => ⟨fun h4 => ?_, fun _ => trivial⟩⟩⟩, fun _ => trivial⟩⟩, fun _ => ?_⟩
      · rw [Int.toNat_natCast, hstop] at hq1 hq2
        cases hq1
        cases hq2
        rw [Int.toNat_natCast] at hw
        have h3 : 0 ≤ worstS l n := of_decide_eq_true h3
        have h4 : w > worstS l n := of_decide_eq_true h4
        have h5 := waitF_le (l.length : Int) n (worstS l n) s _ o hq (by
          rw [List.getElem?_replicate]
          split
          · exact h3
          · exact h3) fun x hx hxn => by
            obtain ⟨p1, p2, p3, p4⟩ := hpb x hx
            have e1 : x.Task = (n : Int) := by omega
            rw [e1] at p4
            exact ⟨p3, p4 h3⟩
        rw [hw, Option.getD_some] at h5
        omega
      · rw [w64_succ n (by omega)]
        exact ⟨⟨n + 1, rfl, by omega⟩, by (try dsimp only); omega⟩

end Go.Proofs.Ytginlmgkimfjmaa
