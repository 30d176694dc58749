/- What must hold so that each function ends well: pure predicates, made by program. -/
import Derived.Test.YtginlmgkimfjmaaPDq
set_option linter.unusedVariables false
set_option linter.unusedSimpArgs false
namespace Go.Proofs.Ytginlmgkimfjmaa
open Go.Sy Go.RowKit
def splay_vc (u0 : List Task) (u1 : List Int) (u2 : List Int) (u3 : Int) (K : ((List Slot) × Int) → Prop) : Prop :=
  (u0.length ≤ 140737488355328 →
    (u1.length ≤ 140737488355328 →
    (u2.length ≤ 140737488355328 →
    ((((dcheckS u0) != 0) = true →
      (K (([] : List Slot), (dcheckS u0)))) ∧
    (((dcheckS u0) != 0) = false →
      (((((((u1.length : Int) != (u0.length : Int)) || (decide ((u2.length : Int) > 1000))) || (decide (u3 < 0))) || (decide (u3 > 1000000))) = true →
        (K (([] : List Slot), 2))) ∧
      ((((((u1.length : Int) != (u0.length : Int)) || (decide ((u2.length : Int) > 1000))) || (decide (u3 < 0))) || (decide (u3 > 1000000))) = false →
        (∃ inv108 : (List Job) → Int → Int → Prop, ∃ mu108 : (List Job) → Int → Int → Nat, inv108 ([] : List Job) 0 0 ∧
        (∀ (x11 : List Job) (x12 : Int) (x53 : Int), inv108 x11 x12 x53 →
        (((decide (x53 < (u0.length : Int))) = true →
          (∃ inv128 : (List Job) → Int → Prop,
          ((0 ≤ x53 ∧ x53 < (u0.length : Int)) ∧
          (∀ q154, u0[x53.toNat]? = some q154 →
          ((0 ≤ x53 ∧ x53 < (u1.length : Int)) ∧
          (∀ q183, u1[x53.toNat]? = some q183 →
          (((decide (q183 < 0)) = true →
            (K (([] : List Slot), 3))) ∧
          ((decide (q183 < 0)) = false →
            ((0 ≤ x53 ∧ x53 < (u1.length : Int)) ∧
            (∀ q230, u1[x53.toNat]? = some q230 →
            (((decide (q230 > 1000000)) = true →
              (K (([] : List Slot), 3))) ∧
            ((decide (q230 > 1000000)) = false →
              ((0 ≤ x53 ∧ x53 < (u1.length : Int)) ∧
              (∀ q264, u1[x53.toNat]? = some q264 →
              (∃ inv276 : (List Job) → Int → Int → Prop, ∃ mu276 : (List Job) → Int → Int → Nat, inv276 x11 x12 q264 ∧
              (∀ (x11vv : List Job) (x12vv : Int) (x15 : Int), inv276 x11vv x12vv x15 →
              (((decide (x15 < u3)) = true →
                (∃ inv299 : (List Job) → Int → Prop,
                ((((decide ((u2.length : Int) > 0)) && (decide (q154.Jitter > 0))) = true →
                  (((u2.length : Int) ≠ 0) ∧
                  ((0 ≤ x12vv.tmod (u2.length : Int) ∧ x12vv.tmod (u2.length : Int) < (u2.length : Int)) ∧
                  (∀ q379, u2[(x12vv.tmod (u2.length : Int)).toNat]? = some q379 →
                  (((decide (q379 < 0)) = true →
                    (K (([] : List Slot), 3))) ∧
                  ((decide (q379 < 0)) = false →
                    ((w64 (q154.Jitter + 1) ≠ 0) ∧
                    (((x11vv.length + 1) * 24 ≤ 140737488355328) ∧
                    (((decide (((x11vv ++ [(⟨x53, x15, w64 (x15 + (q379.tmod (w64 (q154.Jitter + 1))))⟩ : Job)]).length : Int) > 1000)) = true →
                      (K (([] : List Slot), 2))) ∧
                    ((decide (((x11vv ++ [(⟨x53, x15, w64 (x15 + (q379.tmod (w64 (q154.Jitter + 1))))⟩ : Job)]).length : Int) > 1000)) = false →
                      (inv299 (x11vv ++ [(⟨x53, x15, w64 (x15 + (q379.tmod (w64 (q154.Jitter + 1))))⟩ : Job)]) (w64 (x12vv + 1))))))))))))) ∧
                (((decide ((u2.length : Int) > 0)) && (decide (q154.Jitter > 0))) = false →
                  (((x11vv.length + 1) * 24 ≤ 140737488355328) ∧
                  (((decide (((x11vv ++ [(⟨x53, x15, x15⟩ : Job)]).length : Int) > 1000)) = true →
                    (K (([] : List Slot), 2))) ∧
                  ((decide (((x11vv ++ [(⟨x53, x15, x15⟩ : Job)]).length : Int) > 1000)) = false →
                    (inv299 (x11vv ++ [(⟨x53, x15, x15⟩ : Job)]) x12vv)))))) ∧
                (∀ (x11vvv : List Job) (x12vvv : Int), inv299 x11vvv x12vvv →
                  (inv276 x11vvv x12vvv (w64 (x15 + q154.Every)) ∧ mu276 x11vvv x12vvv (w64 (x15 + q154.Every)) < mu276 x11vv x12vv x15)))) ∧
              ((decide (x15 < u3)) = false →
                (inv128 x11vv x12vv))))))))))))))))) ∧
          (∀ (x11v : List Job) (x12v : Int), inv128 x11v x12v →
            (inv108 x11v x12v (w64 (x53 + 1)) ∧ mu108 x11v x12v (w64 (x53 + 1)) < mu108 x11 x12 x53)))) ∧
        ((decide (x53 < (u0.length : Int))) = false →
          ((ssortPre x11 (fun x0 x1 => cmpj x0 x1 )) ∧
          ((ssortS x11 (fun x0 x1 => cmpj x0 x1 )).length ≤ 140737488355328 →
          (∃ inv678 : (List Slot) → Int → Prop,
          (∃ inv703 : (List Job) → (List Slot) → Int → Prop, ∃ mu703 : (List Job) → (List Slot) → Int → Nat, inv703 (ssortS x11 (fun x0 x1 => cmpj x0 x1 )) ([] : List Slot) 0 ∧
          (∀ (x11v : List Job) (x18v : List Slot) (yb664c0v : Int), inv703 x11v x18v yb664c0v →
          (((decide ((x11v.length : Int) > 0)) = true →
            ((0 ≤ (0 : Int) ∧ (0 : Int) < (x11v.length : Int)) ∧
            (∀ qd3_0, x11v[(0 : Int).toNat]? = some qd3_0 →
            (((decide (qd3_0.asked > yb664c0v)) = true →
              ((0 ≤ (0 : Int) ∧ (0 : Int) < (x11v.length : Int)) ∧
              (∀ q838, x11v[(0 : Int).toNat]? = some q838 →
              (∃ inv860 : Int → Int → Prop, ∃ mu860 : Int → Int → Nat, inv860 0 0 ∧
              (∀ (x21 : Int) (x139 : Int), inv860 x21 x139 →
              (((decide (x139 < (x11v.length : Int))) = true →
                (∃ inv879 : Int → Prop,
                ((0 ≤ x139 ∧ x139 < (x11v.length : Int)) ∧
                (∀ q908, x11v[x139.toNat]? = some q908 →
                ((0 ≤ x21 ∧ x21 < (x11v.length : Int)) ∧
                (∀ qd5_0, x11v[x21.toNat]? = some qd5_0 →
                (((ahead q908 qd5_0 q838.asked) = true →
                  (inv879 x139)) ∧
                ((ahead q908 qd5_0 q838.asked) = false →
                  (inv879 x21))))))) ∧
                (∀ (x21v : Int), inv879 x21v →
                  (inv860 x21v (w64 (x139 + 1)) ∧ mu860 x21v (w64 (x139 + 1)) < mu860 x21 x139)))) ∧
              ((decide (x139 < (x11v.length : Int))) = false →
                ((0 ≤ x21 ∧ x21 < (x11v.length : Int)) ∧
                (∀ q1066, x11v[x21.toNat]? = some q1066 →
                ((0 ≤ x21 ∧ x21 ≤ (w64 (x21 + 1)) ∧ (w64 (x21 + 1)) ≤ (x11v.length : Int)) ∧
                ((sdelS x11v x21 (w64 (x21 + 1))).length ≤ 140737488355328 →
                ((0 ≤ q1066.task ∧ q1066.task < (u0.length : Int)) ∧
                (∀ q1117, u0[q1066.task.toNat]? = some q1117 →
                (((x18v.length + 1) * 32 ≤ 140737488355328) ∧
                (inv703 (sdelS x11v x21 (w64 (x21 + 1))) (x18v ++ [(⟨q1066.task, q1066.from_, q838.asked, w64 ((w64 (q838.asked + ((flongestS false false q1117.Bytes).1))) + 3)⟩ : Slot)]) (w64 ((w64 (q838.asked + ((flongestS false false q1117.Bytes).1))) + 3)) ∧ mu703 (sdelS x11v x21 (w64 (x21 + 1))) (x18v ++ [(⟨q1066.task, q1066.from_, q838.asked, w64 ((w64 (q838.asked + ((flongestS false false q1117.Bytes).1))) + 3)⟩ : Slot)]) (w64 ((w64 (q838.asked + ((flongestS false false q1117.Bytes).1))) + 3)) < mu703 x11v x18v yb664c0v))))))))))))))) ∧
            ((decide (qd3_0.asked > yb664c0v)) = false →
              (∃ inv1217 : Int → Int → Prop, ∃ mu1217 : Int → Int → Nat, inv1217 0 0 ∧
              (∀ (x21 : Int) (x139 : Int), inv1217 x21 x139 →
              (((decide (x139 < (x11v.length : Int))) = true →
                (∃ inv1236 : Int → Prop,
                ((0 ≤ x139 ∧ x139 < (x11v.length : Int)) ∧
                (∀ q1265, x11v[x139.toNat]? = some q1265 →
                ((0 ≤ x21 ∧ x21 < (x11v.length : Int)) ∧
                (∀ qd5_0, x11v[x21.toNat]? = some qd5_0 →
                (((ahead q1265 qd5_0 yb664c0v) = true →
                  (inv1236 x139)) ∧
                ((ahead q1265 qd5_0 yb664c0v) = false →
                  (inv1236 x21))))))) ∧
                (∀ (x21v : Int), inv1236 x21v →
                  (inv1217 x21v (w64 (x139 + 1)) ∧ mu1217 x21v (w64 (x139 + 1)) < mu1217 x21 x139)))) ∧
              ((decide (x139 < (x11v.length : Int))) = false →
                ((0 ≤ x21 ∧ x21 < (x11v.length : Int)) ∧
                (∀ q1423, x11v[x21.toNat]? = some q1423 →
                ((0 ≤ x21 ∧ x21 ≤ (w64 (x21 + 1)) ∧ (w64 (x21 + 1)) ≤ (x11v.length : Int)) ∧
                ((sdelS x11v x21 (w64 (x21 + 1))).length ≤ 140737488355328 →
                ((0 ≤ q1423.task ∧ q1423.task < (u0.length : Int)) ∧
                (∀ q1474, u0[q1423.task.toNat]? = some q1474 →
                (((x18v.length + 1) * 32 ≤ 140737488355328) ∧
                (inv703 (sdelS x11v x21 (w64 (x21 + 1))) (x18v ++ [(⟨q1423.task, q1423.from_, yb664c0v, w64 ((w64 (yb664c0v + ((flongestS false false q1474.Bytes).1))) + 3)⟩ : Slot)]) (w64 ((w64 (yb664c0v + ((flongestS false false q1474.Bytes).1))) + 3)) ∧ mu703 (sdelS x11v x21 (w64 (x21 + 1))) (x18v ++ [(⟨q1423.task, q1423.from_, yb664c0v, w64 ((w64 (yb664c0v + ((flongestS false false q1474.Bytes).1))) + 3)⟩ : Slot)]) (w64 ((w64 (yb664c0v + ((flongestS false false q1474.Bytes).1))) + 3)) < mu703 x11v x18v yb664c0v))))))))))))))))) ∧
          ((decide ((x11v.length : Int) > 0)) = false →
            (inv678 x18v yb664c0v))))) ∧
          (∀ (x18 : List Slot) (yb664c0 : Int), inv678 x18 yb664c0 →
            (K (x18, 0)))))))))))))))))

/-! Pure proofs: no program in sight. -/
/-- The jobs of one task. -/
def genT (i : Int) (t : Task) (later : List Int) (e : Int) : Nat → Int → List Job → Int → Except Int (List Job × Int)
  | 0, _, jobs, k => .ok (jobs, k)
  | n + 1, at_, jobs, k =>
    if at_ < e then
      (if 0 < later.length ∧ 0 < t.Jitter then
        (match later[(k.tmod (later.length : Int)).toNat]? with
        | none => .error 3
        | some v => if v < 0 then .error 3 else if 1000 < (jobs ++ [(⟨i, at_, at_ + v.tmod (t.Jitter + 1)⟩ : Job)]).length then .error 2 else genT i t later e n (at_ + t.Every) (jobs ++ [⟨i, at_, at_ + v.tmod (t.Jitter + 1)⟩]) (k + 1))
      else if 1000 < (jobs ++ [(⟨i, at_, at_⟩ : Job)]).length then .error 2 else genT i t later e n (at_ + t.Every) (jobs ++ [⟨i, at_, at_⟩]) k)
    else .ok (jobs, k)
def genA (later : List Int) (e : Int) : List (Task × Int) → Int → List Job → Int → Except Int (List Job)
  | [], _, jobs, _ => .ok jobs
  | (t, f) :: r, i, jobs, k => if f < 0 ∨ 1000000 < f then .error 3 else match genT i t later e (1001 - jobs.length) f jobs k with
    | .error x => .error x
    | .ok q => genA later e r (i + 1) q.1 q.2
def bestF (now : Int) (jobs : List Job) : List Job → Nat → Nat → Nat
  | [], _, b => b
  | j :: r, i, b => bestF now jobs r (i + 1) (if ahead j (jobs[b]?.getD default) now = true then i else b)
def longJ (l : List Task) (j : Job) : Int := (flongestS false false (l[j.task.toNat]?.getD default).Bytes).1
def playL (l : List Task) : Nat → List Job → List Slot → Int → List Slot
  | 0, _, out, _ => out
  | _ + 1, [], out, _ => out
  | n + 1, j0 :: r, out, now =>
    (fun now2 => (fun b => (fun j => playL l n ((j0 :: r).take b ++ (j0 :: r).drop (b + 1)) (out ++ [⟨j.task, j.from_, now2, now2 + longJ l j + 3⟩]) (now2 + longJ l j + 3)) ((j0 :: r)[b]?.getD default)) (bestF now2 (j0 :: r) (j0 :: r) 0 0)) (if j0.asked > now then j0.asked else now)
def playS (l : List Task) (first later : List Int) (e : Int) : List Slot × Int :=
  if dcheckS l ≠ 0 then ([], dcheckS l) else if first.length ≠ l.length ∨ 1000 < later.length ∨ e < 0 ∨ 1000000 < e then ([], 2) else
  match genA later e (l.zip first) 0 [] 0 with
  | .error x => ([], x)
  | .ok jobs => (playL l jobs.length (sortC (fun a b => cmpj a b) jobs) [] 0, 0)
theorem long_bound {t : Task} (h : tok t = true) : 0 ≤ (flongestS false false t.Bytes).1 ∧ (flongestS false false t.Bytes).1 ≤ 200 := by
  have hb := tok_spec h
  have key : ∀ m : Fin 9, 0 ≤ (flongestS false false ((m.val : Nat) : Int)).1 ∧ (flongestS false false ((m.val : Nat) : Int)).1 ≤ 200 := by decide +kernel
  have := key ⟨t.Bytes.toNat, by omega⟩
  have e : ((t.Bytes.toNat : Nat) : Int) = t.Bytes := by omega
  dsimp only at this
  rwa [e] at this
/-- A job that is right. -/
def jok (l : List Task) (j : Job) : Prop := 0 ≤ j.task ∧ j.task < (l.length : Int) ∧ 0 ≤ j.asked ∧ j.asked ≤ 3000000
theorem zip_get {α β : Type} {a : List α} {b : List β} {k : Nat} {x : α} {y : β} (ha : a[k]? = some x) (hb : b[k]? = some y) : (a.zip b)[k]? = some (x, y) := by
  rw [List.getElem?_zip_eq_some]
  exact ⟨ha, hb⟩
theorem cmpj_keyed {l : List Job} (h : ∀ j ∈ l, 0 ≤ j.asked ∧ j.asked ≤ 3000000) : Keyed (fun a b => cmpj a b) (fun j => j.asked) l := by
  intro a ha b hb
  have h1 := h a ha
  have h2 := h b hb
  show w64 (a.asked - b.asked) < 0 ↔ a.asked < b.asked
  rw [w64_eq _ (by omega)]
  omega
theorem bestF_lt (now : Int) (jobs : List Job) : ∀ (r : List Job) (i b : Nat), i + r.length ≤ jobs.length → b < jobs.length → bestF now jobs r i b < jobs.length := by
  intro r
  induction r with
  | nil => intro i b _ h; exact h
  | cons j r ih =>
    intro i b h1 h2
    rw [List.length_cons] at h1
    rw [bestF]
    refine ih _ _ (by omega) ?_
    split <;> omega
/-- The choice's loop. -/
theorem pick_loop {jobs : List Job} {now : Int} {Q : Nat → Prop} (hl : jobs.length ≤ 1000) (hpos : 0 < jobs.length) (h : ∀ b : Nat, b = bestF now jobs jobs 0 0 → b < jobs.length → Q b)
    {A : Int → Prop} (hA : ∀ b : Nat, Q b → A (b : Int)) :
    (∃ inv860 : Int → Int → Prop, ∃ mu860 : Int → Int → Nat, inv860 0 0 ∧
              (∀ (x21 : Int) (x139 : Int), inv860 x21 x139 →
              (((decide (x139 < (jobs.length : Int))) = true →
                (∃ inv879 : Int → Prop,
                ((0 ≤ x139 ∧ x139 < (jobs.length : Int)) ∧
                (∀ q908, jobs[x139.toNat]? = some q908 →
                ((0 ≤ x21 ∧ x21 < (jobs.length : Int)) ∧
                (∀ qd5_0, jobs[x21.toNat]? = some qd5_0 →
                (((ahead q908 qd5_0 now) = true →
                  (inv879 x139)) ∧
                ((ahead q908 qd5_0 now) = false →
                  (inv879 x21))))))) ∧
                (∀ (x21v : Int), inv879 x21v →
                  (inv860 x21v (w64 (x139 + 1)) ∧ mu860 x21v (w64 (x139 + 1)) < mu860 x21 x139)))) ∧
              ((decide (x139 < (jobs.length : Int))) = false → A x21)))) := by
  refine ⟨fun b i => ∃ (k m : Nat), i = k ∧ b = m ∧ k ≤ jobs.length ∧ m < jobs.length ∧ bestF now jobs (jobs.drop k) k m = bestF now jobs jobs 0 0, fun _ i => jobs.length - i.toNat, ⟨0, 0, rfl, rfl, by omega, hpos, rfl⟩, ?_⟩
  rintro _ _ ⟨k, m, rfl, rfl, hk, hm, hb⟩
  refine ⟨fun h1 => ?_, fun h1 => ?_⟩
  · have hkl : k < jobs.length := by have := of_decide_eq_true h1; omega
    refine ⟨fun b => ∃ m : Nat, b = m ∧ m < jobs.length ∧ bestF now jobs (jobs.drop (k + 1)) (k + 1) m = bestF now jobs jobs 0 0, ⟨by omega, fun q hq => ⟨by omega, fun p hp => ?_⟩⟩, ?_⟩
    · rw [Int.toNat_natCast] at hq hp
      rw [drop_this jobs k q hq, bestF, hp, Option.getD_some] at hb
      refine ⟨fun h2 => ?_, fun h2 => ?_⟩
      · rw [if_pos h2] at hb
        exact ⟨k, rfl, hkl, hb⟩
      · rw [if_neg (by rw [h2]; simp)] at hb
        exact ⟨m, rfl, hm, hb⟩
    · rintro _ ⟨m2, rfl, h3, h4⟩
      rw [w64_succ k (by omega)]
      exact ⟨⟨k + 1, m2, rfl, rfl, by omega, h3, h4⟩, by (try dsimp only); omega⟩
  · have hkl : k = jobs.length := by have := of_decide_eq_false h1; omega
    subst hkl
    rw [List.drop_eq_nil_of_le (Nat.le_refl _), bestF] at hb
    exact hA m (h m hb hm)
theorem splay_ok (l : List Task) (first later : List Int) (e : Int) : splay_vc l first later e (fun r => r = playS l first later e) := by
  intro _ _ _
  refine ⟨fun h1 => ?_, fun h1 => ⟨fun h2 => ?_, fun h2 => ?_⟩⟩
  · unfold playS
    rw [if_pos (by simpa using h1)]
  all_goals
    have h1' : dcheckS l = 0 := by simpa using h1
  · have h2 : ((first.length ≠ l.length ∨ 1000 < later.length) ∨ e < 0) ∨ 1000000 < e := by
      simp only [Bool.or_eq_true, bne_iff_ne, decide_eq_true_eq] at h2
      omega
    unfold playS
    rw [if_neg (fun h => h h1'), if_pos (by omega)]
  · have h2 : first.length = l.length ∧ later.length ≤ 1000 ∧ 0 ≤ e ∧ e ≤ 1000000 := by
      simp only [Bool.or_eq_false_iff, bne_eq_false_iff_eq, decide_eq_false_iff_not] at h2
      omega
    obtain ⟨g1, g2, g3, g4⟩ := h2
    obtain ⟨hl20, htok⟩ := dcheckS_zero h1'
    have hS : playS l first later e = match genA later e (l.zip first) 0 [] 0 with
        | .error x => ([], x)
        | .ok jobs => (playL l jobs.length (sortC (fun a b => cmpj a b) jobs) [] 0, 0) := by
      unfold playS
      rw [if_neg (fun h => h h1'), if_neg (by omega)]
    rw [hS]
    generalize hR : genA later e (l.zip first) 0 [] 0 = R
    refine ⟨fun js k i => ∃ n : Nat, i = n ∧ n ≤ l.length ∧ js.length ≤ 1000 ∧ (∀ j ∈ js, jok l j) ∧ 0 ≤ k ∧ k ≤ js.length ∧ genA later e ((l.zip first).drop n) n js k = R, fun _ _ i => l.length - i.toNat, ⟨0, rfl, by omega, by simp, by simp, by omega, by simp, hR⟩, ?_⟩
    rintro js k _ ⟨n, rfl, hn, hjl, hjo, hk0, hk1, hgen⟩
    refine ⟨fun h3 => ?_, fun h3 => ?_⟩
    · have hnl : n < l.length := by have := of_decide_eq_true h3; omega
      refine ⟨fun js' k' => js'.length ≤ 1000 ∧ (∀ j ∈ js', jok l j) ∧ 0 ≤ k' ∧ k' ≤ js'.length ∧ genA later e ((l.zip first).drop (n + 1)) ((n : Int) + 1) js' k' = R, ⟨by omega, fun t ht => ⟨by omega, fun f hf => ?_⟩⟩, ?_⟩
      · rw [Int.toNat_natCast] at ht hf ⊢
        have hz := zip_get ht hf
        rw [drop_this _ _ _ hz, genA] at hgen
        have htk := tok_spec (htok t (List.mem_of_getElem? ht))
        refine ⟨fun h4 => ?_, fun h4 => ⟨by omega, fun f2 hf2 => ?_⟩⟩
        · have h4 := of_decide_eq_true h4
          rw [if_pos (.inl h4)] at hgen
          rw [← hgen]
        · rw [hf] at hf2
          cases hf2
          have h4 := of_decide_eq_false h4
          refine ⟨fun h5 => ?_, fun h5 => ⟨by omega, fun f3 hf3 => ?_⟩⟩
          · have h5 := of_decide_eq_true h5
            rw [if_pos (.inr h5)] at hgen
            rw [← hgen]
          · rw [hf] at hf3
            cases hf3
            have h5 := of_decide_eq_false h5
            rw [if_neg (by omega)] at hgen
            -- the task's jobs
            refine ⟨fun js2 k2 a => js2.length ≤ 1000 ∧ (∀ j ∈ js2, jok l j) ∧ 0 ≤ k2 ∧ k2 ≤ js2.length ∧ 0 ≤ a ∧ a ≤ 2000000 ∧ (match genT n t later e (1001 - js2.length) a js2 k2 with
              | .error x => .error x
              | .ok q => genA later e ((l.zip first).drop (n + 1)) (n + 1) q.1 q.2) = R, fun _ _ a => (e - a).toNat, ⟨hjl, hjo, hk0, hk1, by omega, by omega, hgen⟩, ?_⟩
            rintro js2 k2 a ⟨b1, b2, b3, b4, b5, b6, b7⟩
            obtain ⟨q, hq⟩ : ∃ q, 1001 - js2.length = q + 1 := ⟨1000 - js2.length, by omega⟩
            rw [hq, genT] at b7
            refine ⟨fun h6 => ?_, fun h6 => ?_⟩
            · have h6 := of_decide_eq_true h6
              rw [if_pos h6] at b7
              refine ⟨fun js3 k3 => js3.length ≤ 1000 ∧ (∀ j ∈ js3, jok l j) ∧ 0 ≤ k3 ∧ k3 ≤ js3.length ∧ (match genT n t later e (1001 - js3.length) (a + t.Every) js3 k3 with
                | .error x => .error x
                | .ok q => genA later e ((l.zip first).drop (n + 1)) (n + 1) q.1 q.2) = R, ⟨fun h7 => ?_, fun h7 => ?_⟩, ?_⟩
              · rw [Bool.and_eq_true, decide_eq_true_eq, decide_eq_true_eq] at h7
                obtain ⟨h7, h8⟩ := h7
                have h7 : 0 < later.length := by omega
                rw [if_pos ⟨h7, h8⟩] at b7
                have hmod : k2.tmod (later.length : Int) = k2 % (later.length : Int) := Int.tmod_eq_emod_of_nonneg b3
                have hm0 := Int.emod_nonneg k2 (show (later.length : Int) ≠ 0 by omega)
                have hm1 := Int.emod_lt_of_pos k2 (show (0 : Int) < (later.length : Int) by omega)
                refine ⟨by omega, by omega, fun v hv => ?_⟩
                rw [hv] at b7
                dsimp only at b7
                refine ⟨fun h9 => ?_, fun h9 => ?_⟩
                · rw [if_pos (of_decide_eq_true h9)] at b7
                  rw [← b7]
                · have h9 := of_decide_eq_false h9
                  rw [if_neg h9] at b7
                  have ej : w64 (t.Jitter + 1) = t.Jitter + 1 := w64_eq _ (by omega)
                  have hv0 := Int.tmod_eq_emod_of_nonneg (b := t.Jitter + 1) (show 0 ≤ v by omega)
                  have hv1 := Int.emod_nonneg v (show t.Jitter + 1 ≠ 0 by omega)
                  have hv2 := Int.emod_lt_of_pos v (show 0 < t.Jitter + 1 by omega)
                  have ea : w64 (a + v.tmod (t.Jitter + 1)) = a + v.tmod (t.Jitter + 1) := w64_eq _ (by omega)
                  rw [ej, ea, w64_eq (k2 + 1) (by omega)]
                  have hlen : (js2 ++ [(⟨(n : Int), a, a + v.tmod (t.Jitter + 1)⟩ : Job)]).length = js2.length + 1 := by simp
                  rw [hlen] at b7 ⊢
                  refine ⟨by omega, by omega, fun h10 => ?_, fun h10 => ?_⟩
                  · have h10 := of_decide_eq_true h10
                    rw [if_pos (by omega)] at b7
                    rw [← b7]
                  · have h10 := of_decide_eq_false h10
                    rw [if_neg (by omega)] at b7
                    have e9 : 1001 - (js2.length + 1) = q := by omega
                    refine ⟨by rw [hlen]; omega, ?_, by omega, by rw [hlen]; omega, by rw [hlen, e9]; exact b7⟩
                    intro j hj
                    rcases List.mem_append.1 hj with hj | hj
                    · exact b2 j hj
                    · rw [List.mem_singleton.1 hj]
                      exact ⟨by show (0 : Int) ≤ n; omega, by show (n : Int) < _; omega, by show 0 ≤ a + v.tmod (t.Jitter + 1); omega, by show a + v.tmod (t.Jitter + 1) ≤ _; omega⟩
              · have h7 : ¬ (0 < later.length ∧ 0 < t.Jitter) := by
                  intro hc
                  have : ((decide ((later.length : Int) > 0)) && (decide (t.Jitter > 0))) = true := by
                    rw [decide_eq_true (by omega), decide_eq_true hc.2]; rfl
                  rw [this] at h7
                  cases h7
                rw [if_neg h7] at b7
                have hlen : (js2 ++ [(⟨(n : Int), a, a⟩ : Job)]).length = js2.length + 1 := by simp
                rw [hlen] at b7 ⊢
                refine ⟨by omega, fun h10 => ?_, fun h10 => ?_⟩
                · have h10 := of_decide_eq_true h10
                  rw [if_pos (by omega)] at b7
                  rw [← b7]
                · have h10 := of_decide_eq_false h10
                  rw [if_neg (by omega)] at b7
                  have e9 : 1001 - (js2.length + 1) = q := by omega
                  refine ⟨by rw [hlen]; omega, ?_, by omega, by rw [hlen]; omega, by rw [hlen, e9]; exact b7⟩
                  intro j hj
                  rcases List.mem_append.1 hj with hj | hj
                  · exact b2 j hj
                  · rw [List.mem_singleton.1 hj]
                    exact ⟨by show (0 : Int) ≤ n; omega, by show (n : Int) < _; omega, b5, by show a ≤ _; omega⟩
              · rintro js3 k3 ⟨d1, d2, d3, d4, d5⟩
                rw [w64_eq (a + t.Every) (by omega)]
                exact ⟨⟨d1, d2, d3, d4, by omega, by omega, d5⟩, by (try dsimp only); omega⟩
            · have h6 := of_decide_eq_false h6
              rw [if_neg h6] at b7
              exact ⟨b1, b2, b3, b4, b7⟩
      · rintro js' k' ⟨d1, d2, d3, d4, d5⟩
        rw [w64_succ n (by omega)]
        exact ⟨⟨n + 1, rfl, by omega, d1, d2, d3, d4, d5⟩, by (try dsimp only); omega⟩
    · have hnl : n = l.length := by have := of_decide_eq_false h3; omega
      subst hnl
      have hzl : (l.zip first).length = l.length := by rw [List.length_zip, g1]; omega
      rw [List.drop_eq_nil_of_le (by omega), genA] at hgen
      subst hgen
      dsimp only
      have hkey := cmpj_keyed (l := js) fun j hj => ⟨(hjo j hj).2.2.1, (hjo j hj).2.2.2⟩
      have hspec := sortC_spec hkey
      have hlen := sortC_len (cmp := fun a b => cmpj a b) js
      refine ⟨⟨⟨_, hkey⟩, by omega⟩, fun _ => ⟨fun out now => out = playL l js.length (sortC (fun a b => cmpj a b) js) [] 0, ?_, ?_⟩⟩
      · refine ⟨fun js2 out now => ∃ m : Nat, js2.length = m ∧ m ≤ 1000 ∧ (∀ j ∈ js2, jok l j) ∧ out.length + m = js.length ∧ 0 ≤ now ∧ now ≤ 3000000 + 1000 * (out.length : Int) ∧ playL l m js2 out now = playL l js.length (sortC (fun a b => cmpj a b) js) [] 0, fun js2 _ _ => js2.length, ⟨js.length, hlen, hjl, ?_, by simp, by omega, by omega, rfl⟩, ?_⟩
        · intro j hj
          exact hjo j ((hspec.2.mem j).1 hj)
        rintro js2 out now ⟨m, rfl, hm, hjo2, hom, hn0, hn1, hpl⟩
        refine ⟨fun h4 => ?_, fun h4 => ?_⟩
        · have h4 : 0 < js2.length := by have := of_decide_eq_true h4; omega
          refine ⟨by omega, fun j0 hj0 => ?_⟩
          have hj0 : js2[0]? = some j0 := hj0
          obtain ⟨r, hr⟩ : ∃ r, js2 = j0 :: r := by
            cases js2 with
            | nil => simp at h4
            | cons x r => cases hj0; exact ⟨r, rfl⟩
          have hj0o := hjo2 j0 (List.mem_of_getElem? hj0)
          have hstep : ∀ now2 : Int, now2 = (if j0.asked > now then j0.asked else now) → ∀ b : Nat, b = bestF now2 js2 js2 0 0 → b < js2.length → ∀ q, js2[b]? = some q → playL l (js2.length - 1) (js2.take b ++ js2.drop (b + 1)) (out ++ [⟨q.task, q.from_, now2, now2 + longJ l q + 3⟩]) (now2 + longJ l q + 3) = playL l js2.length js2 out now := by
            intro now2 hn2 b hb hbl q hq
            have e : playL l js2.length js2 out now = (fun now2 => (fun b => (fun j => playL l (js2.length - 1) (js2.take b ++ js2.drop (b + 1)) (out ++ [⟨j.task, j.from_, now2, now2 + longJ l j + 3⟩]) (now2 + longJ l j + 3)) (js2[b]?.getD default)) (bestF now2 js2 js2 0 0)) (if j0.asked > now then j0.asked else now) := by
              rw [hr, List.length_cons, playL]
              rfl
            rw [e, ← hn2]
            dsimp only
            rw [← hb, hq, Option.getD_some]
          have fin : ∀ now2 : Int, now2 = (if j0.asked > now then j0.asked else now) → ∀ b : Nat, b = bestF now2 js2 js2 0 0 → b < js2.length →
              ((0 ≤ (b : Int) ∧ (b : Int) < (js2.length : Int)) ∧
                (∀ q1066, js2[((b : Nat) : Int).toNat]? = some q1066 →
                ((0 ≤ (b : Int) ∧ (b : Int) ≤ (w64 ((b : Int) + 1)) ∧ (w64 ((b : Int) + 1)) ≤ (js2.length : Int)) ∧
                ((sdelS js2 (b : Int) (w64 ((b : Int) + 1))).length ≤ 140737488355328 →
                ((0 ≤ q1066.task ∧ q1066.task < (l.length : Int)) ∧
                (∀ q1117, l[q1066.task.toNat]? = some q1117 →
                (((out.length + 1) * 32 ≤ 140737488355328) ∧
                ((∃ m : Nat, (sdelS js2 (b : Int) (w64 ((b : Int) + 1))).length = m ∧ m ≤ 1000 ∧ (∀ j ∈ (sdelS js2 (b : Int) (w64 ((b : Int) + 1))), jok l j) ∧ (out ++ [(⟨q1066.task, q1066.from_, now2, w64 ((w64 (now2 + ((flongestS false false q1117.Bytes).1))) + 3)⟩ : Slot)]).length + m = js.length ∧ 0 ≤ (w64 ((w64 (now2 + ((flongestS false false q1117.Bytes).1))) + 3)) ∧ (w64 ((w64 (now2 + ((flongestS false false q1117.Bytes).1))) + 3)) ≤ 3000000 + 1000 * ((out ++ [(⟨q1066.task, q1066.from_, now2, w64 ((w64 (now2 + ((flongestS false false q1117.Bytes).1))) + 3)⟩ : Slot)]).length : Int) ∧ playL l m (sdelS js2 (b : Int) (w64 ((b : Int) + 1))) (out ++ [(⟨q1066.task, q1066.from_, now2, w64 ((w64 (now2 + ((flongestS false false q1117.Bytes).1))) + 3)⟩ : Slot)]) (w64 ((w64 (now2 + ((flongestS false false q1117.Bytes).1))) + 3)) = playL l js.length (sortC (fun a b => cmpj a b) js) [] 0) ∧ (sdelS js2 (b : Int) (w64 ((b : Int) + 1))).length < js2.length)))))))) := by
            intro now2 hn2 b hb hbl
            have hnow : 0 ≤ now2 ∧ now2 ≤ 3000000 + 1000 * (out.length : Int) := by
              have := hj0o.2.2
              rw [hn2]
              split <;> omega
            refine ⟨by omega, fun q hq => ?_⟩
            rw [Int.toNat_natCast] at hq
            have hqo := hjo2 q (List.mem_of_getElem? hq)
            rw [w64_succ b (by omega)]
            refine ⟨by omega, fun _ => ⟨⟨hqo.1, hqo.2.1⟩, fun t ht => ⟨by omega, ?_⟩⟩⟩
            have hlb := long_bound (htok t (List.mem_of_getElem? ht))
            have hlong : longJ l q = (flongestS false false t.Bytes).1 := by unfold longJ; rw [ht, Option.getD_some]
            rw [w64_eq (now2 + (flongestS false false t.Bytes).1) (by omega), w64_eq _ (by omega)]
            have hdl : (sdelS js2 (b : Int) ((b + 1 : Nat) : Int)) = js2.take b ++ js2.drop (b + 1) := by unfold sdelS; rw [Int.toNat_natCast, Int.toNat_natCast]
            have hdn : (js2.take b ++ js2.drop (b + 1)).length = js2.length - 1 := by rw [List.length_append, List.length_take, List.length_drop]; omega
            rw [hdl, hdn]
            refine ⟨⟨_, rfl, by omega, ?_, by simp; omega, by omega, by simp; omega, ?_⟩, by omega⟩
            · intro j hj
              rcases List.mem_append.1 hj with hj | hj
              · exact hjo2 j (List.mem_of_mem_take hj)
              · exact hjo2 j (List.mem_of_mem_drop hj)
            · rw [← hlong]
              exact (hstep now2 hn2 b hb hbl q hq).trans hpl
          refine ⟨fun h5 => ⟨by omega, fun j1 hj1 => ?_⟩, fun h5 => ?_⟩
          · have hj1 : js2[0]? = some j1 := hj1
            rw [hj0] at hj1
            cases hj1
            have h5 := of_decide_eq_true h5
            exact pick_loop (Q := fun b => b = bestF j0.asked js2 js2 0 0 ∧ b < js2.length) hm h4 (fun b h6 h7 => ⟨h6, h7⟩) fun b hb => fin j0.asked (by rw [if_pos h5]) b hb.1 hb.2
          · have h5 := of_decide_eq_false h5
            exact pick_loop (Q := fun b => b = bestF now js2 js2 0 0 ∧ b < js2.length) hm h4 (fun b h6 h7 => ⟨h6, h7⟩) fun b hb => fin now (by rw [if_neg h5]) b hb.1 hb.2
        · have h4 : js2 = [] := by
            have := of_decide_eq_false h4
            exact List.eq_nil_of_length_eq_zero (by omega)
          subst h4
          rw [← hpl]
          rfl
      · rintro out now rfl
        rfl

end Go.Proofs.Ytginlmgkimfjmaa
