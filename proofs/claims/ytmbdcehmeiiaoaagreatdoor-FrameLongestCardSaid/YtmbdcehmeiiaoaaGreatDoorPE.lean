/- What must hold so that each function ends well: pure predicates, made by program. -/
import Derived.Test.YtmbdcehmeiiaoaaGreatDoorPD
set_option linter.unusedVariables false
set_option linter.unusedSimpArgs false
namespace Go.Proofs.YtmbdcehmeiiaoaaGreatDoor
open Go.Sy Go.RowKit
def rnames_vc (u0 : FReader) (K : FReader → Prop) : Prop :=
  (u0.f.Data.length ≤ 140737488355328 →
    ((Rok u0.Reader) ∧
    (∀ r15, (rwantS u0 ([48] : List UInt8)) = r15 →
    (r15.f.Data.length ≤ 140737488355328 →
    ((Rok r15.Reader ∧ 0 ≤ (11 : Int) ∧ (11 : Int) ≤ 62) ∧
    (∀ r37, (rnumberS r15 11) = r37 →
    (r37.2.f.Data.length ≤ 140737488355328 →
    ((Rok (⟨r37.2.Reader, (⟨r37.1, r37.2.f.Long, r37.2.f.Fast, r37.2.f.Remote, r37.2.f.Size, r37.2.f.Data⟩ : Frame)⟩ : FReader).Reader ∧ (1 : Int) ≤ 9223372036854775807) ∧
    (∀ r70, (rtakeFS (⟨r37.2.Reader, (⟨r37.1, r37.2.f.Long, r37.2.f.Fast, r37.2.f.Remote, r37.2.f.Size, r37.2.f.Data⟩ : Frame)⟩ : FReader) 1) = r70 →
    (r70.2.f.Data.length ≤ 140737488355328 →
    ((Rok r70.2.Reader ∧ (1 : Int) ≤ 9223372036854775807) ∧
    (∀ r101, (rtakeFS r70.2 1) = r101 →
    (r101.2.f.Data.length ≤ 140737488355328 →
    (∃ inv150 : FReader → Prop,
    (((r101.1 == ([49] : List UInt8)) = true →
      (∃ inv383 : FReader → Prop,
      (((!(r70.1 == ([49] : List UInt8))) = true →
        (∀ r694, (rfailS (⟨r101.2.Reader, (⟨r101.2.f.ID, r101.1 == ([49] : List UInt8), r101.2.f.Fast, r70.1 == ([49] : List UInt8), r101.2.f.Size, r101.2.f.Data⟩ : Frame)⟩ : FReader) 4) = r694 →
        (r694.f.Data.length ≤ 140737488355328 →
        (inv383 r694)))) ∧
      ((!(r70.1 == ([49] : List UInt8))) = false →
        (inv383 (⟨r101.2.Reader, (⟨r101.2.f.ID, r101.1 == ([49] : List UInt8), r101.2.f.Fast, r70.1 == ([49] : List UInt8), r101.2.f.Size, r101.2.f.Data⟩ : Frame)⟩ : FReader)))) ∧
      (∀ (yb1v : FReader), inv383 yb1v →
        ((Rok yb1v.Reader ∧ 0 ≤ (18 : Int) ∧ (18 : Int) ≤ 62) ∧
        ((Rok (⟨(((rnumberS yb1v 18).2).Reader), (⟨bOr .i64 (bShl .i64 yb1v.f.ID 18) ((rnumberS yb1v 18).1), yb1v.f.Long, yb1v.f.Fast, yb1v.f.Remote, yb1v.f.Size, yb1v.f.Data⟩ : Frame)⟩ : FReader).Reader ∧ (1 : Int) ≤ 9223372036854775807) ∧
        (∀ r662, (rtakeFS (⟨(((rnumberS yb1v 18).2).Reader), (⟨bOr .i64 (bShl .i64 yb1v.f.ID 18) ((rnumberS yb1v 18).1), yb1v.f.Long, yb1v.f.Fast, yb1v.f.Remote, yb1v.f.Size, yb1v.f.Data⟩ : Frame)⟩ : FReader) 1) = r662 →
        (r662.2.f.Data.length ≤ 140737488355328 →
        (inv150 (⟨r662.2.Reader, (⟨r662.2.f.ID, r662.2.f.Long, r662.2.f.Fast, r662.1 == ([49] : List UInt8), r662.2.f.Size, r662.2.f.Data⟩ : Frame)⟩ : FReader))))))))) ∧
    ((r101.1 == ([49] : List UInt8)) = false →
      (inv150 (⟨r101.2.Reader, (⟨r101.2.f.ID, r101.1 == ([49] : List UInt8), r101.2.f.Fast, r70.1 == ([49] : List UInt8), r101.2.f.Size, r101.2.f.Data⟩ : Frame)⟩ : FReader)))) ∧
    (∀ (yb1 : FReader), inv150 yb1 →
      ((Rok yb1.Reader ∧ (1 : Int) ≤ 9223372036854775807) ∧
      (∀ r183, (rtakeFS yb1 1) = r183 →
      (r183.2.f.Data.length ≤ 140737488355328 →
      (((r183.1 == ([49] : List UInt8)) = true →
        (∃ inv233 : FReader → Prop,
        ((r183.2.f.Remote = true →
          (∀ r324, (rfailS (⟨r183.2.Reader, (⟨r183.2.f.ID, r183.2.f.Long, r183.1 == ([49] : List UInt8), r183.2.f.Remote, r183.2.f.Size, r183.2.f.Data⟩ : Frame)⟩ : FReader) 4) = r324 →
          (r324.f.Data.length ≤ 140737488355328 →
          (inv233 r324)))) ∧
        (r183.2.f.Remote = false →
          (inv233 (⟨r183.2.Reader, (⟨r183.2.f.ID, r183.2.f.Long, r183.1 == ([49] : List UInt8), r183.2.f.Remote, r183.2.f.Size, r183.2.f.Data⟩ : Frame)⟩ : FReader)))) ∧
        (∀ (yb1v : FReader), inv233 yb1v →
          ((Rok yb1v.Reader) ∧
          (∀ r263, (rwantS yb1v ([48] : List UInt8)) = r263 →
          (r263.f.Data.length ≤ 140737488355328 →
          ((Rok r263.Reader) ∧
          (∀ r283, (rwantS r263 ([49] : List UInt8)) = r283 →
          (r283.f.Data.length ≤ 140737488355328 →
          ((Rok r283.Reader) ∧
          (∀ r303, (rwantS r283 ([48] : List UInt8)) = r303 →
          (r303.f.Data.length ≤ 140737488355328 →
          (K r303))))))))))))) ∧
      ((r183.1 == ([49] : List UInt8)) = false →
        ((r183.2.f.Long = true →
          ((Rok (⟨r183.2.Reader, (⟨r183.2.f.ID, r183.2.f.Long, r183.1 == ([49] : List UInt8), r183.2.f.Remote, r183.2.f.Size, r183.2.f.Data⟩ : Frame)⟩ : FReader).Reader) ∧
          (∀ r362, (rwantS (⟨r183.2.Reader, (⟨r183.2.f.ID, r183.2.f.Long, r183.1 == ([49] : List UInt8), r183.2.f.Remote, r183.2.f.Size, r183.2.f.Data⟩ : Frame)⟩ : FReader) ([48] : List UInt8)) = r362 →
          (r362.f.Data.length ≤ 140737488355328 →
          (K r362))))) ∧
        (r183.2.f.Long = false →
          (K (⟨r183.2.Reader, (⟨r183.2.f.ID, r183.2.f.Long, r183.1 == ([49] : List UInt8), r183.2.f.Remote, r183.2.f.Size, r183.2.f.Data⟩ : Frame)⟩ : FReader))))))))))))))))))))))))

def fBits_vc (u0 : Frame) (K : ((List UInt8) × Int) → Prop) : Prop :=
  (u0.Data.length ≤ 140737488355328 →
    ((((fcheckfr u0) != 0) = true →
      (K ([], (fcheckfr u0)))) ∧
    (((fcheckfr u0) != 0) = false →
      ((fheadpre u0) ∧
      (((!u0.Fast) = true →
        ((((fheadS u0).length : Int) + (((csumS 0 (fheadS u0)).1).length : Int) ≤ 9223372036854775807) ∧
        (((((sputS ((fheadS u0) ++ ((csumS 0 (fheadS u0)).1))).1).length : Int) + (([49, 49, 49, 49, 49, 49, 49, 49, 49, 49] : List UInt8).length : Int) ≤ 9223372036854775807) ∧
        (K (((sputS ((fheadS u0) ++ ((csumS 0 (fheadS u0)).1))).1) ++ ([49, 49, 49, 49, 49, 49, 49, 49, 49, 49] : List UInt8), 0))))) ∧
      ((!u0.Fast) = false →
        ((0 ≤ (w64 ((((sputS (fheadS u0)).1).length : Int) - ((fheadS u0).length : Int)))) ∧
        (((((sputS (fheadS u0)).1).length : Int) + ((fcountS (w64 ((((sputS (fheadS u0)).1).length : Int) - ((fheadS u0).length : Int)))).length : Int) ≤ 9223372036854775807) ∧
        ((((fcountS (w64 ((((sputS (fheadS u0)).1).length : Int) - ((fheadS u0).length : Int)))).length : Int) + (((csumS (fkind u0) (((sputS (fheadS u0)).1) ++ (fcountS (w64 ((((sputS (fheadS u0)).1).length : Int) - ((fheadS u0).length : Int)))))).1).length : Int) ≤ 9223372036854775807) ∧
        ((0 ≤ w64 ((((sputS (fheadS u0)).1).length : Int) - 1) ∧ w64 ((((sputS (fheadS u0)).1).length : Int) - 1) < (((sputS (fheadS u0)).1).length : Int)) ∧
        (∀ c199, ((sputS (fheadS u0)).1)[(w64 ((((sputS (fheadS u0)).1).length : Int) - 1)).toNat]? = some c199 →
        (((((sputS (fheadS u0)).1).length : Int) + (((sfixedS ((fcountS (w64 ((((sputS (fheadS u0)).1).length : Int) - ((fheadS u0).length : Int)))) ++ ((csumS (fkind u0) (((sputS (fheadS u0)).1) ++ (fcountS (w64 ((((sputS (fheadS u0)).1).length : Int) - ((fheadS u0).length : Int)))))).1)) (c199.toNat : Int)).1).length : Int) ≤ 9223372036854775807) ∧
        ((((((sputS (fheadS u0)).1) ++ ((sfixedS ((fcountS (w64 ((((sputS (fheadS u0)).1).length : Int) - ((fheadS u0).length : Int)))) ++ ((csumS (fkind u0) (((sputS (fheadS u0)).1) ++ (fcountS (w64 ((((sputS (fheadS u0)).1).length : Int) - ((fheadS u0).length : Int)))))).1)) (c199.toNat : Int)).1)).length : Int) + (([49, 49, 49, 49, 49, 49, 49, 49, 49, 49] : List UInt8).length : Int) ≤ 9223372036854775807) ∧
        (K ((((sputS (fheadS u0)).1) ++ ((sfixedS ((fcountS (w64 ((((sputS (fheadS u0)).1).length : Int) - ((fheadS u0).length : Int)))) ++ ((csumS (fkind u0) (((sputS (fheadS u0)).1) ++ (fcountS (w64 ((((sputS (fheadS u0)).1).length : Int) - ((fheadS u0).length : Int)))))).1)) (c199.toNat : Int)).1)) ++ ([49, 49, 49, 49, 49, 49, 49, 49, 49, 49] : List UInt8), 0)))))))))))))))

def flongest_vc (u0 : Bool) (u1 : Bool) (u2 : Int) (K : (Int × Int) → Prop) : Prop :=
  ((((decide (u2 < 0)) || (decide (u2 > 64))) = true →
      (K (0, 2))) ∧
    (((decide (u2 < 0)) || (decide (u2 > 64))) = false →
      ((0 ≤ u2 ∧ u2 ≤ u2 ∧ u2 * 1 ≤ 140737488355328) ∧
      ((((fcheckfr (⟨0, u0, u1, false, 0, (List.replicate u2.toNat (0 : Int))⟩ : Frame)) != 0) = true →
        (K (0, (fcheckfr (⟨0, u0, u1, false, 0, (List.replicate u2.toNat (0 : Int))⟩ : Frame))))) ∧
      (((fcheckfr (⟨0, u0, u1, false, 0, (List.replicate u2.toNat (0 : Int))⟩ : Frame)) != 0) = false →
        ((fheadpre (⟨0, u0, u1, false, 0, (List.replicate u2.toNat (0 : Int))⟩ : Frame)) ∧
        (((!u1) = true →
          (K (w64 (((smost (w64 (((fheadS (⟨0, u0, u1, false, 0, (List.replicate u2.toNat (0 : Int))⟩ : Frame)).length : Int) + 15))).1) + 10), 0))) ∧
        ((!u1) = false →
          (K (w64 ((w64 (((smost ((fheadS (⟨0, u0, u1, false, 0, (List.replicate u2.toNat (0 : Int))⟩ : Frame)).length : Int)).1) + (w64 ((w64 (4 + ((csize (fkind (⟨0, u0, u1, false, 0, (List.replicate u2.toNat (0 : Int))⟩ : Frame))).1))) + (w64 ((w64 ((w64 (4 + ((csize (fkind (⟨0, u0, u1, false, 0, (List.replicate u2.toNat (0 : Int))⟩ : Frame))).1))) + 3)).tdiv 4)))))) + 10), 0))))))))))

/-! Pure proofs: no program in sight. -/
theorem take_put (b : List UInt8) : ∀ (c : Counter) (r : List UInt8), ∃ c', takeF c (putF c b ++ r) b.length = .ok (b, r, c') := by
  induction b with
  | nil => intro c r; exact ⟨c, by simp [putF, takeF]⟩
  | cons x b ih =>
    intro c r
    rw [putF]
    by_cases h5 : (nx c x).n = 5
    · obtain ⟨c', hc⟩ := ih (nx (nx c x) (flip x)) r
      rw [if_pos h5]
      refine ⟨c', ?_⟩
      rw [List.cons_append, List.cons_append, List.length_cons, takeF_cons, if_pos h5]
      dsimp only
      rw [if_pos rfl, hc]
      rfl
    · obtain ⟨c', hc⟩ := ih (nx c x) r
      rw [if_neg h5]
      refine ⟨c', ?_⟩
      rw [List.cons_append, List.length_cons, takeF_cons, if_neg h5, hc]
      rfl
theorem put_row (b : List UInt8) (h : isRow b = true) : ∀ c, isRow (putF c b) = true := by
  induction b with
  | nil => exact fun _ => rfl
  | cons x b ih =>
    intro c
    rw [isRow_cons, Bool.and_eq_true] at h
    rw [putF]
    split
    · rw [isRow_cons, isRow_cons, h.1, isBit_flip, ih h.2]; rfl
    · rw [isRow_cons, h.1, ih h.2]; rfl
theorem put_best (b : List UInt8) : ∀ c : Counter, 0 ≤ c.n ∧ c.n ≤ 4 → bestF c (putF c b) ≤ 5 := by
  induction b with
  | nil => intro c h; simp [putF, bestF]
  | cons x b ih =>
    intro c h
    have hb := nx_bound c x 4 h
    rw [putF]
    split
    · rename_i h5
      rw [bestF, bestF]
      have e := nx_flip c x
      have := ih (nx (nx c x) (flip x)) (by rw [e]; exact ⟨by show (0 : Int) ≤ 1; decide, by show (1 : Int) ≤ 4; decide⟩)
      have e1 : (nx (nx c x) (flip x)).n = 1 := by rw [e]
      omega
    · rename_i h5
      rw [bestF]
      have := ih (nx c x) (by omega)
      omega
theorem put_length (b : List UInt8) : ∀ c : Counter, 1 ≤ c.n ∧ c.n ≤ 4 → ((putF c b).length : Int) ≤ b.length + (c.n - 1 + b.length) / 4 ∧ b.length ≤ (putF c b).length := by
  induction b with
  | nil => intro c h; simp [putF]; omega
  | cons x b ih =>
    intro c h
    have hb := nx_bound c x 4 ⟨by omega, by omega⟩
    have hn := nx_n c x
    rw [putF]
    split
    · rename_i h5
      have e := nx_flip c x
      have := ih (nx (nx c x) (flip x)) (by rw [e]; exact ⟨by show (1 : Int) ≤ 1; decide, by show (1 : Int) ≤ 4; decide⟩)
      have e1 : (nx (nx c x) (flip x)).n = 1 := by rw [e]
      rw [e1] at this
      have hc4 : c.n = 4 := by
        rw [h5] at hn
        split at hn <;> omega
      simp only [List.length_cons]
      omega
    · rename_i h5
      have := ih (nx c x) (by omega)
      have hle : (nx c x).n ≤ c.n + 1 := by rw [hn]; split <;> omega
      simp only [List.length_cons]
      omega
theorem put_length0 (b : List UInt8) (h : isRow b = true) : ((putF ⟨0, 0⟩ b).length : Int) ≤ (smost b.length).1 ∨ 1000 < b.length := by
  rcases Nat.lt_or_ge 1000 b.length with h1 | h1
  · exact .inr h1
  · left
    cases b with
    | nil => decide
    | cons x b =>
      rw [isRow_cons, Bool.and_eq_true] at h
      rw [List.length_cons] at h1
      have e0 : nx ⟨0, 0⟩ x = ⟨(x.toNat : Int), 1⟩ := by rcases isBit_or h.1 with rfl | rfl <;> rfl
      have := put_length b (nx ⟨0, 0⟩ x) (by rw [e0]; exact ⟨by show (1 : Int) ≤ 1; decide, by show (1 : Int) ≤ 4; decide⟩)
      have e1 : (nx ⟨0, 0⟩ x).n = 1 := by rw [e0]
      rw [e1] at this
      rw [putF, if_neg (by rw [e1]; decide)]
      have hs : (smost ((x :: b).length : Nat)).1 = ((b.length + 1 : Nat) : Int) + (b.length : Int) / 4 := by
        unfold smost
        have g1 : ((decide ((((x :: b).length : Nat) : Int) < 0)) || (decide ((((x :: b).length : Nat) : Int) > 1000))) = false := by simp; omega
        have g2 : ((((x :: b).length : Nat) : Int) == 0) = false := by simp; omega
        rw [g1, g2]
        show w64 ((((x :: b).length : Nat) : Int) + w64 ((w64 ((((x :: b).length : Nat) : Int) - 1)).tdiv 4)) = _
        rw [List.length_cons]
        have e3 : w64 (((b.length + 1 : Nat) : Int) - 1) = (b.length : Int) := by rw [w64_eq _ (by omega)]; omega
        rw [e3, Int.tdiv_eq_ediv_of_nonneg (by omega), w64_eq ((b.length : Int) / 4) (by omega), w64_eq _ (by omega)]
      rw [hs, List.length_cons]
      omega
theorem sputS_ok {b : List UInt8} (h : (sputS b).2 = 0) : bcheckS b = 0 ∧ b.length ≤ 1000 ∧ isRow b = true ∧ sputS b = (putF ⟨0, 0⟩ b, 0) := by
  unfold sputS at h ⊢
  by_cases h1 : bcheckS b ≠ 0
  · rw [if_pos h1] at h; exact absurd h h1
  · rw [if_neg h1]
    have h2 : bcheckS b = 0 := by simpa using h1
    exact ⟨h2, ((bcheck_zero b).1 h2).1, ((bcheck_zero b).1 h2).2, rfl⟩
theorem put_len2 (b : List UInt8) : ∀ c, (putF c b).length ≤ 2 * b.length ∧ b.length ≤ (putF c b).length := by
  induction b with
  | nil => intro c; simp [putF]
  | cons x b ih =>
    intro c
    rw [putF]
    split
    · have := ih (nx (nx c x) (flip x)); simp only [List.length_cons]; omega
    · have := ih (nx c x); simp only [List.length_cons]; omega
theorem smost_eq (n : Int) (h : 0 ≤ n ∧ n ≤ 1000) : smost n = (w64 (n + w64 ((max (w64 (n - 1)) 0).tdiv 4)), 0) := by
  unfold smost
  have g1 : ((decide (n < 0)) || (decide (n > 1000))) = false := by simp; omega
  rw [g1]
  by_cases h0 : n = 0
  · subst h0; rfl
  · have g2 : (n == 0) = false := by simpa using h0
    rw [g2]
    show (w64 (n + w64 ((w64 (n - 1)).tdiv 4)), (0 : Int)) = _
    rw [w64_eq (n - 1) (by omega)]
    have : max (n - 1) 0 = n - 1 := by omega
    rw [this]
abbrev lframe (lo fa : Bool) (n : Int) : Frame := ⟨0, lo, fa, false, 0, List.replicate n.toNat (0 : Int)⟩
def flongestS (lo fa : Bool) (n : Int) : Int × Int :=
  if n < 0 ∨ 64 < n then (0, 2) else if fcheckfr (lframe lo fa n) ≠ 0 then (0, fcheckfr (lframe lo fa n)) else
  if fa = false then (w64 ((smost (w64 (((fheadS (lframe lo fa n)).length : Int) + 15))).1 + 10), 0)
  else (w64 (w64 ((smost ((fheadS (lframe lo fa n)).length : Int)).1 + w64 (w64 (4 + (csize (fkind (lframe lo fa n))).1) + w64 ((w64 (w64 (4 + (csize (fkind (lframe lo fa n))).1) + 3)).tdiv 4))) + 10), 0)
theorem flongest_ok (lo fa : Bool) (n : Int) : flongest_vc lo fa n (fun r => r = flongestS lo fa n) := by
  refine ⟨fun h => ?_, fun h => ⟨?_, fun h1 => ?_, fun h1 => ⟨?_, fun h2 => ?_, fun h2 => ?_⟩⟩⟩
  · unfold flongestS
    rw [if_pos (by simpa using h)]
  · simp at h; omega
  all_goals
    have h : ¬ (n < 0 ∨ 64 < n) := by simp at h; omega
  · have h1 : fcheckfr (lframe lo fa n) ≠ 0 := by simpa using h1
    unfold flongestS
    rw [if_neg h, if_pos h1]
  · have h1 : fcheckfr (lframe lo fa n) = 0 := by simpa using h1
    obtain ⟨c1, c2, c3, c4, c5, c6, c7, c8, c9, c10⟩ := fcheckfr_zero h1
    refine ⟨c1, c2, c5, c6, c8, fun x hx => ?_, fun _ => c10⟩
    have : x = 0 := List.eq_of_mem_replicate hx
    omega
  · have h1' : fcheckfr (lframe lo fa n) = 0 := by simpa using h1
    have h1 : ¬ fcheckfr (lframe lo fa n) ≠ 0 := fun h => h h1'
    unfold flongestS
    rw [if_neg h, if_neg h1, if_pos (by simpa using h2)]
  · have h1' : fcheckfr (lframe lo fa n) = 0 := by simpa using h1
    have h1 : ¬ fcheckfr (lframe lo fa n) ≠ 0 := fun h => h h1'
    unfold flongestS
    rw [if_neg h, if_neg h1, if_neg (by simpa using h2)]
def nam1 (r : FReader) : FReader := ⟨(rnumberS (rwantS r [48]) 11).2.Reader, ⟨(rnumberS (rwantS r [48]) 11).1, (rnumberS (rwantS r [48]) 11).2.f.Long, (rnumberS (rwantS r [48]) 11).2.f.Fast, (rnumberS (rwantS r [48]) 11).2.f.Remote, (rnumberS (rwantS r [48]) 11).2.f.Size, (rnumberS (rwantS r [48]) 11).2.f.Data⟩⟩
def nam2 (c d : List UInt8 × FReader) : FReader := ⟨d.2.Reader, ⟨d.2.f.ID, d.1 == [49], d.2.f.Fast, c.1 == [49], d.2.f.Size, d.2.f.Data⟩⟩
def nam3 (c : Bool) (r : FReader) : FReader := if c = true then r else rfailS r 4
def nam4 (r : FReader) : FReader := ⟨(rnumberS r 18).2.Reader, ⟨bOr .i64 (bShl .i64 r.f.ID 18) (rnumberS r 18).1, r.f.Long, r.f.Fast, r.f.Remote, r.f.Size, r.f.Data⟩⟩
def nam5 (g : List UInt8 × FReader) : FReader := ⟨g.2.Reader, ⟨g.2.f.ID, g.2.f.Long, g.2.f.Fast, g.1 == [49], g.2.f.Size, g.2.f.Data⟩⟩
def nam6 (r : FReader) : FReader :=
  if ((rtakeFS (rtakeFS (nam1 r) 1).2 1).1 == [49]) = true then
    nam5 (rtakeFS (nam4 (nam3 ((rtakeFS (nam1 r) 1).1 == [49]) (nam2 (rtakeFS (nam1 r) 1) (rtakeFS (rtakeFS (nam1 r) 1).2 1)))) 1)
  else nam2 (rtakeFS (nam1 r) 1) (rtakeFS (rtakeFS (nam1 r) 1).2 1)
def nam7 (h : List UInt8 × FReader) : FReader := ⟨h.2.Reader, ⟨h.2.f.ID, h.2.f.Long, h.1 == [49], h.2.f.Remote, h.2.f.Size, h.2.f.Data⟩⟩
def nam8 (h : List UInt8 × FReader) : FReader :=
  if (h.1 == [49]) = true then rwantS (rwantS (rwantS (if h.2.f.Remote = true then rfailS (nam7 h) 4 else nam7 h) [48]) [49]) [48]
  else if h.2.f.Long = true then rwantS (nam7 h) [48] else nam7 h
def rnamesS (r : FReader) : FReader := nam8 (rtakeFS (nam6 r) 1)
theorem rtakeFS_Rok {r : FReader} {n : Int} (h : Rok r.Reader) : Rok (rtakeFS r n).2.Reader := (rtakeS_Rok n h).1
theorem nam1_Rok {r : FReader} (h : Rok r.Reader) : Rok (nam1 r).Reader := rnumberS_Rok (rwantS_Rok h)
theorem nam3_Rok {r : FReader} {c : Bool} (h : Rok r.Reader) : Rok (nam3 c r).Reader := by unfold nam3; split; exact h; exact rfailS_Rok h
theorem nam4_Rok {r : FReader} (h : Rok r.Reader) : Rok (nam4 r).Reader := rnumberS_Rok h
theorem nam6_Rok {r : FReader} (h : Rok r.Reader) : Rok (nam6 r).Reader := by
  have h1 : Rok (rtakeFS (rtakeFS (nam1 r) 1).2 1).2.Reader := rtakeFS_Rok (rtakeFS_Rok (nam1_Rok h))
  unfold nam6
  split
  · exact rtakeFS_Rok (nam4_Rok (nam3_Rok h1))
  · exact h1
theorem nam8_Rok {h : List UInt8 × FReader} (hR : Rok h.2.Reader) : Rok (nam8 h).Reader := by
  unfold nam8
  split
  · refine rwantS_Rok (rwantS_Rok (rwantS_Rok ?_))
    split
    · exact rfailS_Rok hR
    · exact hR
  · split
    · exact rwantS_Rok hR
    · exact hR
theorem rnamesS_Rok {r : FReader} (h : Rok r.Reader) : Rok (rnamesS r).Reader := nam8_Rok (rtakeFS_Rok (nam6_Rok h))
theorem rnames_ok (r : FReader) (h : Rok r.Reader) : rnames_vc r (fun q => q = rnamesS r) := by
  intro _
  refine ⟨h, ?_⟩
  rintro a ha _
  have ha' : a = rwantS r [48] := ha.symm
  refine ⟨by rw [ha']; exact ⟨rwantS_Rok h, by decide, by decide⟩, ?_⟩
  rintro b hb _
  have hn1 : nam1 r = ⟨b.2.Reader, ⟨b.1, b.2.f.Long, b.2.f.Fast, b.2.f.Remote, b.2.f.Size, b.2.f.Data⟩⟩ := by unfold nam1; rw [← ha', hb]
  rw [← hn1]
  refine ⟨⟨nam1_Rok h, by decide⟩, ?_⟩
  rintro c rfl _
  refine ⟨⟨rtakeFS_Rok (nam1_Rok h), by decide⟩, ?_⟩
  rintro d rfl _
  have hd : Rok (rtakeFS (rtakeFS (nam1 r) 1).2 1).2.Reader := rtakeFS_Rok (rtakeFS_Rok (nam1_Rok h))
  refine ⟨fun y => y = nam6 r, ⟨fun h1 => ⟨fun y => y = nam3 ((rtakeFS (nam1 r) 1).1 == [49]) (nam2 (rtakeFS (nam1 r) 1) (rtakeFS (rtakeFS (nam1 r) 1).2 1)), ⟨fun h2 => ?_, fun h2 => ?_⟩, ?_⟩, fun h1 => ?_⟩, ?_⟩
  · rintro y rfl _
    have h2 : ((rtakeFS (nam1 r) 1).1 == [49]) = false := by simpa using h2
    unfold nam3
    rw [if_neg (by rw [h2]; simp)]
    rfl
  · have h2 : ((rtakeFS (nam1 r) 1).1 == [49]) = true := by simpa using h2
    unfold nam3
    rw [if_pos h2]
    rfl
  · rintro y rfl
    have h3 : Rok (nam3 ((rtakeFS (nam1 r) 1).1 == [49]) (nam2 (rtakeFS (nam1 r) 1) (rtakeFS (rtakeFS (nam1 r) 1).2 1))).Reader := nam3_Rok hd
    generalize hy : nam3 ((rtakeFS (nam1 r) 1).1 == [49]) (nam2 (rtakeFS (nam1 r) 1) (rtakeFS (rtakeFS (nam1 r) 1).2 1)) = y at *
    refine ⟨⟨h3, by decide, by decide⟩, ⟨nam4_Rok h3, by decide⟩, ?_⟩
    rintro g hg _
    have hg' : g = rtakeFS (nam4 y) 1 := hg.symm
    unfold nam6
    rw [if_pos h1, hy, ← hg']
    rfl
  · unfold nam6
    rw [if_neg (by rw [h1]; simp)]
    rfl
  · rintro y rfl
    have h6 := nam6_Rok h
    refine ⟨⟨h6, by decide⟩, ?_⟩
    rintro q hq _
    have hqR : Rok q.2.Reader := by rw [← hq]; exact rtakeFS_Rok h6
    have hS : rnamesS r = nam8 q := by unfold rnamesS; rw [hq]
    rw [hS]
    refine ⟨fun h1 => ⟨fun y => y = if q.2.f.Remote = true then rfailS (nam7 q) 4 else nam7 q, ⟨fun h2 => ?_, fun h2 => ?_⟩, ?_⟩, fun h1 => ⟨fun h2 => ⟨hqR, ?_⟩, fun h2 => ?_⟩⟩
    · rintro y rfl _
      rw [if_pos h2]
      unfold nam7
      rw [h1]
    · rw [if_neg (by rw [h2]; simp)]
      unfold nam7
      rw [h1]
    · rintro y hy
      have hyR : Rok y.Reader := by
        rw [hy]
        split
        · exact rfailS_Rok hqR
        · exact hqR
      refine ⟨hyR, ?_⟩
      rintro z rfl _
      refine ⟨rwantS_Rok hyR, ?_⟩
      rintro z rfl _
      refine ⟨rwantS_Rok (rwantS_Rok hyR), ?_⟩
      rintro z rfl _
      unfold nam8
      rw [if_pos h1, ← hy]
    · rintro y rfl _
      unfold nam8
      rw [if_neg (by rw [h1]; simp), if_pos h2]
      unfold nam7
      rw [h1]
    · unfold nam8
      rw [if_neg (by rw [h1]; simp), if_neg (by rw [h2]; simp)]
      unfold nam7
      rw [h1]
theorem csumS_bound (i : Int) (b : List UInt8) : (csumS i b).1.length ≤ 21 ∧ isRow (csumS i b).1 = true := by
  unfold csumS
  split
  · exact ⟨by simp, rfl⟩
  · split
    · rename_i h
      have := kind_size (isKind_iff.1 h)
      refine ⟨?_, wr_row _ _⟩
      show (wr _ _).length ≤ 21
      rw [wr_length]
      unfold sizeN
      omega
    · exact ⟨by simp, rfl⟩
theorem cnt4_ok (n : Nat) : (cnt4 n).length = 4 ∧ isRow (cnt4 n) = true := by
  have h : ∀ m : Fin 8, (cnt4 m.val).length = 4 ∧ isRow (cnt4 m.val) = true := by decide
  have e : cnt4 n = cnt4 (n % 8) := by unfold cnt4; rw [Nat.mod_mod]
  rw [e]
  exact h ⟨n % 8, Nat.mod_lt _ (by decide)⟩
theorem fixF_len : ∀ (b : List UInt8) (k : Nat) (a : UInt8), (fixF k a b).length ≤ 2 * b.length := by
  intro b
  induction b with
  | nil => intro k a; simp [fixF]
  | cons c r ih =>
    intro k a
    rw [fixF]
    have := ih (k + 1) c
    split <;> simp <;> omega
def lastB (p : List UInt8) : UInt8 := p.getLastD 48
theorem lastB_at {p : List UInt8} {c : UInt8} (h : p[p.length - 1]? = some c) : lastB p = c := by
  unfold lastB
  rw [List.getLastD_eq_getLast?, List.getLast?_eq_getElem?, h]
  rfl
def fastEnd (p : List UInt8) (hl : Nat) (kind : Int) : List UInt8 := (sfixedS (cnt4 (p.length - hl) ++ (csumS kind (p ++ cnt4 (p.length - hl))).1) ((lastB p).toNat : Int)).1
theorem fastEnd_len (p : List UInt8) (hl : Nat) (kind : Int) : (fastEnd p hl kind).length ≤ 50 := by
  unfold fastEnd sfixedS
  split
  · simp
  · split
    · simp
    · dsimp only
      have h1 := fixF_len (cnt4 (p.length - hl) ++ (csumS kind (p ++ cnt4 (p.length - hl))).1) 0 (UInt8.ofNat ((lastB p).toNat : Int).toNat)
      have h2 := (csumS_bound kind (p ++ cnt4 (p.length - hl))).1
      have h3 := (cnt4_ok (p.length - hl)).1
      rw [List.length_append] at h1
      omega
/-- At a fixed place the same bit again. -/
theorem u8eq (a b : UInt8) : ((a.toNat : Int) == (b.toNat : Int)) = (a == b) := by
  rw [Bool.eq_iff_iff, beq_iff_eq, beq_iff_eq]
  constructor
  · intro h; exact UInt8.toNat_inj.1 (by omega)
  · intro h; rw [h]
theorem fheadS_pos (f : Frame) : 1 ≤ (fheadS f).length := by unfold fheadS; simp
def tail10 : List UInt8 := [49, 49, 49, 49, 49, 49, 49, 49, 49, 49]
def BitsS (f : Frame) : List UInt8 × Int := if fcheckfr f ≠ 0 then ([], fcheckfr f) else
  if f.Fast = false then ((sputS (fheadS f ++ sumR 0 (fheadS f))).1 ++ tail10, 0)
  else (((sputS (fheadS f)).1 ++ fastEnd (sputS (fheadS f)).1 (fheadS f).length (fkind f)) ++ tail10, 0)
theorem fheadS_row (f : Frame) : isRow (fheadS f) = true := by
  unfold fheadS fctl
  simp only [isRow_append, fnameS_row, wr_row, ofb_row, Bool.true_and, Bool.and_true]
  split
  · rfl
  · split <;> rfl
theorem fheadS_len (f : Frame) : (fheadS f).length = 1 + (if f.Long = false then 13 else 32) + (if f.Fast = true then 4 else if f.Long = true then 2 else 1) + 4 + 8 * f.Data.length := by
  unfold fheadS fctl
  simp only [List.length_append, fnameS_len, wr_length, ofb_length, List.length_cons, List.length_nil]
  split <;> (try split) <;> (try split) <;> simp_all
theorem sputS_row {b : List UInt8} (h : isRow b = true) (hl : b.length ≤ 1000) : sputS b = (putF ⟨0, 0⟩ b, 0) := by
  unfold sputS
  rw [if_neg (by rw [(bcheck_zero b).2 ⟨hl, h⟩]; simp)]
theorem csumS_row {i : Int} {b : List UInt8} (h1 : isKind i = true) (h2 : b.length ≤ 1000) (h3 : isRow b = true) : csumS i b = (sumR i b, 0) := by
  unfold csumS
  rw [if_neg (by rw [(bcheck_zero b).2 ⟨h2, h3⟩]; simp), if_pos h1]
theorem okpre {f : Frame} (h : fcheckfr f = 0) (hd : ∀ x ∈ f.Data, 0 ≤ x ∧ x ≤ 255) : fheadpre f := by
  obtain ⟨c1, c2, c3, c4, c5, c6, c7, c8, c9, c10⟩ := fcheckfr_zero h
  exact ⟨c1, c2, c5, c6, c8, hd, fun _ => c10⟩
theorem fBits_ok (f : Frame) (hd : ∀ x ∈ f.Data, 0 ≤ x ∧ x ≤ 255) : fBits_vc f (fun r => r = BitsS f) := by
  intro _
  refine ⟨fun h => ?_, fun h => ?_⟩
  · have h : fcheckfr f ≠ 0 := by simpa using h
    unfold BitsS
    rw [if_pos h]
  · have h0 : fcheckfr f = 0 := by simpa using h
    have hpre := okpre h0 hd
    obtain ⟨c1, c2, c3, c4, c5, c6, c7, c8, c9, c10⟩ := fcheckfr_zero h0
    have hhl := fheadS_len f
    have hl : (fheadS f).length ≤ 553 := by rw [hhl]; split <;> split <;> (try split) <;> omega
    have hrow := fheadS_row f
    have hp2 := put_len2 (fheadS f) ⟨0, 0⟩
    refine ⟨hpre, fun h1 => ?_, fun h1 => ?_⟩
    · have hf : f.Fast = false := by simpa using h1
      have hs : csumS 0 (fheadS f) = (sumR 0 (fheadS f), 0) := csumS_row rfl (by omega) hrow
      have hsl : (sumR 0 (fheadS f)).length = 15 := wr_length _ _
      have hsr : isRow (sumR 0 (fheadS f)) = true := wr_row _ _
      have hpr : sputS (fheadS f ++ sumR 0 (fheadS f)) = (putF ⟨0, 0⟩ (fheadS f ++ sumR 0 (fheadS f)), 0) := sputS_row (by rw [isRow_append, hrow, hsr]; rfl) (by simp; omega)
      have hp3 := put_len2 (fheadS f ++ sumR 0 (fheadS f)) ⟨0, 0⟩
      rw [hs]
      dsimp only
      have hS : BitsS f = ((sputS (fheadS f ++ sumR 0 (fheadS f))).1 ++ tail10, 0) := by unfold BitsS; rw [if_neg (fun hc => hc h0), if_pos hf]
      rw [hS]
      refine ⟨by omega, ?_, rfl⟩
      rw [hpr]
      dsimp only
      simp at hp3 ⊢
      omega
    · have hf : f.Fast = true := by simpa using h1
      have hpr : sputS (fheadS f) = (putF ⟨0, 0⟩ (fheadS f), 0) := sputS_row hrow (by omega)
      have hS : BitsS f = (((sputS (fheadS f)).1 ++ fastEnd (sputS (fheadS f)).1 (fheadS f).length (fkind f)) ++ tail10, 0) := by unfold BitsS; rw [if_neg (fun hc => hc h0), if_neg (by rw [hf]; simp)]
      rw [hS, hpr]
      dsimp only
      have hpos := fheadS_pos f
      generalize fheadS f = h at *
      generalize putF ⟨0, 0⟩ h = p at *
      have ew : w64 ((p.length : Int) - (h.length : Int)) = ((p.length - h.length : Nat) : Int) := by rw [w64_eq _ (by omega)]; omega
      have ew2 : w64 ((p.length : Int) - 1) = ((p.length - 1 : Nat) : Int) := by rw [w64_eq _ (by omega)]; omega
      have ec : fcountS ((p.length - h.length : Nat) : Int) = cnt4 (p.length - h.length) := by unfold fcountS; rw [Int.toNat_natCast]
      rw [ew, ew2, ec]
      have hc4 := (cnt4_ok (p.length - h.length)).1
      have hsb := (csumS_bound (fkind f) (p ++ cnt4 (p.length - h.length))).1
      refine ⟨by omega, by omega, by omega, ⟨by omega, by omega⟩, fun c hc => ?_⟩
      rw [Int.toNat_natCast] at hc
      have hlast := lastB_at hc
      have he : (sfixedS (cnt4 (p.length - h.length) ++ (csumS (fkind f) (p ++ cnt4 (p.length - h.length))).1) (c.toNat : Int)).1 = fastEnd p h.length (fkind f) := by unfold fastEnd; rw [hlast]
      rw [he]
      have hel := fastEnd_len p h.length (fkind f)
      refine ⟨by omega, ?_, rfl⟩
      simp
      omega

end Go.Proofs.YtmbdcehmeiiaoaaGreatDoor
