/- What must hold so that each function ends well: pure predicates, made by program. -/
import Derived.Test.YtmbdcehmeiiaoaaDoorPL
set_option linter.unusedVariables false
set_option linter.unusedSimpArgs false
namespace Go.Proofs.YtmbdcehmeiiaoaaDoor
open Go.Sy Go.RowKit
def LWins_vc (u0 : List Frame) (K : Bool → Prop) : Prop :=
  (u0.length ≤ 140737488355328 →
    ((∀ f ∈ u0, ∀ x ∈ f.Data, 0 ≤ x ∧ x ≤ 255) ∧
    (((sendS u0).2.2.1).length ≤ 140737488355328 →
    ((((((firstS u0).2) == 0) && ((((sendS u0).2.2.2) != 0) || (((firstS u0).1) != ((sendS u0).2.1)))) = true →
      (K false)) ∧
    (((((firstS u0).2) == 0) && ((((sendS u0).2.2.2) != 0) || (((firstS u0).1) != ((sendS u0).2.1)))) = false →
      (((((sendS u0).2.2.2) != 0) = true →
        (K true)) ∧
      ((((sendS u0).2.2.2) != 0) = false →
        ((((decide (((sendS u0).2.1) < 0)) || (decide (((sendS u0).2.1) ≥ (u0.length : Int)))) = true →
          (K false)) ∧
        (((decide (((sendS u0).2.1) < 0)) || (decide (((sendS u0).2.1) ≥ (u0.length : Int)))) = false →
          ((0 ≤ (sendS u0).2.1 ∧ (sendS u0).2.1 < (u0.length : Int)) ∧
          (∀ q146, u0[((sendS u0).2.1).toNat]? = some q146 →
          (q146.Data.length ≤ 140737488355328 →
          ((∀ x ∈ q146.Data, 0 ≤ x ∧ x ≤ 255) ∧
          ((((readS ((sendS u0).1)).1).Data).length ≤ 140737488355328 →
          ((((((((BitsS q146).2) == 0) && (((readS ((sendS u0).1)).2.2) == 0)) && (((BitsS q146).1) == ((sendS u0).1))) && (((readS ((sendS u0).1)).2.1) == (((sendS u0).1).length : Int))) = true →
            ((0 ≤ (sendS u0).2.1 ∧ (sendS u0).2.1 < (u0.length : Int)) ∧
            (∀ q287, u0[((sendS u0).2.1).toNat]? = some q287 →
            (q287.Data.length ≤ 140737488355328 →
            (K (sameS ((readS ((sendS u0).1)).1) q287)))))) ∧
          (((((((BitsS q146).2) == 0) && (((readS ((sendS u0).1)).2.2) == 0)) && (((BitsS q146).1) == ((sendS u0).1))) && (((readS ((sendS u0).1)).2.1) == (((sendS u0).1).length : Int))) = false →
            (K false)))))))))))))))))

/-! Pure proofs: no program in sight. -/
theorem bless_lexle : ∀ a b : List UInt8, Op.bytesLess a b = !lexle b a := by
  intro a
  induction a with
  | nil => intro b; cases b <;> rfl
  | cons x a ih =>
    intro b
    cases b with
    | nil => rfl
    | cons y b =>
      show (decide (x < y) || (x == y && Op.bytesLess a b)) = !lexle (y :: b) (x :: a)
      rw [lexle, ih b]
      by_cases e : x = y
      · subst e
        rw [if_pos rfl, decide_eq_false (by rw [UInt8.lt_iff_toNat_lt]; omega)]
        simp
      · rw [if_neg (fun h => e h.symm)]
        have h1 : (x == y) = false := by simpa using e
        have : x.toNat ≠ y.toNat := fun h => e (UInt8.toNat_inj.1 h)
        rw [h1, Bool.false_and, Bool.or_false]
        by_cases h2 : x < y
        · have h3 := UInt8.lt_iff_toNat_lt.1 h2
          rw [decide_eq_true h2, decide_eq_false (by rw [UInt8.lt_iff_toNat_lt]; omega)]; rfl
        · have h3 : y < x := by rw [UInt8.lt_iff_toNat_lt] at h2 ⊢; omega
          rw [decide_eq_false h2, decide_eq_true h3]; rfl
/-- Strictly below. -/
def Below2 (a b : List UInt8) : Prop := lexle a b = true ∧ lexle b a = false
theorem below_of_not {a b : List UInt8} (h : lexle b a = false) : Below2 a b := ⟨(lexle_total a b).resolve_right (by rw [h]; simp), h⟩
theorem Below2.trans {a b c : List UInt8} (h1 : Below2 a b) (h2 : Below2 b c) : Below2 a c :=
  ⟨lexle_trans _ _ _ h1.1 h2.1, by
    cases h : lexle c a
    · rfl
    · have := lexle_trans _ _ _ h h1.1
      rw [h2.2] at this; cases this⟩
/-- What has been found among the names so far. -/
def Acc (p : List Frame) (best : Int) (name : List UInt8) (tw : Bool) : Prop := (∀ f ∈ p, (fNameS f).2 = 0) ∧ ((best = -1 ∧ p = []) ∨ ∃ (m : Nat) (f : Frame), best = m ∧ p[m]? = some f ∧ name = (fNameS f).1 ∧ ∀ j g, p[j]? = some g → j ≠ m → Below2 name (fNameS g).1 ∨ ((fNameS g).1 = name ∧ tw = true))
theorem frun_acc : ∀ (l p : List Frame) (best : Int) (name : List UInt8) (tw : Bool) (b : Int), Acc p best name tw → frun l (p.length : Int) best name tw = (b, 0) → ∃ (m : Nat) (f : Frame), b = m ∧ (p ++ l)[m]? = some f ∧ (∀ f ∈ p ++ l, (fNameS f).2 = 0) ∧ ∀ j g, (p ++ l)[j]? = some g → j ≠ m → Below2 (fNameS f).1 (fNameS g).1 := by
  intro l
  induction l with
  | nil =>
    intro p best name tw b hA h
    rw [frun] at h
    obtain ⟨hz, hA⟩ := hA
    rw [List.append_nil]
    rcases hA with ⟨rfl, rfl⟩ | ⟨m, f, rfl, hm, rfl, hj⟩
    · rw [if_pos (by decide)] at h; cases h
    · rw [if_neg (by omega)] at h
      cases tw with
      | true => rw [if_pos rfl] at h; cases h
      | false =>
        rw [if_neg (by simp)] at h
        cases h
        refine ⟨m, f, rfl, hm, hz, fun j g hg hne => ?_⟩
        rcases hj j g hg hne with h | ⟨_, h⟩
        · exact h
        · cases h
  | cons f l ih =>
    intro p best name tw b hA h
    rw [frun] at h
    obtain ⟨hz, hA⟩ := hA
    by_cases h1 : (fNameS f).2 ≠ 0
    · rw [if_pos h1] at h
      exact absurd (congrArg Prod.snd h) h1
    · rw [if_neg h1] at h
      have h1 : (fNameS f).2 = 0 := by simpa using h1
      have ep : p ++ f :: l = (p ++ [f]) ++ l := by simp
      have el : ((p.length : Int) + 1) = (((p ++ [f]).length : Nat) : Int) := by simp
      have hz2 : ∀ g ∈ p ++ [f], (fNameS g).2 = 0 := by
        intro g hg
        rcases List.mem_append.1 hg with hg | hg
        · exact hz g hg
        · rw [List.mem_singleton.1 hg]; exact h1
      rw [ep]
      rw [el] at h
      have hget : ∀ j g, (p ++ [f])[j]? = some g → (p[j]? = some g ∧ j < p.length) ∨ (j = p.length ∧ g = f) := by
        intro j g hg
        rcases Nat.lt_or_ge j p.length with hj | hj
        · rw [List.getElem?_append_left hj] at hg
          exact .inl ⟨hg, hj⟩
        · rw [List.getElem?_append_right hj] at hg
          have : j - p.length = 0 := by
            have := (List.getElem?_eq_some_iff.1 hg).1
            simp at this
            omega
          rw [this] at hg
          cases hg
          exact .inr ⟨by omega, rfl⟩
      by_cases h2 : (decide (best < 0) || Op.bytesLess (fNameS f).1 name) = true
      · rw [if_pos h2] at h
        refine ih (p ++ [f]) _ _ _ b ⟨hz2, .inr ⟨p.length, f, rfl, by simp, rfl, fun j g hg hne => ?_⟩⟩ h
        rcases hget j g hg with ⟨hg, _⟩ | ⟨e, _⟩
        · rcases hA with ⟨_, rfl⟩ | ⟨m, f2, rfl, hm, rfl, hj⟩
          · cases hg
          · have h2 : Op.bytesLess (fNameS f).1 (fNameS f2).1 = true := by
              rw [decide_eq_false (by omega), Bool.false_or] at h2
              exact h2
            rw [bless_lexle] at h2
            have hb : Below2 (fNameS f).1 (fNameS f2).1 := below_of_not (by simpa using h2)
            by_cases e : j = m
            · subst e
              rw [hm] at hg
              cases hg
              exact .inl hb
            · rcases hj j g hg e with h | ⟨h, _⟩
              · exact .inl (hb.trans h)
              · rw [h]; exact .inl hb
        · exact absurd e hne
      · rw [if_neg h2] at h
        have h2 : ¬ best < 0 ∧ lexle name (fNameS f).1 = true := by
          rw [bless_lexle] at h2
          simpa using h2
        rcases hA with ⟨rfl, _⟩ | ⟨m, f2, rfl, hm, rfl, hj⟩
        · exact absurd (by decide) h2.1
        have hml := (List.getElem?_eq_some_iff.1 hm).1
        have hm2 : (p ++ [f])[m]? = some f2 := by rw [List.getElem?_append_left hml]; exact hm
        by_cases h3 : ((fNameS f).1 == (fNameS f2).1) = true
        · rw [if_pos h3] at h
          refine ih (p ++ [f]) _ _ _ b ⟨hz2, .inr ⟨m, f2, rfl, hm2, rfl, fun j g hg hne => ?_⟩⟩ h
          rcases hget j g hg with ⟨hg, _⟩ | ⟨_, rfl⟩
          · rcases hj j g hg hne with h | ⟨h, _⟩
            · exact .inl h
            · exact .inr ⟨h, rfl⟩
          · exact .inr ⟨eq_of_beq h3, rfl⟩
        · rw [if_neg h3] at h
          refine ih (p ++ [f]) _ _ _ b ⟨hz2, .inr ⟨m, f2, rfl, hm2, rfl, fun j g hg hne => ?_⟩⟩ h
          rcases hget j g hg with ⟨hg, _⟩ | ⟨_, rfl⟩
          · exact hj j g hg hne
          · refine .inl ⟨h2.2, ?_⟩
            cases e : lexle (fNameS g).1 (fNameS f2).1
            · rfl
            · exact absurd (beq_iff_eq.2 (lexle_antisymm _ _ e h2.2)) h3
theorem below_fd : ∀ (a b : List UInt8), Below2 a b → a <+: b ∨ ∃ d x y, fd a b = some d ∧ a[d]? = some x ∧ b[d]? = some y ∧ x.toNat < y.toNat := by
  intro a b h
  cases hf : fd a b with
  | none =>
    rcases fd_none _ _ hf with h1 | h1
    · exact .inl h1
    · exfalso
      obtain ⟨z, hz⟩ := h1
      have : ∀ (u v : List UInt8), lexle u (u ++ v) = true := by
        intro u
        induction u with
        | nil => intro v; rfl
        | cons x u ih => intro v; rw [List.cons_append, lexle, if_pos rfl]; exact ih v
      have := this b z
      rw [hz, h.2] at this
      cases this
  | some d =>
    obtain ⟨x, y, h1, h2, h3⟩ := lexle_fd a b d h.1 hf
    exact .inr ⟨d, x, y, rfl, h1, h2, h3⟩
/-- Rows that differ are put alike up to where they do. -/
theorem put_fd : ∀ (a b : List UInt8) (c : Counter) (u v y z : List UInt8) (d : Nat) (p q : UInt8), fd a b = some d → a[d]? = some p → b[d]? = some q → p.toNat < q.toNat → ∃ d' s t, fd (putF c (a ++ u) ++ y) (putF c (b ++ v) ++ z) = some d' ∧ (putF c (a ++ u) ++ y)[d']? = some s ∧ (putF c (b ++ v) ++ z)[d']? = some t ∧ s.toNat < t.toNat := by
  intro a
  induction a with
  | nil => intro b c u v y z d p q h; rw [fd] at h; cases h; simp
  | cons x a ih =>
    intro b c u v y z d p q h h1 h2 h3
    cases b with
    | nil => rw [fd] at h; cases h; simp
    | cons w b =>
      rw [fd] at h
      have step : ∀ (A B : List UInt8) (hd : UInt8), (∃ d' s t, fd A B = some d' ∧ A[d']? = some s ∧ B[d']? = some t ∧ s.toNat < t.toNat) → ∃ d' s t, fd (hd :: A) (hd :: B) = some d' ∧ (hd :: A)[d']? = some s ∧ (hd :: B)[d']? = some t ∧ s.toNat < t.toNat := by
        rintro A B hd ⟨d', s, t, g1, g2, g3, g4⟩
        exact ⟨d' + 1, s, t, by rw [fd, if_pos rfl, g1]; rfl, g2, g3, g4⟩
      by_cases e : x = w
      · subst e
        rw [if_pos rfl, Option.map_eq_some_iff] at h
        obtain ⟨d1, hd, rfl⟩ := h
        rw [List.cons_append, List.cons_append, putF, putF]
        by_cases h5 : (nx c x).n = 5
        · rw [if_pos h5, if_pos h5]
          exact step _ _ _ (step _ _ _ (ih b _ u v y z d1 p q hd h1 h2 h3))
        · rw [if_neg h5, if_neg h5]
          exact step _ _ _ (ih b _ u v y z d1 p q hd h1 h2 h3)
      · rw [if_neg e] at h
        cases h
        cases h1; cases h2
        have head : ∀ (c : Counter) (x : UInt8) (r y : List UInt8), ∃ r', putF c (x :: r) ++ y = x :: r' := by
          intro c x r y
          rw [putF]
          split
          · exact ⟨_, rfl⟩
          · exact ⟨_, rfl⟩
        obtain ⟨r1, e1⟩ := head c x (a ++ u) y
        obtain ⟨r2, e2⟩ := head c q (b ++ v) z
        rw [List.cons_append, List.cons_append, e1, e2]
        exact ⟨0, x, q, by rw [fd, if_neg e], rfl, rfl, h3⟩
/-- Where names are below one another, so are the rows. -/
theorem names_rows {f g : Frame} (hf : fcheckfr f = 0) (hg : fcheckfr g = 0) (h : Below2 (fnameS f) (fnameS g)) : ∃ d s t, fd (BitsS f).1 (BitsS g).1 = some d ∧ (BitsS f).1[d]? = some s ∧ (BitsS g).1[d]? = some t ∧ s.toNat < t.toNat := by
  have hb : ∀ f : Frame, fcheckfr f = 0 → ∃ u y, (BitsS f).1 = putF ⟨0, 0⟩ ((48 :: fnameS f) ++ u) ++ y := by
    intro f hf
    rw [bits_core hf]
    have e : fheadS f = (48 :: fnameS f) ++ (fctl f ++ (wr 4 (fcode f) ++ ofb f.Data)) := by
      show (((([48] ++ fnameS f) ++ fctl f) ++ wr 4 (fcode f)) ++ ofb f.Data) = _
      simp
    cases hF : f.Fast with
    | false =>
      refine ⟨(fctl f ++ (wr 4 (fcode f) ++ ofb f.Data)) ++ sumR 0 (fheadS f), tail10, ?_⟩
      dsimp only
      unfold coreF
      rw [if_pos hF]
      have e2 : fheadS f ++ sumR 0 (fheadS f) = (48 :: fnameS f) ++ ((fctl f ++ (wr 4 (fcode f) ++ ofb f.Data)) ++ sumR 0 (fheadS f)) := by rw [← List.append_assoc, ← e]
      rw [e2]
    | true =>
      refine ⟨fctl f ++ (wr 4 (fcode f) ++ ofb f.Data), fastEnd (putF ⟨0, 0⟩ (fheadS f)) (fheadS f).length (fkind f) ++ tail10, ?_⟩
      dsimp only
      unfold coreF
      rw [if_neg (by rw [hF]; simp), ← e, List.append_assoc]
  have key : ∃ d x y, fd (fnameS f) (fnameS g) = some d ∧ (fnameS f)[d]? = some x ∧ (fnameS g)[d]? = some y ∧ x.toNat < y.toNat := by
    rcases below_fd _ _ h with hp | hp
    · exfalso
      have hpre := hasprefix_iff.2 hp
      by_cases hl : f.Long = g.Long
      · have : fnameS f = fnameS g := hp.eq_of_length (by rw [fnameS_len, fnameS_len, hl])
        rw [this, Below2, lexle_refl] at h
        exact absurd h.2 (by simp)
      · cases hF : f.Long with
        | false =>
          have hG : g.Long = true := by
            cases e : g.Long
            · rw [hF, e] at hl; exact absurd rfl hl
            · rfl
          have := names_apart hF hG
          rw [Bool.and_eq_true, Bool.and_eq_true] at this
          rw [hpre] at this
          exact absurd this.2 (by simp)
        | true =>
          have hG : g.Long = false := by
            cases e : g.Long
            · rfl
            · rw [hF, e] at hl; exact absurd rfl hl
          have := names_apart hG hF
          rw [Bool.and_eq_true, Bool.and_eq_true] at this
          rw [hpre] at this
          exact absurd this.1.2 (by simp)
    · exact hp
  obtain ⟨d, x, y, k1, k2, k3, k4⟩ := key
  obtain ⟨u, y1, e1⟩ := hb f hf
  obtain ⟨v, z1, e2⟩ := hb g hg
  rw [e1, e2]
  exact put_fd (48 :: fnameS f) (48 :: fnameS g) ⟨0, 0⟩ u v y1 z1 (d + 1) x y (by rw [fd, if_pos rfl, k1]; rfl) k2 k3 k4
theorem fd_lexle {a b : List UInt8} {d : Nat} {s t : UInt8} (h : fd a b = some d) (h1 : a[d]? = some s) (h2 : b[d]? = some t) (h3 : s.toNat < t.toNat) : lexle a b = true := by
  rcases lexle_total a b with h4 | h4
  · exact h4
  · rw [fd_comm] at h
    obtain ⟨x, y, g1, g2, g3⟩ := lexle_fd _ _ _ h4 h
    rw [h2] at g1; cases g1
    rw [h1] at g2; cases g2
    omega
theorem name_code {f : Frame} (h : (fNameS f).2 = 0) : fcheckfr f = 0 ∧ (fNameS f).1 = fnameS f := by
  unfold fNameS at h ⊢
  by_cases e : fcheckfr f = 0
  · rw [if_neg (fun hc => hc e)]; exact ⟨e, rfl⟩
  · rw [if_pos e] at h; exact absurd h e
theorem LWins_ok (l : List Frame) (k0 : (∀ y0 ∈ l, okFrame y0) ∧ l.length * 48 ≤ lim) : LWins_vc l (fun r => r = true) := by
  intro hlen
  have hd : ∀ f ∈ l, ∀ x ∈ f.Data, 0 ≤ x ∧ x ≤ 255 := fun f hf => byteRange (k0.1 f hf).2.2.2.2.2.1
  have hrl : (rowsOf l).length = l.length := by simp [rowsOf]
  have hLl : (lostL (rowsOf l)).length = (rowsOf l).length := by simp [lostL]
  -- the first by name goes through
  have hfirst : (firstS l).2 = 0 → (sendS l).2.2.2 = 0 ∧ (firstS l).1 = (sendS l).2.1 := by
    intro h
    unfold firstS at h ⊢
    by_cases h6 : 6 < l.length
    · rw [if_pos h6] at h; cases h
    · rw [if_neg h6] at h ⊢
      obtain ⟨m, f, e1, e2, e3, e4⟩ := frun_acc l [] (-1) [] false (frun l 0 (-1) [] false).1 ⟨by simp, .inl ⟨rfl, rfl⟩⟩ (show frun l 0 (-1) [] false = _ from Prod.ext rfl h)
      rw [List.nil_append] at e2 e3 e4
      have hml := (List.getElem?_eq_some_iff.1 e2).1
      have hck : ∀ g ∈ l, fcheckfr g = 0 := fun g hg => (name_code (e3 g hg)).1
      have hfb : firstBad l = 0 := (firstBad_zero l).1 fun g hg => by rw [bits_core (hck g hg)]
      have hfm := List.mem_of_getElem? e2
      have hlow : ∀ j g, l[j]? = some g → j ≠ m → ∃ d s t, fd (BitsS f).1 (BitsS g).1 = some d ∧ (BitsS f).1[d]? = some s ∧ (BitsS g).1[d]? = some t ∧ s.toNat < t.toNat := by
        intro j g hg hne
        have := e4 j g hg hne
        rw [(name_code (e3 f hfm)).2, (name_code (e3 g (List.mem_of_getElem? hg))).2] at this
        exact names_rows (hck f hfm) (hck g (List.mem_of_getElem? hg)) this
      have hbest : minR (rowsOf l) = (BitsS f).1 := by
        refine minR_unique (List.mem_map.2 ⟨f, hfm, rfl⟩) fun r hr => ?_
        obtain ⟨g, hg, rfl⟩ := List.mem_map.1 hr
        obtain ⟨j, hj⟩ := List.mem_iff_getElem?.1 hg
        by_cases e : j = m
        · subst e
          rw [e2] at hj
          cases hj
          exact lexle_refl _
        · obtain ⟨d, s, t, g1, g2, g3, g4⟩ := hlow j g hj e
          exact fd_lexle g1 g2 g3 g4
      have hlost : ∀ j x, (lostL (rowsOf l))[j]? = some x → x = -1 → j = m := by
        intro j x hx hx1
        apply Classical.byContradiction
        intro hne
        unfold lostL rowsOf at hx
        rw [List.getElem?_map, List.getElem?_map] at hx
        obtain ⟨r, hr, hrx⟩ := Option.map_eq_some_iff.1 hx
        obtain ⟨g, hg, rfl⟩ := Option.map_eq_some_iff.1 hr
        obtain ⟨d, s, t, g1, g2, g3, g4⟩ := hlow j g hg hne
        have hdl := (List.getElem?_eq_some_iff.1 g2).1
        have hbest2 : minR (l.map fun f => (BitsS f).1) = (BitsS f).1 := hbest
        rw [hbest2, lostAt_some (by rw [fd_comm]; exact g1), if_pos hdl] at hrx
        omega
      have hm1 : (lostL (rowsOf l))[m]? = some (-1) := by
        unfold lostL
        rw [hbest]
        unfold rowsOf
        rw [List.getElem?_map, List.getElem?_map, e2]
        show some (lostAt (BitsS f).1 (BitsS f).1.length (BitsS f).1) = _
        rw [lostAt_none (fd_self _)]
      have hcnt : ¬ 1 < (lostL (rowsOf l)).count (-1) := by
        have e : ∀ L : List Int, (∀ j x, L[j]? = some x → x = -1 → j = m) → L.count (-1) ≤ 1 := by
          intro L hL
          have e := (List.take_append_drop m L).symm
          rw [e, List.count_append]
          have c1 : (L.take m).count (-1) = 0 := by
            rw [List.count_eq_zero]
            intro hmem
            obtain ⟨j, hj⟩ := List.mem_iff_getElem?.1 hmem
            rw [List.getElem?_take] at hj
            split at hj
            · have := hL j _ hj rfl; omega
            · cases hj
          have c2 : (L.drop (m + 1)).count (-1) = 0 := by
            rw [List.count_eq_zero]
            intro hmem
            obtain ⟨j, hj⟩ := List.mem_iff_getElem?.1 hmem
            rw [List.getElem?_drop] at hj
            have := hL _ _ hj rfl
            omega
          cases hdm : L.drop m with
          | nil => simp [c1]
          | cons q r =>
            have : L.drop (m + 1) = r := by
              rw [← List.drop_drop, hdm]; rfl
            rw [this] at c2
            rw [List.count_cons, c1, c2]
            split <;> omega
        have := e _ hlost
        omega
      have hz : (sendS l).2.2.2 = 0 := (sendS_zero l).2 ⟨by omega, by omega, hfb, hcnt⟩
      refine ⟨hz, ?_⟩
      rw [sendS_well hz]
      dsimp only
      rw [sidx_at1 hcnt hm1]
      exact e1
  refine ⟨hd, fun _ => ⟨fun h => ?_, fun _ => ⟨fun _ => rfl, fun h => ?_⟩⟩⟩
  · exfalso
    rw [Bool.and_eq_true, beq_iff_eq] at h
    obtain ⟨g1, g2⟩ := hfirst h.1
    rw [g1, g2] at h
    simp at h
  · have h : (sendS l).2.2.2 = 0 := by simpa using h
    obtain ⟨h1, h2, h3, h4⟩ := (sendS_zero l).1 h
    have hne : rowsOf l ≠ [] := fun e => by rw [e] at hrl; exact h2 hrl.symm
    obtain ⟨k, hk1, hk2, hk3⟩ := lost_best hne
    rw [sendS_well h]
    dsimp only
    rw [sidx_at1 h4 hk3]
    rw [hrl] at hk1
    have hqk : l[k]? = some l[k] := List.getElem?_eq_getElem hk1
    generalize l[k] = q0 at hqk
    have hb : (BitsS q0).1 = minR (rowsOf l) := by
      unfold rowsOf at hk2
      rw [List.getElem?_map, hqk] at hk2
      exact Option.some.inj hk2
    have hq0 := List.mem_of_getElem? hqk
    have hz0 := (firstBad_zero l).2 h3 q0 hq0
    obtain ⟨r1, r2, r3⟩ := read_bits0 (bits_ok hz0) (hd q0 hq0)
    refine ⟨fun h5 => ?_, fun _ => ⟨by omega, fun q hq _ => ?_⟩⟩
    · exfalso
      have : ((decide ((k : Int) < 0)) || (decide ((k : Int) ≥ (l.length : Int)))) = false := by
        rw [decide_eq_false (by omega), decide_eq_false (by omega)]; rfl
      rw [this] at h5; cases h5
    · rw [Int.toNat_natCast, hqk] at hq
      cases hq
      refine ⟨hd q0 hq0, fun _ => ?_⟩
      rw [← hb, r3]
      dsimp only
      refine ⟨fun _ => ⟨by omega, fun q2 hq2 _ => ?_⟩, fun h6 => ?_⟩
      · rw [Int.toNat_natCast, hqk] at hq2
        cases hq2
        show sameS q0 q0 = true
        simp [sameS]
      · exfalso
        rw [hz0] at h6
        simp at h6
def deBruijn64 : List Int := [0, 1, 56, 2, 57, 49, 28, 3, 61, 58, 42, 50, 38, 29, 17, 4, 62, 47, 59, 36, 45, 43, 51, 22, 53, 39, 33, 30, 24, 18, 12, 5, 63, 55, 48, 27, 60, 41, 37, 16, 46, 35, 44, 21, 52, 32, 23, 11, 54, 26, 40, 15, 34, 20, 31, 10, 25, 14, 19, 9, 13, 8, 7, 6]

end Go.Proofs.YtmbdcehmeiiaoaaDoor
