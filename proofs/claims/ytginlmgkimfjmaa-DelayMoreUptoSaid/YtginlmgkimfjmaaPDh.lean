/- Pure proofs: no program in sight. -/
import Derived.Test.YtginlmgkimfjmaaVDh
set_option linter.unusedVariables false
set_option linter.unusedSimpArgs false
namespace Go.Proofs.Ytginlmgkimfjmaa
open Go.Sy Go.RowKit
def asksV (x : Int) (a : Bool) (o : Task) : Int := if a = true then (x + o.Jitter) / o.Every + 1 else (x + o.Jitter + o.Every - 1) / o.Every
theorem asksV_bound {o : Task} (h : tok o = true) {x : Int} (hx : 0 ≤ x ∧ x ≤ 200000) (a : Bool) : 0 ≤ asksV x a o ∧ asksV x a o ≤ 2300000 := by
  have hb := tok_spec h
  have e1 : 0 ≤ (x + o.Jitter) / o.Every := Int.ediv_nonneg (by omega) (by omega)
  have e2 : (x + o.Jitter) / o.Every ≤ x + o.Jitter := Int.ediv_le_self _ (by omega)
  have e3 : 0 ≤ (x + o.Jitter + o.Every - 1) / o.Every := Int.ediv_nonneg (by omega) (by omega)
  have e4 : (x + o.Jitter + o.Every - 1) / o.Every ≤ x + o.Jitter + o.Every - 1 := Int.ediv_le_self _ (by omega)
  unfold asksV
  split <;> omega
theorem dasksS_eq {o : Task} (h : tok o = true) {x : Int} (hx : 0 ≤ x ∧ x ≤ 200000) (a : Bool) : dasksS o x a = asksV x a o := by
  have hb := tok_spec h
  have hv := asksV_bound h hx a
  unfold dasksS
  unfold asksV at hv ⊢
  rw [w64_eq (x + o.Jitter) (by omega)]
  split
  · rename_i e
    rw [if_pos e] at hv
    rw [Int.tdiv_eq_ediv_of_nonneg (by omega), w64_eq ((x + o.Jitter) / o.Every) (by omega), w64_eq _ (by omega)]
  · rename_i e
    rw [if_neg e] at hv
    rw [w64_eq (x + o.Jitter + o.Every) (by omega), w64_eq (x + o.Jitter + o.Every - 1) (by omega), Int.tdiv_eq_ediv_of_nonneg (by omega), w64_eq _ (by omega)]
def sumA (x : Int) (a : Bool) : List Task → Int
  | [] => 0
  | o :: r => asksV x a o * dlongS o + sumA x a r
theorem term_bound {o : Task} (h : tok o = true) {x : Int} (hx : 0 ≤ x ∧ x ≤ 200000) (a : Bool) : 0 ≤ asksV x a o * dlongS o ∧ asksV x a o * dlongS o ≤ 310500000 := by
  have hv := asksV_bound h hx a
  have hl := dlongS_eq h
  constructor
  · exact Int.mul_nonneg hv.1 (by omega)
  · have h1 : asksV x a o * dlongS o ≤ asksV x a o * 135 := Int.mul_le_mul_of_nonneg_left (by omega) hv.1
    omega
theorem sumA_bound (ts : List Task) (h : ∀ o ∈ ts, tok o = true) {x : Int} (hx : 0 ≤ x ∧ x ≤ 200000) (a : Bool) : 0 ≤ sumA x a ts ∧ sumA x a ts ≤ 310500000 * (ts.length : Int) := by
  induction ts with
  | nil => simp [sumA]
  | cons o r ih =>
    have h1 := term_bound (h o (by simp)) hx a
    have h2 := ih fun y hy => h y (by simp [hy])
    rw [sumA, List.length_cons]
    omega
theorem fold_sum (ts : List Task) (h : ∀ o ∈ ts, tok o = true) {x : Int} (hx : 0 ≤ x ∧ x ≤ 200000) (a : Bool) : ∀ acc : Int, 0 ≤ acc → acc + 310500000 * (ts.length : Int) ≤ 9000000000000000000 → ts.foldl (dstep x a) acc = acc + sumA x a ts := by
  induction ts with
  | nil => intro acc _ _; simp [sumA]
  | cons o r ih =>
    intro acc h0 h1
    have ht := term_bound (h o (by simp)) hx a
    rw [List.length_cons] at h1
    have e : dstep x a acc o = acc + asksV x a o * dlongS o := by
      unfold dstep
      rw [dasksS_eq (h o (by simp)) hx, w64_eq (asksV x a o * dlongS o) (by omega), w64_eq _ (by omega)]
    rw [List.foldl_cons, e, ih (fun y hy => h y (by simp [hy])) _ (by omega) (by omega), sumA]
    omega
theorem asksV_mono {o : Task} (h : tok o = true) {x y : Int} (hx : 0 ≤ x) (hxy : x ≤ y) (a : Bool) : asksV x a o ≤ asksV y a o := by
  have hb := tok_spec h
  unfold asksV
  split
  · have := Int.ediv_le_ediv (c := o.Every) (by omega) (show x + o.Jitter ≤ y + o.Jitter by omega); omega
  · exact Int.ediv_le_ediv (by omega) (by omega)
theorem sumA_mono (ts : List Task) (h : ∀ o ∈ ts, tok o = true) {x y : Int} (hx : 0 ≤ x) (hxy : x ≤ y) (a : Bool) : sumA x a ts ≤ sumA y a ts := by
  induction ts with
  | nil => exact Int.le_refl _
  | cons o r ih =>
    have h1 := asksV_mono (h o (by simp)) hx hxy a
    have hl := dlongS_eq (h o (by simp))
    have h2 := Int.mul_le_mul_of_nonneg_right h1 (show 0 ≤ dlongS o by omega)
    have h3 := ih fun y hy => h y (by simp [hy])
    rw [sumA, sumA]
    omega
/-- Who asks at a time below another one's, asks no oftener than up to that one. -/
theorem asks_below {o : Task} (h : tok o = true) {x L : Int} (hx : 0 ≤ x) (hL : x ≤ L - 1) : asksV x true o ≤ asksV L false o := by
  have hb := tok_spec h
  unfold asksV
  rw [if_pos rfl, if_neg (by simp)]
  have e : L + o.Jitter + o.Every - 1 = (L + o.Jitter - 1) + 1 * o.Every := by omega
  rw [e, Int.add_mul_ediv_right _ _ (by omega)]
  have := Int.ediv_le_ediv (c := o.Every) (by omega) (show x + o.Jitter ≤ L + o.Jitter - 1 by omega)
  omega
theorem sum_below (ts : List Task) (h : ∀ o ∈ ts, tok o = true) {x L : Int} (hx : 0 ≤ x) (hL : x ≤ L - 1) : sumA x true ts ≤ sumA L false ts := by
  induction ts with
  | nil => exact Int.le_refl _
  | cons o r ih =>
    have h1 := asks_below (h o (by simp)) hx hL
    have hl := dlongS_eq (h o (by simp))
    have h2 := Int.mul_le_mul_of_nonneg_right h1 (show 0 ≤ dlongS o by omega)
    have h3 := ih fun y hy => h y (by simp [hy])
    rw [sumA, sumA]
    omega
theorem sumA_append (x : Int) (a : Bool) (s t : List Task) : sumA x a (s ++ t) = sumA x a s + sumA x a t := by
  induction s with
  | nil => simp [sumA]
  | cons o r ih => rw [List.cons_append, sumA, ih, sumA]; omega
/-- What the plain fixing gives: the least that is not too small, or nothing. -/
theorem fix_spec (x : Int) (g : Int → Int) (h : fixpre x g) : (dfixS x g = -1 ∧ ∀ y, x ≤ y → y ≤ 200000 → g y ≤ y → False) ∨ (x ≤ dfixS x g ∧ dfixS x g ≤ 200000 ∧ g (dfixS x g) = dfixS x g ∧ ∀ y, x ≤ y → y ≤ 200000 → g y ≤ y → dfixS x g ≤ y) := by
  obtain ⟨h0, h1, h2, h3⟩ := h
  have key : ∀ (n k : Nat) (z : Int), n = 200001 - k → (k : Int) ≤ z → 0 ≤ z → z ≤ 200000 → x ≤ z → z ≤ g z → (∀ y, x ≤ y → y ≤ 200000 → g y ≤ y → z ≤ y) →
      (fixN (200002 - k) z g = -1 ∧ ∀ y, x ≤ y → y ≤ 200000 → g y ≤ y → False) ∨ (x ≤ fixN (200002 - k) z g ∧ fixN (200002 - k) z g ≤ 200000 ∧ g (fixN (200002 - k) z g) = fixN (200002 - k) z g ∧ ∀ y, x ≤ y → y ≤ 200000 → g y ≤ y → fixN (200002 - k) z g ≤ y) := by
    intro n
    induction n with
    | zero => intro k z hn hk hz0 hz1; omega
    | succ n ih =>
      intro k z hn hk hz0 hz1 hxz hzg hle
      obtain ⟨m, hm⟩ : ∃ m, 200002 - k = m + 1 := ⟨200001 - k, by omega⟩
      rw [hm, fixN_succ]
      have hnext : ∀ y, x ≤ y → y ≤ 200000 → g y ≤ y → g z ≤ y := fun y a b c => by
        have := h3 z y hz0 (hle y a b c) b
        omega
      by_cases h4 : 200000 < g z
      · rw [if_pos h4]
        exact .inl ⟨rfl, fun y a b c => by have := hnext y a b c; omega⟩
      · rw [if_neg h4]
        by_cases h5 : g z = z
        · rw [if_pos h5, h5]
          exact .inr ⟨hxz, hz1, h5, hle⟩
        · rw [if_neg h5]
          have hm2 : m = 200002 - (k + 1) := by omega
          rw [hm2]
          exact ih (k + 1) (g z) (by omega) (by omega) (by omega) (by omega) (by omega) (h3 z (g z) hz0 hzg (by omega)) hnext
  have := key 200001 0 x rfl (by omega) h0 h1 (Int.le_refl _) h2 (fun y a _ _ => a)
  rw [show 200002 - 0 = 200002 from rfl] at this
  exact this
/-- What waits at most, behind so much that blocks. -/
def busyB (b : Int) (l : List Task) (i : Int) (t : Task) : Int := dfixS (w64 (b + dlongS t)) (fun x => dw1S x b l i)
def waitQ (b q : Int) (l : List Task) (i : Int) (t : Task) : Int := dfixS (w64 (b + w64 (q * dlongS t))) (fun x => dw2S x b q t l i)
def termQ (b q : Int) (l : List Task) (i : Int) (t : Task) : Int := w64 (w64 (w64 (t.Jitter + waitQ b q l i t) - w64 (q * t.Every)) + dlongS t)
def bestQ (b : Int) (l : List Task) (i : Int) (t : Task) : Nat → Int
  | 0 => 0
  | k + 1 => max (bestQ b l i t k) (termQ b k l i t)
def worstB (b : Int) (l : List Task) (i : Int) (t : Task) : Int := if busyB b l i t < 0 then -1 else bestQ b l i t (dasksS t (busyB b l i t) false).toNat
def blockS (l : List Task) (i : Int) : Int := (l.drop (i + 1).toNat).foldl (fun b o => max b (dlongS o)) 0
def nil_task : Task := ⟨0, 0, 0, 0, 0⟩
def worstS (l : List Task) (i : Int) : Int := worstB (blockS l i) l i (l[i.toNat]?.getD nil_task)
/-- A right list of tasks, and one of them. -/
structure Rt (l : List Task) (i : Int) (t : Task) : Prop where
  len : l.length ≤ 20
  ok : ∀ o ∈ l, tok o = true
  i0 : 0 ≤ i
  at_ : l[i.toNat]? = some t
theorem Rt.lt {l : List Task} {i : Int} {t : Task} (h : Rt l i t) : i < (l.length : Int) := by
  have := (List.getElem?_eq_some_iff.1 h.at_).1
  have := h.i0
  omega
theorem Rt.take {l : List Task} {i : Int} {t : Task} (h : Rt l i t) : l.take (i + 1).toNat = l.take i.toNat ++ [t] := by
  have := h.i0
  rw [show (i + 1).toNat = i.toNat + 1 by omega]
  exact take_next l i.toNat t h.at_
theorem Rt.tok {l : List Task} {i : Int} {t : Task} (h : Rt l i t) : tok t = true := h.ok t (List.mem_of_getElem? h.at_)
theorem Rt.ok1 {l : List Task} {i : Int} {t : Task} (h : Rt l i t) (k : Nat) : ∀ o ∈ l.take k, Go.Proofs.Ytginlmgkimfjmaa.tok o = true := fun o ho => h.ok o (List.mem_of_mem_take ho)
theorem Rt.every {l : List Task} {i : Int} {t : Task} (h : Rt l i t) : ∀ o ∈ l, o.Every ≠ 0 := fun o ho => by
  have := tok_spec (h.ok o ho)
  omega
theorem dw1_eq {l : List Task} {i : Int} {t : Task} (h : Rt l i t) {b x : Int} (hb : 0 ≤ b ∧ b ≤ 135) (hx : 0 ≤ x ∧ x ≤ 200000) : dw1S x b l i = b + sumA x false (l.take i.toNat) + asksV x false t * dlongS t := by
  have hl := h.len
  have hlen : (l.take (i + 1).toNat).length ≤ 20 := Nat.le_trans (List.length_take_le' _ _) hl
  unfold dw1S
  rw [fold_sum _ (h.ok1 _) hx false b hb.1 (by omega), h.take, sumA_append]
  simp only [sumA]
  omega
theorem dw2_eq {l : List Task} {i : Int} {t : Task} (h : Rt l i t) {b q x : Int} (hb : 0 ≤ b ∧ b ≤ 135) (hq : 0 ≤ q ∧ q ≤ 2300000) (hx : 0 ≤ x ∧ x ≤ 200000) : dw2S x b q t l i = b + q * dlongS t + sumA x true (l.take i.toNat) := by
  have hl := h.len
  have hlen : (l.take i.toNat).length ≤ 20 := Nat.le_trans (List.length_take_le' _ _) hl
  have hd := dlongS_eq h.tok
  have h1 : q * dlongS t ≤ q * 135 := Int.mul_le_mul_of_nonneg_left (by omega) hq.1
  have h2 : 0 ≤ q * dlongS t := Int.mul_nonneg hq.1 (by omega)
  unfold dw2S
  rw [w64_eq (q * dlongS t) (by omega), w64_eq (b + q * dlongS t) (by omega), fold_sum _ (h.ok1 _) hx true _ (by omega) (by omega)]
theorem busy_pre {l : List Task} {i : Int} {t : Task} (h : Rt l i t) {b : Int} (hb : 0 ≤ b ∧ b ≤ 135) : w64 (b + dlongS t) = b + dlongS t ∧ fixpre (b + dlongS t) (fun x => dw1S x b l i) := by
  have hd := dlongS_eq h.tok
  have ht := tok_spec h.tok
  refine ⟨w64_eq _ (by omega), by omega, by omega, ?_, fun y z hy hyz hz => ?_⟩
  · dsimp only
    rw [dw1_eq h hb (by omega)]
    have h1 := (sumA_bound (l.take i.toNat) (h.ok1 _) (x := b + dlongS t) (by omega) false).1
    have h2 : 1 ≤ asksV (b + dlongS t) false t := by
      unfold asksV
      rw [if_neg (by simp)]
      have : 1 * t.Every ≤ b + dlongS t + t.Jitter + t.Every - 1 := by omega
      exact (Int.le_ediv_iff_mul_le (by omega)).2 this
    have h3 : 1 * dlongS t ≤ asksV (b + dlongS t) false t * dlongS t := Int.mul_le_mul_of_nonneg_right h2 (by omega)
    omega
  · dsimp only
    rw [dw1_eq h hb (by omega), dw1_eq h hb (by omega)]
    have h1 := sumA_mono (l.take i.toNat) (h.ok1 _) hy hyz false
    have h2 := Int.mul_le_mul_of_nonneg_right (asksV_mono h.tok hy hyz false) (show 0 ≤ dlongS t by omega)
    omega
/-- While the bus is never at rest: what it tells of the times within. -/
theorem busy_at {l : List Task} {i : Int} {t : Task} (h : Rt l i t) {b : Int} (hb : 0 ≤ b ∧ b ≤ 135) (hp : ¬ busyB b l i t < 0) :
    b + dlongS t ≤ busyB b l i t ∧ busyB b l i t ≤ 200000 ∧ busyB b l i t = b + sumA (busyB b l i t) false (l.take i.toNat) + asksV (busyB b l i t) false t * dlongS t := by
  obtain ⟨e1, hpre⟩ := busy_pre h hb
  have hd := dlongS_eq h.tok
  have hB : busyB b l i t = dfixS (b + dlongS t) (fun x => dw1S x b l i) := by unfold busyB; rw [e1]
  rcases fix_spec _ _ hpre with ⟨k1, _⟩ | ⟨k1, k2, k3, _⟩
  · rw [hB, k1] at hp; omega
  · rw [← hB] at k1 k2 k3
    refine ⟨k1, k2, ?_⟩
    have := dw1_eq h hb (x := busyB b l i t) (by omega)
    (try dsimp only at k3)
    omega
theorem wait_pre {l : List Task} {i : Int} {t : Task} (h : Rt l i t) {b : Int} (hb : 0 ≤ b ∧ b ≤ 135) {L q : Int} (hL : 0 ≤ L ∧ L ≤ 200000) (hLf : b + sumA L false (l.take i.toNat) + asksV L false t * dlongS t ≤ L) (hq : 0 ≤ q ∧ q < asksV L false t) :
    w64 (b + w64 (q * dlongS t)) = b + q * dlongS t ∧ fixpre (b + q * dlongS t) (fun x => dw2S x b q t l i) ∧ b + q * dlongS t ≤ L - dlongS t ∧ dw2S (L - dlongS t) b q t l i ≤ L - dlongS t ∧ 0 ≤ waitQ b q l i t ∧ waitQ b q l i t ≤ L - dlongS t := by
  have hd := dlongS_eq h.tok
  have hv := asksV_bound h.tok hL false
  have hs := sumA_bound (l.take i.toNat) (h.ok1 _) hL false
  have h1 : q * dlongS t + dlongS t ≤ asksV L false t * dlongS t := by
    have h2 := Int.mul_le_mul_of_nonneg_right (show q + 1 ≤ asksV L false t by omega) (show 0 ≤ dlongS t by omega)
    have e : (q + 1) * dlongS t = q * dlongS t + dlongS t := by rw [Int.add_mul, Int.one_mul]
    omega
  have h0 : 0 ≤ q * dlongS t := Int.mul_nonneg hq.1 (by omega)
  have e1 : w64 (b + w64 (q * dlongS t)) = b + q * dlongS t := by rw [w64_eq (q * dlongS t) (by omega), w64_eq _ (by omega)]
  have hpre : fixpre (b + q * dlongS t) (fun x => dw2S x b q t l i) := by
    refine ⟨by omega, by omega, ?_, fun y z hy hyz hz => ?_⟩
    · dsimp only
      rw [dw2_eq h hb (by omega) (by omega)]
      have := (sumA_bound (l.take i.toNat) (h.ok1 _) (x := b + q * dlongS t) (by omega) true).1
      omega
    · dsimp only
      rw [dw2_eq h hb (by omega) (by omega), dw2_eq h hb (by omega) (by omega)]
      have := sumA_mono (l.take i.toNat) (h.ok1 _) hy hyz true
      omega
  have hlow : b + q * dlongS t ≤ L - dlongS t := by omega
  have hfx : dw2S (L - dlongS t) b q t l i ≤ L - dlongS t := by
    rw [dw2_eq h hb (by omega) (by omega)]
    have := sum_below (l.take i.toNat) (h.ok1 _) (x := L - dlongS t) (L := L) (by omega) (by omega)
    omega
  refine ⟨e1, hpre, hlow, hfx, ?_⟩
  have hW : waitQ b q l i t = dfixS (b + q * dlongS t) (fun x => dw2S x b q t l i) := by unfold waitQ; rw [e1]
  rcases fix_spec _ _ hpre with ⟨_, k2⟩ | ⟨k1, k2, _, k4⟩
  · exact absurd hfx fun hc => k2 _ hlow (by omega) hc
  · rw [← hW] at k1 k4
    exact ⟨by omega, k4 _ hlow (by omega) hfx⟩
theorem blockS_bound (l : List Task) (h : ∀ o ∈ l, tok o = true) (i : Int) : 0 ≤ blockS l i ∧ blockS l i ≤ 135 := by
  have key : ∀ (ts : List Task), (∀ o ∈ ts, tok o = true) → ∀ b, 0 ≤ b ∧ b ≤ 135 → 0 ≤ ts.foldl (fun b o => max b (dlongS o)) b ∧ ts.foldl (fun b o => max b (dlongS o)) b ≤ 135 := by
    intro ts
    induction ts with
    | nil => exact fun _ b hb => hb
    | cons o r ih =>
      intro ho b hb
      have hd := dlongS_eq (ho o (by simp))
      exact ih (fun y hy => ho y (by simp [hy])) (max b (dlongS o)) ⟨by omega, by omega⟩
  exact key _ (fun o ho => h o (List.mem_of_mem_drop ho)) 0 ⟨by decide, by decide⟩
theorem termQ_eq {l : List Task} {i : Int} {t : Task} (h : Rt l i t) {b q : Int} (hq : 0 ≤ q ∧ q ≤ 2300000) (hw : 0 ≤ waitQ b q l i t ∧ waitQ b q l i t ≤ 200000) : termQ b q l i t = t.Jitter + waitQ b q l i t - q * t.Every + dlongS t := by
  have hd := dlongS_eq h.tok
  have ht := tok_spec h.tok
  have h1 : q * t.Every ≤ q * 1000000 := Int.mul_le_mul_of_nonneg_left (by omega) hq.1
  have h2 : 0 ≤ q * t.Every := Int.mul_nonneg hq.1 (by omega)
  unfold termQ
  rw [w64_eq (q * t.Every) (by omega), w64_eq (t.Jitter + waitQ b q l i t) (by omega), w64_eq (t.Jitter + waitQ b q l i t - q * t.Every) (by omega), w64_eq _ (by omega)]
theorem dworst_ok (l : List Task) (i : Int) (h : dcheckS l = 0 ∧ 0 ≤ i ∧ i < (l.length : Int)) (hok : l.length ≤ 20 ∧ ∀ o ∈ l, tok o = true) : dworst_vc l i (fun r => r = worstS l i) := by
  obtain ⟨_, hi0, hi1⟩ := h
  intro hl
  refine ⟨⟨hi0, hi1⟩, fun t ht => ?_⟩
  have R : Rt l i t := ⟨hok.1, hok.2, hi0, ht⟩
  have hlen := hok.1
  have ew : w64 (i + 1) = i + 1 := w64_eq _ (by omega)
  have hS : worstS l i = worstB (blockS l i) l i t := by unfold worstS; rw [ht]; rfl
  rw [ew, hS]
  have hdl : (l.drop (i + 1).toNat).length ≤ 20 := by rw [List.length_drop]; omega
  refine ⟨by omega, rg1a (by omega) (fun k b => ((l.drop (i + 1).toNat).drop k).foldl (fun b o => max b (dlongS o)) b = blockS l i) rfl ?_ ?_⟩
  · intro k b q hk hq hj inv mu hn
    rw [fold_drop _ _ k q b hq] at hj
    exact hn _ hj
  · intro b hj
    rw [List.drop_length] at hj
    have hj : b = blockS l i := hj
    subst hj
    have hb := blockS_bound l hok.2 i
    obtain ⟨e1, hpre⟩ := busy_pre R hb
    have hB : busyB (blockS l i) l i t = dfixS (blockS l i + dlongS t) (fun x => dw1S x (blockS l i) l i) := by unfold busyB; rw [e1]
    rw [e1, ← hB]
    generalize hbb : blockS l i = b at *
    have hR : ((0 ≤ i ∧ i < (l.length : Int)) ∧ (∀ o ∈ l, o.Every ≠ 0) ∧ l.length ≤ 1000000) := ⟨⟨hi0, hi1⟩, R.every, by omega⟩
    refine ⟨hpre, hR, fun h1 => ?_, fun h1 => ?_⟩
    · unfold worstB
      rw [if_pos (by simpa using h1)]
    · have hp : ¬ busyB b l i t < 0 := by simpa using h1
      obtain ⟨k1, k2, k3⟩ := busy_at R hb hp
      have hd := dlongS_eq R.tok
      have hN := dasksS_eq R.tok (x := busyB b l i t) (by omega) false
      have hNb := asksV_bound R.tok (x := busyB b l i t) (by omega) false
      refine ⟨R.every t (List.mem_of_getElem? ht), fun x q => ∃ k : Nat, q = k ∧ (k : Int) ≤ dasksS t (busyB b l i t) false ∧ x = bestQ b l i t k, fun _ q => (dasksS t (busyB b l i t) false - q).toNat, ⟨0, rfl, by omega, rfl⟩, ?_⟩
      rintro _ _ ⟨k, rfl, hk, rfl⟩
      refine ⟨fun h2 => ?_, fun h2 => ?_⟩
      · have hkN : (k : Int) < asksV (busyB b l i t) false t := by
          have := of_decide_eq_true h2
          omega
        obtain ⟨w1, w2, w3, w4, w5, w6⟩ := wait_pre R hb (L := busyB b l i t) (q := k) (by omega) (by omega) ⟨by omega, hkN⟩
        have ek : w64 ((k : Int) + 1) = ((k + 1 : Nat) : Int) := w64_succ k (by omega)
        rw [ek, w1]
        refine ⟨w2, hR, ⟨k + 1, rfl, by omega, ?_⟩, by (try dsimp only); omega⟩
        rw [bestQ]
        unfold termQ waitQ
        rw [w1]
      · have hkN : (k : Int) = dasksS t (busyB b l i t) false := by have := of_decide_eq_false h2; omega
        unfold worstB
        rw [if_neg hp, ← hkN]
        rfl
/-- Who is blocked longer waits longer. -/
theorem worst_mono {l l' : List Task} {i : Int} {t : Task} (h : Rt l i t) (h' : Rt l' i t) (htk : l'.take i.toNat = l.take i.toNat) {b b' : Int} (hb : 0 ≤ b) (hbb : b ≤ b') (hb' : b' ≤ 135) (hw : 0 ≤ worstB b' l' i t) : 0 ≤ worstB b l i t ∧ worstB b l i t ≤ worstB b' l' i t := by
  have hd := dlongS_eq h.tok
  have ht := tok_spec h.tok
  have hp' : ¬ busyB b' l' i t < 0 := by
    intro hc
    unfold worstB at hw
    rw [if_pos hc] at hw
    omega
  obtain ⟨k1, k2, k3⟩ := busy_at h' ⟨by omega, hb'⟩ hp'
  rw [htk] at k3
  obtain ⟨e1, hpre⟩ := busy_pre h (b := b) ⟨hb, by omega⟩
  have hB : busyB b l i t = dfixS (b + dlongS t) (fun x => dw1S x b l i) := by unfold busyB; rw [e1]
  have hle : 0 ≤ busyB b l i t ∧ busyB b l i t ≤ busyB b' l' i t := by
    have hfx : dw1S (busyB b' l' i t) b l i ≤ busyB b' l' i t := by
      rw [dw1_eq h ⟨hb, by omega⟩ (by omega)]
      omega
    rcases fix_spec _ _ hpre with ⟨_, j2⟩ | ⟨j1, _, _, j4⟩
    · exact absurd hfx fun hc => j2 _ (by omega) (by omega) hc
    · rw [← hB] at j1 j4
      exact ⟨by omega, j4 _ (by omega) (by omega) hfx⟩
  have hp : ¬ busyB b l i t < 0 := by omega
  obtain ⟨m1, m2, m3⟩ := busy_at h ⟨hb, by omega⟩ hp
  have hN := dasksS_eq h.tok (x := busyB b l i t) (by omega) false
  have hN' := dasksS_eq h.tok (x := busyB b' l' i t) (by omega) false
  have hmono := asksV_mono h.tok (x := busyB b l i t) hle.1 hle.2 false
  have hNb := asksV_bound h.tok (x := busyB b' l' i t) (by omega) false
  have hNb0 := asksV_bound h.tok (x := busyB b l i t) (by omega) false
  have hbest0 : ∀ (l : List Task) (b : Int) k, 0 ≤ bestQ b l i t k := by
    intro l b k
    induction k with
    | zero => exact Int.le_refl _
    | succ k ih => rw [bestQ]; omega
  have hgrow : ∀ (b : Int) (l : List Task) k j, k ≤ j → bestQ b l i t k ≤ bestQ b l i t j := by
    intro b l k j hkj
    induction j with
    | zero => have : k = 0 := by omega
              subst this; exact Int.le_refl _
    | succ j ih =>
      rcases Nat.lt_or_ge j k with hc | hc
      · have : k = j + 1 := by omega
        subst this; exact Int.le_refl _
      · have := ih hc
        rw [bestQ]; omega
  have hcmp : ∀ k : Nat, (k : Int) ≤ asksV (busyB b l i t) false t → bestQ b l i t k ≤ bestQ b' l' i t k := by
    intro k
    induction k with
    | zero => intro _; exact Int.le_refl _
    | succ k ih =>
      intro hk
      have h1 := ih (by omega)
      obtain ⟨w1, w2, w3, w4, w5, w6⟩ := wait_pre h (b := b) ⟨hb, by omega⟩ (L := busyB b l i t) (q := k) (by omega) (by omega) ⟨by omega, by omega⟩
      obtain ⟨v1, v2, v3, v4, v5, v6⟩ := wait_pre h' (b := b') ⟨by omega, hb'⟩ (L := busyB b' l' i t) (q := k) (by omega) (by rw [htk]; omega) ⟨by omega, by omega⟩
      have hV : waitQ b' k l' i t = dfixS (b' + k * dlongS t) (fun x => dw2S x b' k t l' i) := by unfold waitQ; rw [v1]
      have hW : waitQ b k l i t = dfixS (b + k * dlongS t) (fun x => dw2S x b k t l i) := by unfold waitQ; rw [w1]
      have hvw : waitQ b k l i t ≤ waitQ b' k l' i t := by
        rcases fix_spec _ _ v2 with ⟨j1, _⟩ | ⟨j1, j2, j3, _⟩
        · rw [← hV] at j1; omega
        · rw [← hV] at j1 j2 j3
          (try dsimp only at j3)
          rw [dw2_eq h' ⟨by omega, hb'⟩ (by omega) (by omega), htk] at j3
          have hfx : dw2S (waitQ b' k l' i t) b k t l i ≤ waitQ b' k l' i t := by
            rw [dw2_eq h ⟨hb, by omega⟩ (by omega) (by omega)]
            omega
          rcases fix_spec _ _ w2 with ⟨_, n2⟩ | ⟨_, _, _, n4⟩
          · exact absurd hfx fun hc => n2 _ (by omega) (by omega) hc
          · rw [← hW] at n4
            exact n4 _ (by omega) (by omega) hfx
      rw [bestQ, bestQ, termQ_eq h (by omega) (by omega), termQ_eq h' (by omega) (by omega)]
      omega
  unfold worstB
  rw [if_neg hp, if_neg hp', hN, hN']
  refine ⟨hbest0 _ _ _, ?_⟩
  exact Int.le_trans (hcmp _ (by omega)) (hgrow _ _ _ _ (by omega))
theorem dchk_ok (l : List Task) : ∀ last, dchk last l = 0 → ∀ o ∈ l, tok o = true := by
  induction l with
  | nil => intro _ _ o ho; cases ho
  | cons t r ih =>
    intro last h o ho
    rw [dchk] at h
    by_cases h1 : tok t = false
    · rw [if_pos h1] at h; cases h
    · rw [if_neg h1] at h
      by_cases h2 : t.ID ≤ last
      · rw [if_pos h2] at h; cases h
      · rw [if_neg h2] at h
        rcases List.mem_cons.1 ho with rfl | ho
        · simpa using h1
        · exact ih t.ID h o ho
theorem dcheckS_zero {l : List Task} (h : dcheckS l = 0) : l.length ≤ 20 ∧ ∀ o ∈ l, tok o = true := by
  unfold dcheckS at h
  by_cases h1 : 20 < l.length
  · rw [if_pos h1] at h; cases h
  · rw [if_neg h1] at h
    exact ⟨by omega, dchk_ok l _ h⟩
theorem dworst_ok2 (l : List Task) (i : Int) (h : dcheckS l = 0 ∧ 0 ≤ i ∧ i < (l.length : Int)) : dworst_vc l i (fun r => r = worstS l i) := dworst_ok l i h (dcheckS_zero h.1)

end Go.Proofs.Ytginlmgkimfjmaa
