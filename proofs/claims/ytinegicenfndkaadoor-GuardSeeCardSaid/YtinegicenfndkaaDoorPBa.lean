/- What must hold so that each function ends well: pure predicates, made by program. -/
import Derived.Test.YtinegicenfndkaaDoorPB
set_option linter.unusedVariables false
set_option linter.unusedSimpArgs false
namespace Go.Proofs.YtinegicenfndkaaDoor
open Go.Sy Go.RowKit
structure BInt where
  neg : Bool
  abs : List Int
  deriving DecidableEq, Inhabited
def BInt.rep (Z : Fz) (cs : List Value) (x : BInt) : Prop := ∃ (ao0 : Option Addr) (cap0 : Nat), cs = [.bool x.neg, .slice ao0 x.abs.length cap0] ∧ SlR (tyInt .u32) Z ao0 cap0 x.abs
def tyBInt : Ty BInt :=
  ⟨2, BInt.rep, by rintro _ _ _ ⟨_, _, rfl, _⟩; rfl, by rintro _ _ _ _ hZ ⟨_, _, rfl, h0⟩; exact ⟨_, _, rfl, h0.mono hZ⟩, by rintro _ _ _ ⟨_, _, rfl, _⟩; simp [Value.oneCell']⟩

def gtrim_vc (u0 : List Int) (K : (List Int) → Prop) : Prop :=
  (u0.length ≤ 140737488355328 →
    (∃ inv16 : Int → Prop, ∃ mu16 : Int → Nat, inv16 (u0.length : Int) ∧
    (∀ (x3 : Int), inv16 x3 →
    (((decide (x3 > 0)) = true →
      ((0 ≤ w64 (x3 - 1) ∧ w64 (x3 - 1) < (u0.length : Int)) ∧
      (∀ q54, u0[(w64 (x3 - 1)).toNat]? = some q54 →
      (((q54 == 0) = true →
        (inv16 (w64 (x3 - 1)) ∧ mu16 (w64 (x3 - 1)) < mu16 x3)) ∧
      ((q54 == 0) = false →
        ((0 ≤ x3 ∧ x3 ≤ (u0.length : Int)) ∧
        (K (u0.take x3.toNat)))))))) ∧
    ((decide (x3 > 0)) = false →
      ((0 ≤ x3 ∧ x3 ≤ (u0.length : Int)) ∧
      (K (u0.take x3.toNat))))))))

def glength_vc (u0 : List Int) (K : Int → Prop) : Prop :=
  (u0.length ≤ 140737488355328 →
    ((((u0.length : Int) == 0) = true →
      (K 0)) ∧
    (((u0.length : Int) == 0) = false →
      ((0 ≤ w64 ((u0.length : Int) - 1) ∧ w64 ((u0.length : Int) - 1) < (u0.length : Int)) ∧
      (∀ q38, u0[(w64 ((u0.length : Int) - 1)).toNat]? = some q38 →
      (∃ inv50 : Int → Int → Prop, ∃ mu50 : Int → Int → Nat, inv50 0 q38 ∧
      (∀ (x3 : Int) (x4 : Int), inv50 x3 x4 →
      (((x4 != 0) = true →
        (inv50 (w64 (x3 + 1)) (bShr .u32 x4 1) ∧ mu50 (w64 (x3 + 1)) (bShr .u32 x4 1) < mu50 x3 x4)) ∧
      ((x4 != 0) = false →
        (K (w64 ((w64 ((w64 ((u0.length : Int) - 1)) * 32)) + x3))))))))))))

/-! Pure proofs: no program in sight. -/
/-! Numbers in words of 32 bits, the least first. -/
def wv : List Int → Nat
  | [] => 0
  | x :: r => x.toNat + 4294967296 * wv r
def wok (l : List Int) : Prop := ∀ x ∈ l, 0 ≤ x ∧ x < 4294967296
def ws (n : Nat) : List Int := if n = 0 then [] else ((n % 4294967296 : Nat) : Int) :: ws (n / 4294967296)
 termination_by n
 decreasing_by omega
theorem ws_zero : ws 0 = [] := by rw [ws]; rfl
theorem ws_pos {n : Nat} (h : n ≠ 0) : ws n = ((n % 4294967296 : Nat) : Int) :: ws (n / 4294967296) := by rw [ws, if_neg h]
theorem wv_ws : ∀ n : Nat, wv (ws n) = n := by
  intro n
  induction n using Nat.strongRecOn with
  | ind n ih =>
    by_cases h : n = 0
    · subst h; rw [ws_zero]; rfl
    · rw [ws_pos h, wv, ih _ (by omega), Int.toNat_natCast]
      omega
theorem ws_wok : ∀ n : Nat, wok (ws n) := by
  intro n
  induction n using Nat.strongRecOn with
  | ind n ih =>
    by_cases h : n = 0
    · subst h; rw [ws_zero]; intro x hx; cases hx
    · rw [ws_pos h]
      intro x hx
      rcases List.mem_cons.1 hx with rfl | hx
      · omega
      · exact ih _ (by omega) x hx
theorem ws_len : ∀ (k n : Nat), n < 4294967296 ^ k → (ws n).length ≤ k := by
  intro k
  induction k with
  | zero => intro n h; have : n = 0 := by simpa using h
            subst this; rw [ws_zero]; simp
  | succ k ih =>
    intro n h
    by_cases h0 : n = 0
    · subst h0; rw [ws_zero]; simp
    · rw [ws_pos h0, List.length_cons]
      have : n / 4294967296 < 4294967296 ^ k := by
        rw [Nat.div_lt_iff_lt_mul (by decide)]
        rwa [Nat.pow_succ] at h
      have := ih _ this
      omega
theorem wok_nil : wok [] := fun x hx => by cases hx
theorem wok_cons {x : Int} {r : List Int} (h : wok (x :: r)) : (0 ≤ x ∧ x < 4294967296) ∧ wok r := ⟨h x (List.mem_cons_self ..), fun y hy => h y (List.mem_cons_of_mem _ hy)⟩
theorem wok_at {l : List Int} (h : wok l) {k : Nat} {q : Int} (hq : l[k]? = some q) : ∃ n : Nat, q = n ∧ n < 4294967296 := by
  have := h q (List.mem_of_getElem? hq)
  exact ⟨q.toNat, by omega, by omega⟩
theorem wok_set {l : List Int} (h : wok l) (k : Nat) (n : Nat) (hn : n < 4294967296) : wok (l.set k (n : Int)) := by
  intro x hx
  rcases List.mem_or_eq_of_mem_set hx with hx | rfl
  · exact h x hx
  · omega
theorem wok_rep (n : Nat) : wok (List.replicate n (0 : Int)) := fun x hx => by rw [(List.mem_replicate.1 hx).2]; omega
theorem wok_app {a b : List Int} (ha : wok a) (hb : wok b) : wok (a ++ b) := fun x hx => (List.mem_append.1 hx).elim (ha x) (hb x)
theorem wok_take {a : List Int} (ha : wok a) (k : Nat) : wok (a.take k) := fun x hx => ha x (List.mem_of_mem_take hx)
theorem wv_append (a b : List Int) : wv (a ++ b) = wv a + 4294967296 ^ a.length * wv b := by
  induction a with
  | nil => simp [wv]
  | cons x r ih => rw [List.cons_append, wv, ih, wv, List.length_cons, Nat.pow_succ, Nat.mul_add, Nat.add_assoc, Nat.mul_comm (4294967296 ^ r.length) 4294967296, Nat.mul_assoc]
theorem wv_rep (n : Nat) : wv (List.replicate n (0 : Int)) = 0 := by
  induction n with
  | zero => rfl
  | succ n ih => rw [List.replicate_succ, wv, ih]; rfl
theorem wv_next {l : List Int} {k n : Nat} (h : l[k]? = some (n : Int)) : wv (l.take (k + 1)) = wv (l.take k) + 4294967296 ^ k * n := by
  have hk := (List.getElem?_eq_some_iff.1 h).1
  rw [take_next l k _ h, wv_append, List.length_take, Nat.min_eq_left (by omega)]
  simp [wv]
theorem wv_set : ∀ (l : List Int) (k q n : Nat), l[k]? = some (q : Int) → wv (l.set k (n : Int)) + 4294967296 ^ k * q = wv l + 4294967296 ^ k * n := by
  intro l
  induction l with
  | nil => intro k q n h; simp at h
  | cons x r ih =>
    intro k q n h
    cases k with
    | zero =>
      cases h
      simp [wv]
      omega
    | succ k =>
      have := ih k q n (by simpa using h)
      rw [List.set_cons_succ, wv, wv, Nat.pow_succ, Nat.mul_comm (4294967296 ^ k) 4294967296, Nat.mul_assoc, Nat.mul_assoc]
      omega
theorem wv_lt {l : List Int} (h : wok l) : wv l < 4294967296 ^ l.length := by
  induction l with
  | nil => simp [wv]
  | cons x r ih =>
    obtain ⟨h1, h2⟩ := wok_cons h
    have := ih h2
    rw [wv, List.length_cons, Nat.pow_succ]
    omega
/-- Without the noughts at the end. -/
def gtrimS : List Int → List Int
  | [] => []
  | x :: r => match gtrimS r with
    | [] => if x = 0 then [] else [x]
    | y :: q => x :: y :: q
theorem gtrim_ws {l : List Int} (h : wok l) : gtrimS l = ws (wv l) := by
  induction l with
  | nil => rw [wv, ws_zero]; rfl
  | cons x r ih =>
    obtain ⟨h1, h2⟩ := wok_cons h
    rw [gtrimS, ih h2, wv]
    by_cases h0 : wv r = 0
    · rw [h0, ws_zero]
      by_cases hx : x = 0
      · subst hx
        rw [if_pos rfl]
        show [] = ws 0
        rw [ws_zero]
      · rw [if_neg hx, ws_pos (by omega)]
        have e1 : (x.toNat + 4294967296 * 0) % 4294967296 = x.toNat := by omega
        have e2 : (x.toNat + 4294967296 * 0) / 4294967296 = 0 := by omega
        rw [e1, e2, ws_zero, Int.toNat_of_nonneg h1.1]
    · have e1 : (x.toNat + 4294967296 * wv r) % 4294967296 = x.toNat := by omega
      have e2 : (x.toNat + 4294967296 * wv r) / 4294967296 = wv r := by omega
      rw [ws_pos (n := x.toNat + 4294967296 * wv r) (by omega), e1, e2]
      have e3 : ((x.toNat : Nat) : Int) = x := Int.toNat_of_nonneg h1.1
      rw [e3]
      rw [ws_pos h0]
theorem ws_trim (n : Nat) : gtrimS (ws n) = ws n := by rw [gtrim_ws (ws_wok n), wv_ws]
theorem gtrim_len (l : List Int) : (gtrimS l).length ≤ l.length := by
  induction l with
  | nil => exact Nat.le_refl _
  | cons x r ih =>
    rw [gtrimS]
    split
    · split <;> simp
    · rename_i y q e
      rw [e] at ih
      simpa using ih
theorem gtrim_snoc0 (l : List Int) : gtrimS (l ++ [0]) = gtrimS l := by
  induction l with
  | nil => rfl
  | cons x r ih => rw [List.cons_append, gtrimS, ih, gtrimS]
theorem gtrim_snoc (l : List Int) (x : Int) (hx : x ≠ 0) : gtrimS (l ++ [x]) = l ++ [x] := by
  induction l with
  | nil => show (if x = 0 then [] else [x]) = [x]; rw [if_neg hx]
  | cons y r ih =>
    rw [List.cons_append, gtrimS, ih]
    cases hr : r ++ [x] with
    | nil => simp at hr
    | cons a b => rfl
theorem gtrim_ok (l : List Int) : gtrim_vc l (fun r => r = gtrimS l) := by
  intro hl
  refine ⟨fun i => ∃ k : Nat, i = k ∧ k ≤ l.length ∧ gtrimS (l.take k) = gtrimS l, fun i => i.toNat, ⟨l.length, rfl, Nat.le_refl _, by rw [List.take_length]⟩, ?_⟩
  rintro _ ⟨k, rfl, hk, hg⟩
  refine ⟨fun h => ?_, fun h => ?_⟩
  · have h : 0 < k := by have := of_decide_eq_true h; omega
    have e : w64 ((k : Int) - 1) = ((k - 1 : Nat) : Int) := by rw [w64_eq _ (by omega)]; omega
    rw [e]
    refine ⟨by omega, fun q hq => ?_⟩
    rw [Int.toNat_natCast] at hq
    have ht := take_next l (k - 1) q hq
    have e1 : k - 1 + 1 = k := by omega
    rw [e1] at ht
    refine ⟨fun h1 => ?_, fun h1 => ?_⟩
    · have h1 : q = 0 := by simpa using h1
      subst h1
      rw [ht, gtrim_snoc0] at hg
      exact ⟨⟨k - 1, rfl, by omega, hg⟩, by (try dsimp only); omega⟩
    · have h1 : q ≠ 0 := by simpa using h1
      refine ⟨by omega, ?_⟩
      rw [Int.toNat_natCast, ← hg, ht, gtrim_snoc _ _ h1]
  · have h : k = 0 := by have := of_decide_eq_false h; omega
    subst h
    refine ⟨by omega, ?_⟩
    rw [← hg]
    rfl
/-- How many bits a number has. -/
def blen (n : Nat) : Nat := if n = 0 then 0 else Nat.log2 n + 1
theorem blen_lt (n : Nat) : n < 2 ^ blen n := by
  unfold blen
  split
  · subst_vars; decide
  · rename_i h
    exact (Nat.log2_lt h).1 (by omega)
theorem blen_ge {n : Nat} (h : n ≠ 0) : 2 ^ (blen n - 1) ≤ n := by
  unfold blen
  rw [if_neg h, Nat.add_sub_cancel]
  exact (Nat.le_log2 h).1 (Nat.le_refl _)
theorem blen_eq {n k : Nat} (h1 : n < 2 ^ (k + 1)) (h2 : 2 ^ k ≤ n) : blen n = k + 1 := by
  have p := Nat.two_pow_pos k
  have h0 : n ≠ 0 := by omega
  unfold blen
  rw [if_neg h0, (Nat.log2_eq_iff h0).2 ⟨h2, h1⟩]
def glengthS (l : List Int) : Int := (blen (wv l) : Int)
theorem shru (n s : Nat) (hs : s ≤ 64) (k : IntKind) (hk : s ≤ k.bits) : bShr k (n : Int) (s : Int) = ((n / 2 ^ s : Nat) : Int) := by
  unfold bShr
  have : min (s : Int).toNat k.bits = s := by rw [Int.toNat_natCast]; omega
  rw [this, Int.fdiv_eq_ediv_of_nonneg _ (Int.le_of_lt (Int.pow_pos (by decide)))]
  norm_cast
theorem wu32_nat (n : Nat) : wu32 (n : Int) = ((n % 4294967296 : Nat) : Int) := by
  show IntKind.u32.wrap (n : Int) = _
  rw [IntKind.wrap_u32]
  omega
theorem ws_last {n : Nat} (h : n ≠ 0) : ∃ (p : List Int) (q : Nat), ws n = p ++ [(q : Int)] ∧ q ≠ 0 ∧ q < 4294967296 := by
  have hne : ws n ≠ [] := by rw [ws_pos h]; simp
  obtain ⟨p, x, hp⟩ : ∃ p x, ws n = p ++ [x] := ⟨(ws n).dropLast, (ws n).getLast hne, (List.dropLast_concat_getLast hne).symm⟩
  have hx := ws_wok n x (by rw [hp]; simp)
  refine ⟨p, x.toNat, by rw [hp]; congr 2; omega, fun h0 => ?_, by omega⟩
  have h1 : x = 0 := by omega
  have h2 := ws_trim n
  rw [hp, h1, gtrim_snoc0] at h2
  have h3 := gtrim_len p
  rw [h2] at h3
  rw [List.length_append, List.length_singleton] at h3
  omega
theorem glength_ok (l : List Int) (h : l = ws (wv l) ∧ l.length ≤ 1000000) : glength_vc l (fun r => r = glengthS l) := by
  obtain ⟨h, hb⟩ := h
  intro hl
  refine ⟨fun h1 => ?_, fun h1 => ?_⟩
  · have h2 : (l.length : Int) = 0 := by simpa only [beq_iff_eq] using h1
    have h1 : l = [] := List.eq_nil_of_length_eq_zero (by omega)
    subst h1
    rfl
  · have h0 : wv l ≠ 0 := by
      intro e
      rw [e, ws_zero] at h
      subst h
      cases h1
    obtain ⟨p, q, hp, hq0, hq1⟩ := ws_last h0
    rw [← h] at hp
    have hpl : l.length = p.length + 1 := by rw [hp]; simp
    have e : w64 ((l.length : Int) - 1) = (p.length : Int) := by rw [w64_eq _ (by omega)]; omega
    rw [e]
    refine ⟨by omega, fun x hx => ?_⟩
    have hx : x = (q : Int) := by
      rw [Int.toNat_natCast, hp] at hx
      simp at hx
      exact hx.symm
    subst hx
    refine ⟨fun i t => ∃ k : Nat, i = k ∧ k ≤ 32 ∧ t = ((q / 2 ^ k : Nat) : Int) ∧ (k = 0 ∨ q / 2 ^ (k - 1) ≠ 0), fun _ t => t.toNat, ⟨0, rfl, by omega, by simp, .inl rfl⟩, ?_⟩
    rintro _ _ ⟨k, rfl, hk, rfl, hge⟩
    refine ⟨fun h2 => ?_, fun h2 => ?_⟩
    · have h2 : q / 2 ^ k ≠ 0 := by
        intro e2
        rw [e2] at h2
        cases h2
      have hk2 : k < 32 := by
        rcases Nat.lt_or_ge k 32 with hc | hc
        · exact hc
        · exfalso
          have : k = 32 := by omega
          subst this
          exact h2 (Nat.div_eq_of_lt hq1)
      have e3 : bShr .u32 ((q / 2 ^ k : Nat) : Int) 1 = ((q / 2 ^ k / 2 : Nat) : Int) := shru (q / 2 ^ k) 1 (by omega) .u32 (by decide)
      rw [e3, w64_succ k (by omega)]
      refine ⟨⟨k + 1, rfl, by omega, by rw [Nat.pow_succ, Nat.div_div_eq_div_mul], .inr (by rw [Nat.add_sub_cancel]; exact h2)⟩, ?_⟩
      show (((q / 2 ^ k / 2 : Nat)) : Int).toNat < (((q / 2 ^ k : Nat)) : Int).toNat
      rw [Int.toNat_natCast, Int.toNat_natCast]
      exact Nat.div_lt_self (Nat.pos_of_ne_zero h2) (by decide)
    · have h2 : q / 2 ^ k = 0 := by
        have : (((q / 2 ^ k : Nat) : Int)) = 0 := by simpa only [bne_eq_false_iff_eq] using h2
        omega
      have hk0 : k ≠ 0 := by
        rintro rfl
        rw [Nat.pow_zero, Nat.div_one] at h2
        exact hq0 h2
      obtain ⟨j, rfl⟩ : ∃ j, k = j + 1 := ⟨k - 1, by omega⟩
      have hge : q / 2 ^ j ≠ 0 := by
        rcases hge with hge | hge
        · omega
        · simpa using hge
      have a1 : q < 2 ^ (j + 1) := by
        rcases Nat.lt_or_ge q (2 ^ (j + 1)) with hc | hc
        · exact hc
        · have := Nat.div_pos hc (Nat.two_pow_pos _)
          omega
      have a2 : 2 ^ j ≤ q := by
        rcases Nat.lt_or_ge q (2 ^ j) with hc | hc
        · exact absurd (Nat.div_eq_of_lt hc) hge
        · exact hc
      rw [w64_eq ((p.length : Int) * 32) (by omega), w64_eq _ (by omega)]
      unfold glengthS
      have hpw : (4294967296 : Nat) ^ p.length = 2 ^ (32 * p.length) := by rw [Nat.pow_mul]
      have hvl : wv l = wv p + 2 ^ (32 * p.length) * q := by
        rw [hp, wv_append, hpw]
        simp [wv]
      have hpl2 : wv p < 2 ^ (32 * p.length) := by
        have : wok p := fun y hy => by
          have := ws_wok (wv l) y (by rw [← h, hp]; exact List.mem_append_left _ hy)
          exact this
        have := wv_lt this
        rwa [hpw] at this
      have b1 : wv l < 2 ^ (32 * p.length + j + 1) := by
        rw [hvl, Nat.add_assoc, Nat.pow_add]
        have : 2 ^ (32 * p.length) * (q + 1) ≤ 2 ^ (32 * p.length) * 2 ^ (j + 1) := Nat.mul_le_mul_left _ (by omega)
        rw [Nat.mul_add] at this
        omega
      have b2 : 2 ^ (32 * p.length + j) ≤ wv l := by
        rw [hvl, Nat.pow_add]
        have : 2 ^ (32 * p.length) * 2 ^ j ≤ 2 ^ (32 * p.length) * q := Nat.mul_le_mul_left _ a2
        omega
      rw [blen_eq b1 b2]
      omega

end Go.Proofs.YtinegicenfndkaaDoor
