/- What must hold so that each function ends well: pure predicates, made by program. -/
import Derived.Test.YtfafpnacflcgmaaDoorPBm
set_option linter.unusedVariables false
set_option linter.unusedSimpArgs false
namespace Go.Proofs.YtfafpnacflcgmaaDoor
open Go.Sy Go.RowKit
structure BInt where
  neg : Bool
  abs : List Int
  deriving DecidableEq, Inhabited
def gtrim_vc (u0 : List Int) (K : (List Int) → Prop) : Prop :=
  (u0.length ≤ 140737488355328 →
    (∃ inv16 : Int → Prop, ∃ mu16 : Int → Nat, inv16 (u0.length : Int) ∧
    (∀ (x3 : Int), inv16 x3 →
    (((decide (x3 > 0)) = true →
      ((0 ≤ w64 (x3 - 1) ∧ w64 (x3 - 1) < (u0.length : Int)) ∧
      (∀ q54, u0[(w64 (x3 - 1)).toNat]? = some q54 →
      (((q54 == 0) = true →
        (inv16 (w64 (x3 - 1)) ∧ mu16 (w64 (x3 - 1)) < mu16 x3)) ∧
      ((q54 == 0) = false →
        ((0 ≤ x3 ∧ x3 ≤ (u0.length : Int)) ∧
        (K (u0.take x3.toNat)))))))) ∧
    ((decide (x3 > 0)) = false →
      ((0 ≤ x3 ∧ x3 ≤ (u0.length : Int)) ∧
      (K (u0.take x3.toNat))))))))

/-! Pure proofs: no program in sight. -/
/-! Numbers in words of 32 bits, the least first. -/
def wv : List Int → Nat
  | [] => 0
  | x :: r => x.toNat + 4294967296 * wv r
def wok (l : List Int) : Prop := ∀ x ∈ l, 0 ≤ x ∧ x < 4294967296
def ws (n : Nat) : List Int := if n = 0 then [] else ((n % 4294967296 : Nat) : Int) :: ws (n / 4294967296)
 termination_by n
 decreasing_by omega
theorem ws_zero : ws 0 = [] := by rw [ws]; rfl
theorem ws_pos {n : Nat} (h : n ≠ 0) : ws n = ((n % 4294967296 : Nat) : Int) :: ws (n / 4294967296) := by rw [ws, if_neg h]
theorem wv_ws : ∀ n : Nat, wv (ws n) = n := by
  intro n
  induction n using Nat.strongRecOn with
  | ind n ih =>
    by_cases h : n = 0
    · subst h; rw [ws_zero]; rfl
    · rw [ws_pos h, wv, ih _ (by omega), Int.toNat_natCast]
      omega
theorem ws_wok : ∀ n : Nat, wok (ws n) := by
  intro n
  induction n using Nat.strongRecOn with
  | ind n ih =>
    by_cases h : n = 0
    · subst h; rw [ws_zero]; intro x hx; cases hx
    · rw [ws_pos h]
      intro x hx
      rcases List.mem_cons.1 hx with rfl | hx
      · omega
      · exact ih _ (by omega) x hx
theorem ws_len : ∀ (k n : Nat), n < 4294967296 ^ k → (ws n).length ≤ k := by
  intro k
  induction k with
  | zero => intro n h; have : n = 0 := by simpa using h
            subst this; rw [ws_zero]; simp
  | succ k ih =>
    intro n h
    by_cases h0 : n = 0
    · subst h0; rw [ws_zero]; simp
    · rw [ws_pos h0, List.length_cons]
      have : n / 4294967296 < 4294967296 ^ k := by
        rw [Nat.div_lt_iff_lt_mul (by decide)]
        rwa [Nat.pow_succ] at h
      have := ih _ this
      omega
theorem wok_cons {x : Int} {r : List Int} (h : wok (x :: r)) : (0 ≤ x ∧ x < 4294967296) ∧ wok r := ⟨h x (List.mem_cons_self ..), fun y hy => h y (List.mem_cons_of_mem _ hy)⟩
theorem wok_at {l : List Int} (h : wok l) {k : Nat} {q : Int} (hq : l[k]? = some q) : ∃ n : Nat, q = n ∧ n < 4294967296 := by
  have := h q (List.mem_of_getElem? hq)
  exact ⟨q.toNat, by omega, by omega⟩
theorem wok_set {l : List Int} (h : wok l) (k : Nat) (n : Nat) (hn : n < 4294967296) : wok (l.set k (n : Int)) := by
  intro x hx
  rcases List.mem_or_eq_of_mem_set hx with hx | rfl
  · exact h x hx
  · omega
theorem wok_rep (n : Nat) : wok (List.replicate n (0 : Int)) := fun x hx => by rw [(List.mem_replicate.1 hx).2]; omega
theorem wv_append (a b : List Int) : wv (a ++ b) = wv a + 4294967296 ^ a.length * wv b := by
  induction a with
  | nil => simp [wv]
  | cons x r ih => rw [List.cons_append, wv, ih, wv, List.length_cons, Nat.pow_succ, Nat.mul_add, Nat.add_assoc, Nat.mul_comm (4294967296 ^ r.length) 4294967296, Nat.mul_assoc]
theorem wv_rep (n : Nat) : wv (List.replicate n (0 : Int)) = 0 := by
  induction n with
  | zero => rfl
  | succ n ih => rw [List.replicate_succ, wv, ih]; rfl
theorem wv_next {l : List Int} {k n : Nat} (h : l[k]? = some (n : Int)) : wv (l.take (k + 1)) = wv (l.take k) + 4294967296 ^ k * n := by
  have hk := (List.getElem?_eq_some_iff.1 h).1
  rw [take_next l k _ h, wv_append, List.length_take, Nat.min_eq_left (by omega)]
  simp [wv]
theorem wv_set : ∀ (l : List Int) (k q n : Nat), l[k]? = some (q : Int) → wv (l.set k (n : Int)) + 4294967296 ^ k * q = wv l + 4294967296 ^ k * n := by
  intro l
  induction l with
  | nil => intro k q n h; simp at h
  | cons x r ih =>
    intro k q n h
    cases k with
    | zero =>
      cases h
      simp [wv]
      omega
    | succ k =>
      have := ih k q n (by simpa using h)
      rw [List.set_cons_succ, wv, wv, Nat.pow_succ, Nat.mul_comm (4294967296 ^ k) 4294967296, Nat.mul_assoc, Nat.mul_assoc]
      omega
/-- Without the noughts at the end. -/
def gtrimS : List Int → List Int
  | [] => []
  | x :: r => match gtrimS r with
    | [] => if x = 0 then [] else [x]
    | y :: q => x :: y :: q
theorem gtrim_ws {l : List Int} (h : wok l) : gtrimS l = ws (wv l) := by
  induction l with
  | nil => rw [wv, ws_zero]; rfl
  | cons x r ih =>
    obtain ⟨h1, h2⟩ := wok_cons h
    rw [gtrimS, ih h2, wv]
    by_cases h0 : wv r = 0
    · rw [h0, ws_zero]
      by_cases hx : x = 0
      · subst hx
        rw [if_pos rfl]
        show [] = ws 0
        rw [ws_zero]
      · rw [if_neg hx, ws_pos (by omega)]
        have e1 : (x.toNat + 4294967296 * 0) % 4294967296 = x.toNat := by omega
        have e2 : (x.toNat + 4294967296 * 0) / 4294967296 = 0 := by omega
        rw [e1, e2, ws_zero, Int.toNat_of_nonneg h1.1]
    · have e1 : (x.toNat + 4294967296 * wv r) % 4294967296 = x.toNat := by omega
      have e2 : (x.toNat + 4294967296 * wv r) / 4294967296 = wv r := by omega
      rw [ws_pos (n := x.toNat + 4294967296 * wv r) (by omega), e1, e2]
      have e3 : ((x.toNat : Nat) : Int) = x := Int.toNat_of_nonneg h1.1
      rw [e3]
      rw [ws_pos h0]
theorem gtrim_snoc0 (l : List Int) : gtrimS (l ++ [0]) = gtrimS l := by
  induction l with
  | nil => rfl
  | cons x r ih => rw [List.cons_append, gtrimS, ih, gtrimS]
theorem gtrim_snoc (l : List Int) (x : Int) (hx : x ≠ 0) : gtrimS (l ++ [x]) = l ++ [x] := by
  induction l with
  | nil => show (if x = 0 then [] else [x]) = [x]; rw [if_neg hx]
  | cons y r ih =>
    rw [List.cons_append, gtrimS, ih]
    cases hr : r ++ [x] with
    | nil => simp at hr
    | cons a b => rfl
theorem gtrim_ok (l : List Int) : gtrim_vc l (fun r => r = gtrimS l) := by
  intro hl
  refine ⟨fun i => ∃ k : Nat, i = k ∧ k ≤ l.length ∧ gtrimS (l.take k) = gtrimS l, fun i => i.toNat, ⟨l.length, rfl, Nat.le_refl _, by rw [List.take_length]⟩, ?_⟩
  rintro _ ⟨k, rfl, hk, hg⟩
  refine ⟨fun h => ?_, fun h => ?_⟩
  · have h : 0 < k := by have := of_decide_eq_true h; omega
    have e : w64 ((k : Int) - 1) = ((k - 1 : Nat) : Int) := by rw [w64_eq _ (by omega)]; omega
    rw [e]
    refine ⟨by omega, fun q hq => ?_⟩
    rw [Int.toNat_natCast] at hq
    have ht := take_next l (k - 1) q hq
    have e1 : k - 1 + 1 = k := by omega
    rw [e1] at ht
    refine ⟨fun h1 => ?_, fun h1 => ?_⟩
    · have h1 : q = 0 := by simpa using h1
      subst h1
      rw [ht, gtrim_snoc0] at hg
      exact ⟨⟨k - 1, rfl, by omega, hg⟩, by (try dsimp only); omega⟩
    · have h1 : q ≠ 0 := by simpa using h1
      refine ⟨by omega, ?_⟩
      rw [Int.toNat_natCast, ← hg, ht, gtrim_snoc _ _ h1]
  · have h : k = 0 := by have := of_decide_eq_false h; omega
    subst h
    refine ⟨by omega, ?_⟩
    rw [← hg]
    rfl
theorem shru (n s : Nat) (hs : s ≤ 64) (k : IntKind) (hk : s ≤ k.bits) : bShr k (n : Int) (s : Int) = ((n / 2 ^ s : Nat) : Int) := by
  unfold bShr
  have : min (s : Int).toNat k.bits = s := by rw [Int.toNat_natCast]; omega
  rw [this, Int.fdiv_eq_ediv_of_nonneg _ (Int.le_of_lt (Int.pow_pos (by decide)))]
  norm_cast
theorem wu32_nat (n : Nat) : wu32 (n : Int) = ((n % 4294967296 : Nat) : Int) := by
  show IntKind.u32.wrap (n : Int) = _
  rw [IntKind.wrap_u32]
  omega
end Go.Proofs.YtfafpnacflcgmaaDoor
