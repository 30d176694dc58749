/- What must hold so that each function ends well: pure predicates, made by program. -/
import Derived.Test.YtinegicenfndkaaDoorPGd
set_option linter.unusedVariables false
set_option linter.unusedSimpArgs false
namespace Go.Proofs.YtinegicenfndkaaDoor
open Go.Sy Go.RowKit
def guarded_vc  (K : Bool → Prop) : Prop :=
  ((∀ x ∈ ([0, 240, 5] : List Int), 0 ≤ x ∧ x ≤ 255) ∧
    (((gputS 7 3 ([0, 240, 5] : List Int)).1).length ≤ 140737488355328 →
    ((∀ x ∈ ((gputS 7 3 ([0, 240, 5] : List Int)).1), 0 ≤ x ∧ x ≤ 255) ∧
    (((((((gputS 7 3 ([0, 240, 5] : List Int)).2) == 0) && (((gseeS (⟨7, 2, 0, 0⟩ : Guard) ((gputS 7 3 ([0, 240, 5] : List Int)).1) 1).2) == 0)) && ((((gputS 7 3 ([0, 240, 5] : List Int)).1).length : Int) == 3)) = true →
      ((0 ≤ (1 : Int) ∧ (1 : Int) < (((gputS 7 3 ([0, 240, 5] : List Int)).1).length : Int)) ∧
      (∀ q110, ((gputS 7 3 ([0, 240, 5] : List Int)).1)[(1 : Int).toNat]? = some q110 →
      (K ((q110 == 243) && (((((gseeS (⟨7, 2, 0, 0⟩ : Guard) ((gputS 7 3 ([0, 240, 5] : List Int)).1) 1).1).Key) == 7) && (((((gseeS (⟨7, 2, 0, 0⟩ : Guard) ((gputS 7 3 ([0, 240, 5] : List Int)).1) 1).1).Last) == 3) && (((((gseeS (⟨7, 2, 0, 0⟩ : Guard) ((gputS 7 3 ([0, 240, 5] : List Int)).1) 1).1).Bad) == 0) && (((((gseeS (⟨7, 2, 0, 0⟩ : Guard) ((gputS 7 3 ([0, 240, 5] : List Int)).1) 1).1).State) == 1) && true))))))))) ∧
    ((((((gputS 7 3 ([0, 240, 5] : List Int)).2) == 0) && (((gseeS (⟨7, 2, 0, 0⟩ : Guard) ((gputS 7 3 ([0, 240, 5] : List Int)).1) 1).2) == 0)) && ((((gputS 7 3 ([0, 240, 5] : List Int)).1).length : Int) == 3)) = false →
      (K false))))))

def lgsum_vc (u0 : Int) (u1 : List Int) (K : Int → Prop) : Prop :=
  (u1.length ≤ 140737488355328 →
    ((0 ≤ (1 : Int) ∧ (1 : Int) ≤ (u1.length : Int)) ∧
    (((([w8 (w64 (u0.tdiv 256)), w8 (u0.tmod 256)] : List Int).length + (u1.drop (1 : Int).toNat).length) * 1 ≤ 140737488355328) ∧
    (((∀ x ∈ (([w8 (w64 (u0.tdiv 256)), w8 (u0.tmod 256)] : List Int) ++ (u1.drop (1 : Int).toNat)), 0 ≤ x ∧ x ≤ 255) ∧ (([w8 (w64 (u0.tdiv 256)), w8 (u0.tmod 256)] : List Int) ++ (u1.drop (1 : Int).toNat)).length ≤ 1000) ∧
    (((0 ≤ (3 : Int) ∧ (3 : Int) < 5) ∧ isRow (ofb (([w8 (w64 (u0.tdiv 256)), w8 (u0.tmod 256)] : List Int) ++ (u1.drop (1 : Int).toNat))) = true ∧ (ofb (([w8 (w64 (u0.tdiv 256)), w8 (u0.tmod 256)] : List Int) ++ (u1.drop (1 : Int).toNat))).length ≤ 1000) ∧
    ((isRow (sumR 3 (ofb (([w8 (w64 (u0.tdiv 256)), w8 (u0.tmod 256)] : List Int) ++ (u1.drop (1 : Int).toNat)))) = true ∧ (sumR 3 (ofb (([w8 (w64 (u0.tdiv 256)), w8 (u0.tmod 256)] : List Int) ++ (u1.drop (1 : Int).toNat)))).length ≤ 1000) ∧
    (((rvalueS (sumR 3 (ofb (([w8 (w64 (u0.tdiv 256)), w8 (u0.tmod 256)] : List Int) ++ (u1.drop (1 : Int).toNat))))).neg = false ∧ wok (rvalueS (sumR 3 (ofb (([w8 (w64 (u0.tdiv 256)), w8 (u0.tmod 256)] : List Int) ++ (u1.drop (1 : Int).toNat))))).abs ∧ wv (rvalueS (sumR 3 (ofb (([w8 (w64 (u0.tdiv 256)), w8 (u0.tmod 256)] : List Int) ++ (u1.drop (1 : Int).toNat))))).abs < 9223372036854775808) ∧
    (∀ r88, (gint64S (rvalueS (sumR 3 (ofb (([w8 (w64 (u0.tdiv 256)), w8 (u0.tmod 256)] : List Int) ++ (u1.drop (1 : Int).toNat)))))) = r88 →
    (r88.2.abs.length ≤ 140737488355328 →
    (K (w8 r88.1)))))))))))

/-! Pure proofs: no program in sight. -/
theorem crcF8_zero : ∀ m : Fin 256, crcF 8 47 m.val (wr 8 0) = stk 8 m.val := by decide +kernel
theorem crcF8 (n b : Nat) (hn : n < 256) (hb : b < 256) : crcF 8 47 n (wr 8 b) = stk 8 (n ^^^ b) := by
  have h0 := crc_own (S := 8) (p := 47) (by decide) 8 b (Nat.le_refl _)
  rw [Nat.mod_eq_of_lt (show b < 2 ^ 8 from hb), Nat.sub_self, Nat.pow_zero, Nat.mul_one] at h0
  have hx : n ^^^ b < 256 := Nat.xor_lt_two_pow (n := 8) hn hb
  have e1 : (n ^^^ b) ^^^ b = n := by rw [Nat.xor_assoc, Nat.xor_self, Nat.xor_zero]
  have e2 : xorR (wr 8 0) (wr 8 b) = wr 8 b := by rw [← wr_xor, Nat.zero_xor]
  have h := crcF_xor 8 47 (wr 8 0) (wr 8 b) (n ^^^ b) b (wr_row _ _) (by rw [wr_length, wr_length])
  rw [e1, e2, h0, Nat.xor_zero, crcF8_zero ⟨n ^^^ b, hx⟩] at h
  exact h
theorem crcF_bytes : ∀ (l : List Int), (∀ x ∈ l, 0 ≤ x ∧ x ≤ 255) → ∀ n, n < 256 → crcF 8 47 n (ofb l) = l.foldl crc n := by
  intro l
  induction l with
  | nil => intro _ n _; rfl
  | cons x r ih =>
    intro hb n hn
    have hx := hb x (List.mem_cons_self ..)
    rw [ofb, crcF_append, crcF8 n x.toNat hn (by omega), List.foldl_cons, crc_def]
    exact ih (fun y hy => hb y (List.mem_cons_of_mem _ hy)) _ (stk_lt _ _ (Nat.xor_lt_two_pow (n := 8) hn (show x.toNat < 256 by omega)))
theorem sum3 (l : List Int) (hb : ∀ x ∈ l, 0 ≤ x ∧ x ≤ 255) : ((val (sumR 3 (ofb l)) : Nat) : Int) = cbyteS l := by
  have e : sumN 3 (ofb l) = l.foldl crc 255 ^^^ 255 := by
    show crcF 8 47 255 (ofb l) ^^^ 255 = _
    rw [crcF_bytes l hb 255 (by omega)]
  have hf := fold_lt l hb 255 (by omega)
  have hx : l.foldl crc 255 ^^^ 255 < 256 := Nat.xor_lt_two_pow (n := 8) hf (by decide)
  unfold sumR
  rw [val_wr, e]
  show (((l.foldl crc 255 ^^^ 255) % 256 : Nat) : Int) = _
  rw [Nat.mod_eq_of_lt hx]
  rfl
theorem lgsum_ok (key : Int) (d : List Int) (h : (0 ≤ key ∧ key ≤ 65535) ∧ (∀ x ∈ d, 0 ≤ x ∧ x ≤ 255) ∧ 1 ≤ d.length ∧ d.length ≤ 64) : lgsum_vc key d (fun r => r = gsumS key d) := by
  obtain ⟨hk, hb, h1, h2⟩ := h
  intro _
  have e1 : w8 (w64 (key.tdiv 256)) = w8 (bShr .i64 key 8) := by
    have h8 := shrN key.toNat 8 (by omega)
    rw [Int.toNat_of_nonneg hk.1] at h8
    have h9 : bShr .i64 key 8 = ((key.toNat / 2 ^ 8 : Nat) : Int) := h8
    rw [h9, Int.tdiv_eq_ediv_of_nonneg hk.1, w64_eq _ (by omega)]
    congr 1
    omega
  have e2 : w8 (key.tmod 256) = w8 key := by
    rw [Int.tmod_eq_emod_of_nonneg hk.1]
    show IntKind.u8.wrap _ = IntKind.u8.wrap _
    rw [IntKind.wrap_u8, IntKind.wrap_u8]
    omega
  have e3 : (1 : Int).toNat = 1 := rfl
  rw [e1, e2, e3]
  have hby := gsum_bytes key d hb
  have hl : ([w8 (bShr .i64 key 8), w8 key] ++ d.drop 1).length ≤ 66 := by simp; omega
  have hol := ofb_length ([w8 (bShr .i64 key 8), w8 key] ++ d.drop 1)
  have hs := sum3 _ hby
  have hcb : (0 : Int) ≤ cbyteS ([w8 (bShr .i64 key 8), w8 key] ++ d.drop 1) ∧ cbyteS ([w8 (bShr .i64 key 8), w8 key] ++ d.drop 1) ≤ 255 := by
    unfold cbyteS
    have := fold_lt _ hby 255 (by omega)
    have := xor_lt _ 255 this (by omega)
    omega
  have hG : gsumS key d = cbyteS ([w8 (bShr .i64 key 8), w8 key] ++ d.drop 1) := rfl
  rw [hG]
  generalize [w8 (bShr .i64 key 8), w8 key] ++ d.drop 1 = L at *
  have hsl : (sumR 3 (ofb L)).length = 8 := wr_length _ _
  have hv : val (sumR 3 (ofb L)) < 256 := by omega
  have hg : gint64S (rvalueS (sumR 3 (ofb L))) = (((val (sumR 3 (ofb L)) : Nat) : Int), rvalueS (sumR 3 (ofb L))) := by
    unfold gint64S rvalueS
    rw [big_wv]
  have hw : wv (rvalueS (sumR 3 (ofb L))).abs = val (sumR 3 (ofb L)) := big_wv _
  refine ⟨by omega, by simp; omega, ⟨hby, by omega⟩, ⟨by decide, ofb_row _, by omega⟩, ⟨wr_row _ _, by omega⟩, ⟨rfl, ws_wok _, by rw [hw]; omega⟩, ?_⟩
  rw [hg]
  rintro _ rfl _
  dsimp only
  rw [hs, w8_eq _ hcb]
theorem guarded_ok : guarded_vc (fun r => r = true) := by
  refine ⟨by decide, fun _ => ⟨by decide +kernel, fun _ => ⟨by decide +kernel, fun q hq => ?_⟩, fun h => ?_⟩⟩
  · have e : q = 243 := by
      have : (gputS 7 3 ([0, 240, 5] : List Int)).1[(1 : Int).toNat]? = some 243 := by decide +kernel
      rw [this] at hq
      exact (Option.some.inj hq).symm
    subst e
    decide +kernel
  · exfalso
    revert h
    decide +kernel

end Go.Proofs.YtinegicenfndkaaDoor
