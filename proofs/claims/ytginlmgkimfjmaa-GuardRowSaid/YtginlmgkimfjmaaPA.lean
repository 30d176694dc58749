/- Pure proofs: no program in sight. -/
import Derived.Test.YtginlmgkimfjmaaVA
set_option linter.unusedVariables false
set_option linter.unusedSimpArgs false
namespace Go.Proofs.Ytginlmgkimfjmaa
open Go.Sy Go.RowKit
def bcloneS (l : List Int) : List Int := l
theorem bclone_ok (l : List Int) (h : l.length ≤ 1000000) : bclone_vc l (fun r => r = bcloneS l) := by
  intro _ nb hnb
  refine ⟨fun h1 => ?_, fun _ => ⟨by simp; omega, by simp [bcloneS]⟩⟩
  by_cases e : l = []
  · rw [e]; rfl
  · rw [hnb e] at h1; cases h1
theorem w8_eq (x : Int) (h : 0 ≤ x ∧ x ≤ 255) : w8 x = x := IntWalk.u8_in x h
theorem bXor_u8 (x y : Nat) (hx : x < 256) (hy : y < 256) : bXor .u8 (x : Int) (y : Int) = ((x ^^^ y : Nat) : Int) := by
  have hz : x ^^^ y < 256 := Nat.xor_lt_two_pow (n := 8) hx hy
  have e : ∀ z : Nat, z < 256 → (BitVec.ofInt IntKind.u8.bits (z : Int)).toNat = z := by
    intro z hz
    simp [IntKind.bits]
    omega
  unfold bXor
  rw [BitVec.toNat_xor, e x hx, e y hy]
  exact w8_eq _ (by omega)
/-- One step of the byte sum. -/
def stp (n : Nat) : Nat := if 128 ≤ n then (2 * n % 256) ^^^ 47 else 2 * n
def back (m : Nat) : Nat := if m % 2 = 1 then ((m ^^^ 47) / 2) + 128 else m / 2
theorem back_stp : ∀ n : Fin 256, back (stp n.val) = n.val := by decide +kernel
theorem stp_lt : ∀ n : Fin 256, stp n.val < 256 := by decide +kernel
theorem stp_yes : ∀ n : Fin 256, (bAnd .u8 ((n.val : Nat) : Int) 128 != 0) = true → bXor .u8 (bShl .u8 ((n.val : Nat) : Int) 1) 47 = ((stp n.val : Nat) : Int) := by decide +kernel
theorem stp_no : ∀ n : Fin 256, (bAnd .u8 ((n.val : Nat) : Int) 128 != 0) = false → bShl .u8 ((n.val : Nat) : Int) 1 = ((stp n.val : Nat) : Int) := by decide +kernel
attribute [irreducible] stp
def stk : Nat → Nat → Nat
  | 0, n => n
  | k + 1, n => stp (stk k n)
theorem stk_zero (n : Nat) : stk 0 n = n := rfl
theorem stk_succ (k n : Nat) : stk (k + 1) n = stp (stk k n) := rfl
attribute [irreducible] stk
theorem xor_cancel (a b c : Nat) (h : a ^^^ c = b ^^^ c) : a = b := by
  have := congrArg (· ^^^ c) h
  simpa [Nat.xor_assoc, Nat.xor_self] using this
theorem stk_lt (k n : Nat) (h : n < 256) : stk k n < 256 := by
  induction k with
  | zero => rw [stk_zero]; exact h
  | succ k ih => rw [stk_succ]; exact stp_lt ⟨_, ih⟩
theorem stk_inj (k n m : Nat) (hn : n < 256) (hm : m < 256) (h : stk k n = stk k m) : n = m := by
  induction k with
  | zero => rw [stk_zero, stk_zero] at h; exact h
  | succ k ih =>
    refine ih ?_
    have h1 : back (stp (stk k n)) = stk k n := back_stp ⟨_, stk_lt k n hn⟩
    have h2 : back (stp (stk k m)) = stk k m := back_stp ⟨_, stk_lt k m hm⟩
    rw [stk_succ, stk_succ] at h
    rw [← h1, ← h2, h]
def crc (n : Nat) (b : Int) : Nat := stk 8 (n ^^^ b.toNat)
theorem crc_def (n : Nat) (b : Int) : crc n b = stk 8 (n ^^^ b.toNat) := rfl
attribute [irreducible] crc
def cbyteS (l : List Int) : Int := ((l.foldl crc 255 ^^^ 255 : Nat) : Int)
theorem xor_lt (a b : Nat) (ha : a < 256) (hb : b < 256) : a ^^^ b < 256 := Nat.xor_lt_two_pow (n := 8) ha hb
theorem crc_lt (n : Nat) (b : Int) (hn : n < 256) (hb : 0 ≤ b ∧ b ≤ 255) : crc n b < 256 := by rw [crc_def]; exact stk_lt _ _ (xor_lt _ _ hn (by omega))
theorem fold_lt (l : List Int) (hb : ∀ x ∈ l, 0 ≤ x ∧ x ≤ 255) : ∀ n, n < 256 → l.foldl crc n < 256 := by
  induction l with
  | nil => exact fun n h => h
  | cons b l ih => exact fun n h => ih (fun x hx => hb x (List.mem_cons_of_mem _ hx)) _ (crc_lt n b h (hb b (by simp)))
theorem take_next {α : Type} (l : List α) (k : Nat) (q : α) (hq : l[k]? = some q) : l.take (k + 1) = l.take k ++ [q] := by rw [List.take_add_one, hq]; rfl
theorem cbyte_ok (l : List Int) (hb : ∀ x ∈ l, 0 ≤ x ∧ x ≤ 255) : cbyte_vc l (fun r => r = cbyteS l) := by
  intro hl
  have hbt : ∀ k, ∀ x ∈ l.take k, 0 ≤ x ∧ x ≤ 255 := fun k x hx => hb x (List.mem_of_mem_take hx)
  have hlt : ∀ k, (l.take k).foldl crc 255 < 256 := fun k => fold_lt _ (hbt k) _ (by omega)
  refine ⟨fun x y => ∃ k : Nat, y = k ∧ k ≤ l.length ∧ x = (((l.take k).foldl crc 255 : Nat) : Int), fun _ y => l.length - y.toNat, ⟨0, rfl, by omega, rfl⟩, ?_⟩
  rintro _ _ ⟨k, rfl, hk, rfl⟩
  refine ⟨fun h => ⟨by simp at h; omega, fun q hq => ?_⟩, fun h => ?_⟩
  · rw [Int.toNat_natCast] at hq
    have hkl : k < l.length := by simp at h; omega
    have hqb := hb q (List.mem_of_getElem? hq)
    obtain ⟨b, rfl⟩ : ∃ b : Nat, q = b := ⟨q.toNat, by omega⟩
    have hb256 : b < 256 := by omega
    have hn := hlt k
    have hx := xor_lt _ b hn hb256
    rw [bXor_u8 _ b hn hb256]
    refine ⟨fun x y => ∃ j : Nat, y = j ∧ j ≤ 8 ∧ x = ((stk j ((l.take k).foldl crc 255 ^^^ b) : Nat) : Int), fun _ y => 8 - y.toNat, ⟨0, rfl, by omega, by rw [stk_zero]⟩, ?_⟩
    rintro _ _ ⟨j, rfl, hj, rfl⟩
    have hs := stk_lt j _ hx
    have ew : w64 ((j : Int) + 1) = ((j + 1 : Nat) : Int) := w64_succ j (by omega)
    rw [ew]
    refine ⟨fun h1 => ?_, fun h1 => ?_⟩
    · have hj8 : j < 8 := by simp at h1; omega
      have hmu : 8 - ((j + 1 : Nat) : Int).toNat < 8 - ((j : Nat) : Int).toNat := by omega
      refine ⟨fun h2 => ⟨⟨j + 1, rfl, by omega, ?_⟩, hmu⟩, fun h2 => ⟨⟨j + 1, rfl, by omega, ?_⟩, hmu⟩⟩
      · rw [stk_succ]; exact stp_yes ⟨_, hs⟩ h2
      · rw [stk_succ]; exact stp_no ⟨_, hs⟩ h2
    · have hj8 : j = 8 := by simp at h1; omega
      subst hj8
      have ek : w64 ((k : Int) + 1) = ((k + 1 : Nat) : Int) := w64_succ k (by omega)
      rw [ek]
      refine ⟨⟨k + 1, rfl, by omega, ?_⟩, ?_⟩
      · rw [take_next l k _ hq, List.foldl_append, List.foldl_cons, List.foldl_nil, crc_def, Int.toNat_natCast]
      · show l.length - ((k + 1 : Nat) : Int).toNat < l.length - ((k : Nat) : Int).toNat
        omega
  · have hkl : k = l.length := by simp at h; omega
    subst hkl
    have hn := hlt l.length
    have e := bXor_u8 _ 255 hn (by omega)
    rw [List.take_length] at e ⊢
    exact e
/-- One byte that is another makes another sum. -/
theorem fold_inj (l : List Int) (hb : ∀ x ∈ l, 0 ≤ x ∧ x ≤ 255) : ∀ n m, n < 256 → m < 256 → l.foldl crc n = l.foldl crc m → n = m := by
  induction l with
  | nil => exact fun n m _ _ h => h
  | cons b l ih =>
    intro n m hn hm h
    have hb0 := hb b (by simp)
    have h1 := ih (fun x hx => hb x (List.mem_cons_of_mem _ hx)) _ _ (crc_lt n b hn hb0) (crc_lt m b hm hb0) h
    rw [crc_def, crc_def] at h1
    have h2 := stk_inj 8 _ _ (xor_lt n b.toNat hn (by omega)) (xor_lt m b.toNat hm (by omega)) h1
    exact xor_cancel _ _ _ h2
theorem cbyte_diff (l : List Int) (hb : ∀ x ∈ l, 0 ≤ x ∧ x ≤ 255) (j : Nat) (q q' : Int) (hq : l[j]? = some q) (hq' : 0 ≤ q' ∧ q' ≤ 255) (hne : q' ≠ q) : cbyteS (l.set j q') ≠ cbyteS l := by
  intro h
  have hj : j < l.length := (List.getElem?_eq_some_iff.1 hq).1
  have hqb := hb q (List.mem_of_getElem? hq)
  have h1 : (l.set j q').foldl crc 255 = l.foldl crc 255 := by
    unfold cbyteS at h
    exact xor_cancel _ _ _ (Int.ofNat.inj h)
  have e2 : l = l.take j ++ q :: l.drop (j + 1) := by
    have := List.getElem?_eq_some_iff.1 hq
    conv => lhs; rw [← List.take_append_drop j l, List.drop_eq_getElem_cons hj, this.2]
  rw [List.set_eq_take_append_cons_drop, if_pos hj] at h1
  rw [e2] at h1
  simp only [List.foldl_append, List.foldl_cons] at h1
  have hlt : (l.take j).foldl crc 255 < 256 := fold_lt _ (fun x hx => hb x (List.mem_of_mem_take hx)) _ (by omega)
  have e3 : (l.take j ++ q :: l.drop (j + 1)).take j = l.take j := by rw [← e2]
  have e4 : (l.take j ++ q :: l.drop (j + 1)).drop (j + 1) = l.drop (j + 1) := by rw [← e2]
  rw [e3, e4] at h1
  have h3 := fold_inj (l.drop (j + 1)) (fun x hx => hb x (List.mem_of_mem_drop hx)) _ _ (crc_lt _ q' hlt hq') (crc_lt _ q hlt hqb) h1
  rw [crc_def, crc_def] at h3
  have h4 := stk_inj 8 _ _ (xor_lt _ q'.toNat hlt (by omega)) (xor_lt _ q.toNat hlt (by omega)) h3
  rw [Nat.xor_comm, Nat.xor_comm _ q.toNat] at h4
  have h5 := xor_cancel _ _ _ h4
  exact hne (by omega)

end Go.Proofs.Ytginlmgkimfjmaa
