/- What must hold so that each function ends well: pure predicates, made by program. -/
import Derived.Test.YtfafpnacflcgmaaDoorCore
set_option linter.unusedVariables false
set_option linter.unusedSimpArgs false
namespace Go.Proofs.YtfafpnacflcgmaaDoor
open Go.Sy Go.RowKit

/-! Pure proofs: no program in sight. -/
/-- strings.Trim at a set of ASCII bytes. -/
def trimS (l cs : List UInt8) : List UInt8 := ((l.reverse.dropWhile (cs.contains ·)).reverse).dropWhile (cs.contains ·)
/-- strings.Count of one byte. -/
def count1S (l c : List UInt8) : Int := match c with | [x] => ((l.count x : Nat) : Int) | _ => 0
def isBit (c : UInt8) : Bool := c == 48 || c == 49
def isRow (b : List UInt8) : Bool := b.all isBit
theorem isBit_or {c : UInt8} (h : isBit c = true) : c = 48 ∨ c = 49 := by simpa [isBit] using h
theorem isRow_mem {b : List UInt8} (h : isRow b = true) {c : UInt8} (hc : c ∈ b) : c = 48 ∨ c = 49 := isBit_or (List.all_eq_true.1 h c hc)
theorem isRow_cons {c : UInt8} {b : List UInt8} : isRow (c :: b) = (isBit c && isRow b) := rfl
theorem isRow_take {b : List UInt8} (h : isRow b = true) (k : Nat) : isRow (b.take k) = true := List.all_eq_true.2 fun c hc => List.all_eq_true.1 h c (List.mem_of_mem_take hc)
theorem isRow_drop {b : List UInt8} (h : isRow b = true) (k : Nat) : isRow (b.drop k) = true := List.all_eq_true.2 fun c hc => List.all_eq_true.1 h c (List.mem_of_mem_drop hc)
theorem wu64_eq (x : Int) (h : 0 ≤ x ∧ x ≤ 18446744073709551615) : wu64 x = x := IntWalk.u64_in x h
theorem w8_eq (x : Int) (h : 0 ≤ x ∧ x ≤ 255) : w8 x = x := IntWalk.u8_in x h
theorem shl1 (n : Nat) (h : n < 9223372036854775808) : bShl .u64 (n : Int) 1 = ((2 * n : Nat) : Int) := by
  unfold bShl
  have : (n : Int) * 2 ^ (min (1 : Int).toNat IntKind.u64.bits) = ((2 * n : Nat) : Int) := by
    show (n : Int) * 2 ^ 1 = _
    omega
  rw [this]
  exact wu64_eq _ (by omega)
theorem or_bit (m d : Nat) (hm : m < 9223372036854775808) (hd : d < 2) : bOr .u64 ((2 * m : Nat) : Int) (d : Int) = ((2 * m + d : Nat) : Int) := by
  have e : (BitVec.ofInt IntKind.u64.bits ((2 * m : Nat) : Int) ||| BitVec.ofInt IntKind.u64.bits (d : Int)).toNat = 2 * m + d := by
    rw [BitVec.toNat_or]
    show (BitVec.ofInt 64 ((2 * m : Nat) : Int)).toNat ||| (BitVec.ofInt 64 (d : Int)).toNat = _
    rw [ofInt_toNat (2 * m) (by omega), ofInt_toNat d (by omega)]
    have h := Nat.shiftLeft_add_eq_or_of_lt (i := 1) (b := d) (by omega) m
    rw [Nat.shiftLeft_eq] at h
    have e2 : m * 2 ^ 1 = 2 * m := by omega
    rw [e2] at h
    exact h.symm
  unfold bOr
  rw [e]
  exact wu64_eq _ (by omega)
theorem and1 (n : Nat) (h : n < 18446744073709551616) : bAnd .u64 (n : Int) 1 = ((n % 2 : Nat) : Int) := by
  have e : (BitVec.ofInt IntKind.u64.bits (n : Int) &&& BitVec.ofInt IntKind.u64.bits (1 : Int)).toNat = n % 2 := by
    rw [BitVec.toNat_and]
    show (BitVec.ofInt 64 (n : Int)).toNat &&& (BitVec.ofInt 64 ((1 : Nat) : Int)).toNat = _
    rw [ofInt_toNat n h, ofInt_toNat 1 (by omega), Nat.and_one_is_mod]
  unfold bAnd
  rw [e]
  exact wu64_eq _ (by omega)
theorem shr1 (n : Nat) : bShr .u64 (n : Int) 1 = ((n / 2 : Nat) : Int) := by
  unfold bShr
  show (n : Int).fdiv (2 ^ 1) = _
  rw [Int.fdiv_eq_ediv_of_nonneg _ (by decide)]
  norm_cast
theorem shrN (n s : Nat) (hs : s ≤ 63) : bShr .i64 (n : Int) (s : Int) = ((n / 2 ^ s : Nat) : Int) := by
  unfold bShr
  have : min (s : Int).toNat IntKind.i64.bits = s := by simp [IntKind.bits]; omega
  rw [this, Int.fdiv_eq_ediv_of_nonneg _ (Int.le_of_lt (Int.pow_pos (by decide)))]
  norm_cast
/-- A number in so many bits. -/
def wr : Nat → Nat → List UInt8
  | 0, _ => []
  | s + 1, n => UInt8.ofNat (48 + n / 2 ^ s % 2) :: wr s n
def val : List UInt8 → Nat
  | [] => 0
  | c :: r => (c.toNat - 48) * 2 ^ r.length + val r
theorem wr_length (s n : Nat) : (wr s n).length = s := by induction s with
  | zero => rfl
  | succ s ih => simp [wr, ih]
theorem val_append (a b : List UInt8) : val (a ++ b) = val a * 2 ^ b.length + val b := by
  induction a with
  | nil => simp [val]
  | cons c r ih => rw [List.cons_append, val, ih, val, List.length_append, Nat.pow_add, Nat.add_mul, Nat.mul_assoc, Nat.add_assoc]
theorem val_snoc (a : List UInt8) (c : UInt8) : val (a ++ [c]) = 2 * val a + (c.toNat - 48) := by
  rw [val_append]
  simp [val]
  omega
theorem val_lt {b : List UInt8} (h : isRow b = true) : val b < 2 ^ b.length := by
  induction b with
  | nil => simp [val]
  | cons c r ih =>
    rw [isRow_cons, Bool.and_eq_true] at h
    have := ih h.2
    rw [val, List.length_cons, Nat.pow_succ]
    rcases isBit_or h.1 with rfl | rfl
    · have e : (48 : UInt8).toNat - 48 = 0 := rfl
      rw [e]; omega
    · have e : (49 : UInt8).toNat - 48 = 1 := rfl
      rw [e]; omega
theorem wr_val {b : List UInt8} (h : isRow b = true) (n : Nat) (hn : n % 2 ^ b.length = val b) : wr b.length n = b := by
  induction b with
  | nil => rfl
  | cons c r ih =>
    rw [isRow_cons, Bool.and_eq_true] at h
    have hl := val_lt h.2
    rw [val, List.length_cons, Nat.pow_succ, Nat.mod_mul] at hn
    have hm : n % 2 ^ r.length < 2 ^ r.length := Nat.mod_lt _ (Nat.two_pow_pos _)
    have hr : n % 2 ^ r.length = val r ∧ n / 2 ^ r.length % 2 = c.toNat - 48 := by
      have h2 : (2 ^ r.length * (n / 2 ^ r.length % 2) + n % 2 ^ r.length) = (2 ^ r.length * (c.toNat - 48) + val r) := by rw [Nat.mul_comm _ (c.toNat - 48)]; omega
      have h3 := congrArg (· % 2 ^ r.length) h2
      have h4 := congrArg (· / 2 ^ r.length) h2
      simp only [Nat.mul_add_mod, Nat.mod_eq_of_lt hm, Nat.mod_eq_of_lt hl] at h3
      have p := Nat.two_pow_pos r.length
      simp only [Nat.mul_add_div p, Nat.div_eq_of_lt hm, Nat.div_eq_of_lt hl, Nat.add_zero] at h4
      exact ⟨h3, h4⟩
    rw [List.length_cons, wr, ih h.2 hr.1, hr.2]
    rcases isBit_or h.1 with rfl | rfl <;> rfl
theorem take_next {α : Type} (l : List α) (k : Nat) (q : α) (hq : l[k]? = some q) : l.take (k + 1) = l.take k ++ [q] := by rw [List.take_add_one, hq]; rfl
theorem bstr_append (a b : List Int) : bstr (a ++ b) = bstr a ++ bstr b := by simp [bstr]
theorem bstr_one (c : UInt8) : bstr [(c.toNat : Int)] = [c] := by simp [bstr]
theorem bstr_ints (l : List UInt8) : bstr (l.map fun c => (c.toNat : Int)) = l := by
  induction l with
  | nil => rfl
  | cons c r ih => rw [List.map_cons, show bstr ((c.toNat : Int) :: r.map fun c => (c.toNat : Int)) = c :: bstr (r.map fun c => (c.toNat : Int)) by simp [bstr], ih]
def bcheckS (b : List UInt8) : Int := if 1000 < b.length then 2 else if isRow b then 0 else 4
def breadS (b : List UInt8) : Int := (val b : Int)
def bwriteS (n s : Int) : List UInt8 := wr s.toNat n.toNat
theorem dropWhile_nil {α : Type} (p : α → Bool) (l : List α) : l.dropWhile p = [] ↔ l.all p = true := by
  induction l with
  | nil => simp
  | cons x l ih =>
    rw [List.dropWhile_cons]
    cases h : p x <;> simp [h, ih]
theorem trim_row (b : List UInt8) : trimS b [48, 49] = [] ↔ isRow b = true := by
  have e : ∀ l : List UInt8, l.all (fun x => ([48, 49] : List UInt8).contains x) = isRow l := by
    intro l
    unfold isRow
    congr 1
    funext x
    simp only [isBit, List.contains_cons, List.contains_nil, Bool.or_false]
  unfold trimS
  rw [dropWhile_nil, e]
  constructor
  · intro h
    -- what is left at the right end is no bit, unless nothing is left
    have h1 : ∀ l : List UInt8, isRow (l.dropWhile (fun x => ([48, 49] : List UInt8).contains x)) = true → isRow l = true := by
      intro l
      induction l with
      | nil => exact fun h => h
      | cons x l ih =>
        rw [List.dropWhile_cons]
        split
        · rename_i hx
          intro h
          rw [isRow_cons, ih h, Bool.and_true]
          simpa [isBit] using hx
        · exact fun h => h
    have h2 : ∀ l : List UInt8, isRow l.reverse = isRow l := fun l => by simp [isRow]
    rw [h2] at h
    have := h1 _ h
    rwa [h2] at this
  · intro h
    refine List.all_eq_true.2 fun c hc => ?_
    have hc := List.mem_reverse.1 hc
    have hc := (List.dropWhile_sublist _).subset hc
    exact List.all_eq_true.1 h c (List.mem_reverse.1 hc)
theorem count_row (b : List UInt8) : b.count 48 + b.count 49 ≤ b.length ∧ (b.count 48 + b.count 49 = b.length ↔ isRow b = true) := by
  induction b with
  | nil => simp [isRow]
  | cons c r ih =>
    rw [isRow_cons, List.count_cons, List.count_cons, List.length_cons]
    by_cases h1 : c = 48
    · subst h1
      have e : isBit 48 = true := rfl
      simp only [e, Bool.true_and, beq_self_eq_true, if_true, show ((48 : UInt8) == 49) = false by rfl, Bool.false_eq_true, if_false]
      rw [← ih.2]
      omega
    · by_cases h2 : c = 49
      · subst h2
        have e : isBit 49 = true := rfl
        simp only [e, Bool.true_and, beq_self_eq_true, if_true, show ((49 : UInt8) == 48) = false by rfl, Bool.false_eq_true, if_false]
        rw [← ih.2]
        omega
      · have e : isBit c = false := by simp [isBit, h1, h2]
        simp only [e, Bool.false_and, beq_iff_eq, h1, h2, if_false]
        constructor
        · omega
        · constructor
          · omega
          · intro h; cases h

end Go.Proofs.YtfafpnacflcgmaaDoor
