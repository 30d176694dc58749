/- Texts put together (pure ones, or walks made by program). -/
import Derived.Test.YtginlmgkimfjmaaDM0
set_option linter.unusedVariables false
set_option linter.unusedSimpArgs false
namespace Go.Proofs.Ytginlmgkimfjmaa
open Go.Sy Go.RowKit
structure Frame where
  ID : Int
  Long : Bool
  Fast : Bool
  Remote : Bool
  Size : Int
  Data : List Int
  deriving DecidableEq, Inhabited
def Frame.rep (Z : Fz) (cs : List Value) (x : Frame) : Prop := ∃ (ao0 : Option Addr) (cap0 : Nat), cs = [.int .i64 x.ID, .bool x.Long, .bool x.Fast, .bool x.Remote, .int .i64 x.Size, .slice ao0 x.Data.length cap0] ∧ SlR (tyInt .u8) Z ao0 cap0 x.Data
def tyFrame : Ty Frame :=
  ⟨6, Frame.rep, by rintro _ _ _ ⟨_, _, rfl, _⟩; rfl, by rintro _ _ _ _ hZ ⟨_, _, rfl, h0⟩; exact ⟨_, _, rfl, h0.mono hZ⟩, by rintro _ _ _ ⟨_, _, rfl, _⟩; simp [Value.oneCell']⟩
def okFrame (x : Frame) : Prop := (IntKind.i64.min ≤ x.ID ∧ x.ID ≤ IntKind.i64.max) ∧ (True) ∧ (True) ∧ (True) ∧ (IntKind.i64.min ≤ x.Size ∧ x.Size ≤ IntKind.i64.max) ∧ ((∀ y0 ∈ x.Data, IntKind.u8.min ≤ y0 ∧ y0 ≤ IntKind.u8.max) ∧ x.Data.length * 1 + 4096 ≤ lim)

structure Task where
  ID : Int
  Bytes : Int
  Every : Int
  Late : Int
  Jitter : Int
  deriving DecidableEq, Inhabited
def Task.enc (x : Task) : List Value := [.int .i64 x.ID, .int .i64 x.Bytes, .int .i64 x.Every, .int .i64 x.Late, .int .i64 x.Jitter]
def tyTask : Ty Task := tyFlat Task.enc 5 (fun _ => rfl) (fun x => by simp [Task.enc, Value.oneCell'])
def okTask (x : Task) : Prop := (IntKind.i64.min ≤ x.ID ∧ x.ID ≤ IntKind.i64.max) ∧ (IntKind.i64.min ≤ x.Bytes ∧ x.Bytes ≤ IntKind.i64.max) ∧ (IntKind.i64.min ≤ x.Every ∧ x.Every ≤ IntKind.i64.max) ∧ (IntKind.i64.min ≤ x.Late ∧ x.Late ≤ IntKind.i64.max) ∧ (IntKind.i64.min ≤ x.Jitter ∧ x.Jitter ≤ IntKind.i64.max)

structure Stop where
  Wait : Int
  Fits : Bool
  deriving DecidableEq, Inhabited
def Stop.enc (x : Stop) : List Value := [.int .i64 x.Wait, .bool x.Fits]
def tyStop : Ty Stop := tyFlat Stop.enc 2 (fun _ => rfl) (fun x => by simp [Stop.enc, Value.oneCell'])
def okStop (x : Stop) : Prop := (IntKind.i64.min ≤ x.Wait ∧ x.Wait ≤ IntKind.i64.max) ∧ (True)

structure Kind where
  Size : Int
  Poly : Int
  From : Int
  End : Int
  deriving DecidableEq, Inhabited
def Kind.enc (x : Kind) : List Value := [.int .i64 x.Size, .int .u64 x.Poly, .int .u64 x.From, .int .u64 x.End]
def tyKind : Ty Kind := tyFlat Kind.enc 4 (fun _ => rfl) (fun x => by simp [Kind.enc, Value.oneCell'])
def okKind (x : Kind) : Prop := (IntKind.i64.min ≤ x.Size ∧ x.Size ≤ IntKind.i64.max) ∧ (IntKind.u64.min ≤ x.Poly ∧ x.Poly ≤ IntKind.u64.max) ∧ (IntKind.u64.min ≤ x.From ∧ x.From ≤ IntKind.u64.max) ∧ (IntKind.u64.min ≤ x.End ∧ x.End ≤ IntKind.u64.max)

structure Slot where
  Task : Int
  Asked : Int
  From : Int
  End : Int
  deriving DecidableEq, Inhabited
def Slot.enc (x : Slot) : List Value := [.int .i64 x.Task, .int .i64 x.Asked, .int .i64 x.From, .int .i64 x.End]
def tySlot : Ty Slot := tyFlat Slot.enc 4 (fun _ => rfl) (fun x => by simp [Slot.enc, Value.oneCell'])
def okSlot (x : Slot) : Prop := (IntKind.i64.min ≤ x.Task ∧ x.Task ≤ IntKind.i64.max) ∧ (IntKind.i64.min ≤ x.Asked ∧ x.Asked ≤ IntKind.i64.max) ∧ (IntKind.i64.min ≤ x.From ∧ x.From ≤ IntKind.i64.max) ∧ (IntKind.i64.min ≤ x.End ∧ x.End ≤ IntKind.i64.max)

def bwrite_vc (u0 : Int) (u1 : Int) (K : (List UInt8) → Prop) : Prop :=
  ((0 ≤ u1 ∧ u1 ≤ u1 ∧ u1 * 1 ≤ 140737488355328) ∧
    (∃ inv23 : Int → Int → (List Int) → Prop, ∃ mu23 : Int → Int → (List Int) → Nat, inv23 u0 0 (List.replicate u1.toNat (0 : Int)) ∧
    (∀ (x0 : Int) (x10 : Int) (zg90 : List Int), inv23 x0 x10 zg90 →
    (((decide (x10 < u1)) = true →
      ((0 ≤ w64 ((w64 (u1 - 1)) - x10) ∧ w64 ((w64 (u1 - 1)) - x10) < (zg90.length : Int)) ∧
      (inv23 (bShr .u64 x0 1) (w64 (x10 + 1)) (zg90.set (w64 ((w64 (u1 - 1)) - x10)).toNat (w8 (48 + (w8 (bAnd .u64 x0 1))))) ∧ mu23 (bShr .u64 x0 1) (w64 (x10 + 1)) (zg90.set (w64 ((w64 (u1 - 1)) - x10)).toNat (w8 (48 + (w8 (bAnd .u64 x0 1))))) < mu23 x0 x10 zg90))) ∧
    ((decide (x10 < u1)) = false →
      (K (bstr zg90)))))))

/-! Pure proofs: no program in sight. -/
/-- strings.Trim at a set of ASCII bytes. -/
def trimS (l cs : List UInt8) : List UInt8 := ((l.reverse.dropWhile (cs.contains ·)).reverse).dropWhile (cs.contains ·)
/-- strings.Count of one byte. -/
def count1S (l c : List UInt8) : Int := match c with | [x] => ((l.count x : Nat) : Int) | _ => 0
def isBit (c : UInt8) : Bool := c == 48 || c == 49
def isRow (b : List UInt8) : Bool := b.all isBit
def flip (c : UInt8) : UInt8 := if c = 48 then 49 else 48
theorem isBit_or {c : UInt8} (h : isBit c = true) : c = 48 ∨ c = 49 := by simpa [isBit] using h
theorem isRow_mem {b : List UInt8} (h : isRow b = true) {c : UInt8} (hc : c ∈ b) : c = 48 ∨ c = 49 := isBit_or (List.all_eq_true.1 h c hc)
theorem isRow_append {a b : List UInt8} : isRow (a ++ b) = (isRow a && isRow b) := by simp [isRow]
theorem isRow_cons {c : UInt8} {b : List UInt8} : isRow (c :: b) = (isBit c && isRow b) := rfl
theorem isRow_take {b : List UInt8} (h : isRow b = true) (k : Nat) : isRow (b.take k) = true := List.all_eq_true.2 fun c hc => List.all_eq_true.1 h c (List.mem_of_mem_take hc)
theorem isRow_drop {b : List UInt8} (h : isRow b = true) (k : Nat) : isRow (b.drop k) = true := List.all_eq_true.2 fun c hc => List.all_eq_true.1 h c (List.mem_of_mem_drop hc)
theorem isBit_flip (c : UInt8) : isBit (flip c) = true := by unfold flip; split <;> rfl
theorem wu64_eq (x : Int) (h : 0 ≤ x ∧ x ≤ 18446744073709551615) : wu64 x = x := IntWalk.u64_in x h
theorem w8_eq (x : Int) (h : 0 ≤ x ∧ x ≤ 255) : w8 x = x := IntWalk.u8_in x h
theorem shl1 (n : Nat) (h : n < 9223372036854775808) : bShl .u64 (n : Int) 1 = ((2 * n : Nat) : Int) := by
  unfold bShl
  have : (n : Int) * 2 ^ (min (1 : Int).toNat IntKind.u64.bits) = ((2 * n : Nat) : Int) := by
    show (n : Int) * 2 ^ 1 = _
    omega
  rw [this]
  exact wu64_eq _ (by omega)
theorem or_bit (m d : Nat) (hm : m < 9223372036854775808) (hd : d < 2) : bOr .u64 ((2 * m : Nat) : Int) (d : Int) = ((2 * m + d : Nat) : Int) := by
  have e : (BitVec.ofInt IntKind.u64.bits ((2 * m : Nat) : Int) ||| BitVec.ofInt IntKind.u64.bits (d : Int)).toNat = 2 * m + d := by
    rw [BitVec.toNat_or]
    show (BitVec.ofInt 64 ((2 * m : Nat) : Int)).toNat ||| (BitVec.ofInt 64 (d : Int)).toNat = _
    rw [ofInt_toNat (2 * m) (by omega), ofInt_toNat d (by omega)]
    have h := Nat.shiftLeft_add_eq_or_of_lt (i := 1) (b := d) (by omega) m
    rw [Nat.shiftLeft_eq] at h
    have e2 : m * 2 ^ 1 = 2 * m := by omega
    rw [e2] at h
    exact h.symm
  unfold bOr
  rw [e]
  exact wu64_eq _ (by omega)
theorem and1 (n : Nat) (h : n < 18446744073709551616) : bAnd .u64 (n : Int) 1 = ((n % 2 : Nat) : Int) := by
  have e : (BitVec.ofInt IntKind.u64.bits (n : Int) &&& BitVec.ofInt IntKind.u64.bits (1 : Int)).toNat = n % 2 := by
    rw [BitVec.toNat_and]
    show (BitVec.ofInt 64 (n : Int)).toNat &&& (BitVec.ofInt 64 ((1 : Nat) : Int)).toNat = _
    rw [ofInt_toNat n h, ofInt_toNat 1 (by omega), Nat.and_one_is_mod]
  unfold bAnd
  rw [e]
  exact wu64_eq _ (by omega)
theorem shr1 (n : Nat) : bShr .u64 (n : Int) 1 = ((n / 2 : Nat) : Int) := by
  unfold bShr
  show (n : Int).fdiv (2 ^ 1) = _
  rw [Int.fdiv_eq_ediv_of_nonneg _ (by decide)]
  norm_cast
theorem shrN (n s : Nat) (hs : s ≤ 63) : bShr .i64 (n : Int) (s : Int) = ((n / 2 ^ s : Nat) : Int) := by
  unfold bShr
  have : min (s : Int).toNat IntKind.i64.bits = s := by simp [IntKind.bits]; omega
  rw [this, Int.fdiv_eq_ediv_of_nonneg _ (Int.le_of_lt (Int.pow_pos (by decide)))]
  norm_cast
/-- A number in so many bits. -/
def wr : Nat → Nat → List UInt8
  | 0, _ => []
  | s + 1, n => UInt8.ofNat (48 + n / 2 ^ s % 2) :: wr s n
def val : List UInt8 → Nat
  | [] => 0
  | c :: r => (c.toNat - 48) * 2 ^ r.length + val r
theorem wr_length (s n : Nat) : (wr s n).length = s := by induction s with
  | zero => rfl
  | succ s ih => simp [wr, ih]
theorem wr_bit (x : Nat) : UInt8.ofNat (48 + x % 2) = 48 ∨ UInt8.ofNat (48 + x % 2) = 49 := by
  rcases Nat.mod_two_eq_zero_or_one x with h | h <;> rw [h]
  · exact .inl rfl
  · exact .inr rfl
theorem wr_row (s n : Nat) : isRow (wr s n) = true := by
  induction s with
  | zero => rfl
  | succ s ih =>
    rw [wr, isRow_cons, ih]
    rcases wr_bit (n / 2 ^ s) with h | h <;> rw [h] <;> rfl
theorem wr_bit_val (x : Nat) : (UInt8.ofNat (48 + x % 2)).toNat - 48 = x % 2 := by
  rcases Nat.mod_two_eq_zero_or_one x with h | h <;> rw [h] <;> rfl
theorem val_wr (s n : Nat) : val (wr s n) = n % 2 ^ s := by
  induction s with
  | zero => simp [wr, val, Nat.mod_one]
  | succ s ih => rw [wr, val, wr_length, wr_bit_val, ih, Nat.pow_succ, Nat.mod_mul, Nat.mul_comm, Nat.add_comm]
theorem val_append (a b : List UInt8) : val (a ++ b) = val a * 2 ^ b.length + val b := by
  induction a with
  | nil => simp [val]
  | cons c r ih => rw [List.cons_append, val, ih, val, List.length_append, Nat.pow_add, Nat.add_mul, Nat.mul_assoc, Nat.add_assoc]
theorem val_snoc (a : List UInt8) (c : UInt8) : val (a ++ [c]) = 2 * val a + (c.toNat - 48) := by
  rw [val_append]
  simp [val]
  omega
theorem val_lt {b : List UInt8} (h : isRow b = true) : val b < 2 ^ b.length := by
  induction b with
  | nil => simp [val]
  | cons c r ih =>
    rw [isRow_cons, Bool.and_eq_true] at h
    have := ih h.2
    rw [val, List.length_cons, Nat.pow_succ]
    rcases isBit_or h.1 with rfl | rfl
    · have e : (48 : UInt8).toNat - 48 = 0 := rfl
      rw [e]; omega
    · have e : (49 : UInt8).toNat - 48 = 1 := rfl
      rw [e]; omega
theorem wr_val {b : List UInt8} (h : isRow b = true) (n : Nat) (hn : n % 2 ^ b.length = val b) : wr b.length n = b := by
  induction b with
  | nil => rfl
  | cons c r ih =>
    rw [isRow_cons, Bool.and_eq_true] at h
    have hl := val_lt h.2
    rw [val, List.length_cons, Nat.pow_succ, Nat.mod_mul] at hn
    have hm : n % 2 ^ r.length < 2 ^ r.length := Nat.mod_lt _ (Nat.two_pow_pos _)
    have hr : n % 2 ^ r.length = val r ∧ n / 2 ^ r.length % 2 = c.toNat - 48 := by
      have h2 : (2 ^ r.length * (n / 2 ^ r.length % 2) + n % 2 ^ r.length) = (2 ^ r.length * (c.toNat - 48) + val r) := by rw [Nat.mul_comm _ (c.toNat - 48)]; omega
      have h3 := congrArg (· % 2 ^ r.length) h2
      have h4 := congrArg (· / 2 ^ r.length) h2
      simp only [Nat.mul_add_mod, Nat.mod_eq_of_lt hm, Nat.mod_eq_of_lt hl] at h3
      have p := Nat.two_pow_pos r.length
      simp only [Nat.mul_add_div p, Nat.div_eq_of_lt hm, Nat.div_eq_of_lt hl, Nat.add_zero] at h4
      exact ⟨h3, h4⟩
    rw [List.length_cons, wr, ih h.2 hr.1, hr.2]
    rcases isBit_or h.1 with rfl | rfl <;> rfl
theorem take_next {α : Type} (l : List α) (k : Nat) (q : α) (hq : l[k]? = some q) : l.take (k + 1) = l.take k ++ [q] := by rw [List.take_add_one, hq]; rfl
theorem drop_this {α : Type} (l : List α) (k : Nat) (q : α) (hq : l[k]? = some q) : l.drop k = q :: l.drop (k + 1) := by
  have hk : k < l.length := (List.getElem?_eq_some_iff.1 hq).1
  rw [List.drop_eq_getElem_cons hk]
  rw [List.getElem?_eq_getElem hk] at hq
  simp at hq
  rw [hq]
theorem bstr_append (a b : List Int) : bstr (a ++ b) = bstr a ++ bstr b := by simp [bstr]
theorem bstr_one (c : UInt8) : bstr [(c.toNat : Int)] = [c] := by simp [bstr]
theorem bstr_ints (l : List UInt8) : bstr (l.map fun c => (c.toNat : Int)) = l := by
  induction l with
  | nil => rfl
  | cons c r ih => rw [List.map_cons, show bstr ((c.toNat : Int) :: r.map fun c => (c.toNat : Int)) = c :: bstr (r.map fun c => (c.toNat : Int)) by simp [bstr], ih]
theorem bstr_length (a : List Int) : (bstr a).length = a.length := by simp [bstr]
def fixF : Nat → UInt8 → List UInt8 → List UInt8
  | _, _, [] => []
  | k, a, c :: r => if k % 4 = 0 then flip a :: c :: fixF (k + 1) c r else c :: fixF (k + 1) c r
def bcheckS (b : List UInt8) : Int := if 1000 < b.length then 2 else if isRow b then 0 else 4
def breadS (b : List UInt8) : Int := (val b : Int)
def bwriteS (n s : Int) : List UInt8 := wr s.toNat n.toNat
def rsameS : List UInt8 → Bool
  | [] => true
  | c :: r => r.all (· == c)
theorem dropWhile_nil {α : Type} (p : α → Bool) (l : List α) : l.dropWhile p = [] ↔ l.all p = true := by
  induction l with
  | nil => simp
  | cons x l ih =>
    rw [List.dropWhile_cons]
    cases h : p x <;> simp [h, ih]
theorem trim_row (b : List UInt8) : trimS b [48, 49] = [] ↔ isRow b = true := by
  have e : ∀ l : List UInt8, l.all (fun x => ([48, 49] : List UInt8).contains x) = isRow l := by
    intro l
    unfold isRow
    congr 1
    funext x
    simp only [isBit, List.contains_cons, List.contains_nil, Bool.or_false]
  unfold trimS
  rw [dropWhile_nil, e]
  constructor
  · intro h
    -- what is left at the right end is no bit, unless nothing is left
    have h1 : ∀ l : List UInt8, isRow (l.dropWhile (fun x => ([48, 49] : List UInt8).contains x)) = true → isRow l = true := by
      intro l
      induction l with
      | nil => exact fun h => h
      | cons x l ih =>
        rw [List.dropWhile_cons]
        split
        · rename_i hx
          intro h
          rw [isRow_cons, ih h, Bool.and_true]
          simpa [isBit] using hx
        · exact fun h => h
    have h2 : ∀ l : List UInt8, isRow l.reverse = isRow l := fun l => by simp [isRow]
    rw [h2] at h
    have := h1 _ h
    rwa [h2] at this
  · intro h
    refine List.all_eq_true.2 fun c hc => ?_
    have hc := List.mem_reverse.1 hc
    have hc := (List.dropWhile_sublist _).subset hc
    exact List.all_eq_true.1 h c (List.mem_reverse.1 hc)
theorem count_row (b : List UInt8) : b.count 48 + b.count 49 ≤ b.length ∧ (b.count 48 + b.count 49 = b.length ↔ isRow b = true) := by
  induction b with
  | nil => simp [isRow]
  | cons c r ih =>
    rw [isRow_cons, List.count_cons, List.count_cons, List.length_cons]
    by_cases h1 : c = 48
    · subst h1
      have e : isBit 48 = true := rfl
      simp only [e, Bool.true_and, beq_self_eq_true, if_true, show ((48 : UInt8) == 49) = false by rfl, Bool.false_eq_true, if_false]
      rw [← ih.2]
      omega
    · by_cases h2 : c = 49
      · subst h2
        have e : isBit 49 = true := rfl
        simp only [e, Bool.true_and, beq_self_eq_true, if_true, show ((49 : UInt8) == 48) = false by rfl, Bool.false_eq_true, if_false]
        rw [← ih.2]
        omega
      · have e : isBit c = false := by simp [isBit, h1, h2]
        simp only [e, Bool.false_and, beq_iff_eq, h1, h2, if_false]
        constructor
        · omega
        · constructor
          · omega
          · intro h; cases h
theorem bwrite_ok (n s : Int) (h : 0 ≤ s ∧ s ≤ 64 ∧ 0 ≤ n ∧ n < 2 ^ 62) : bwrite_vc n s (fun r => r = bwriteS n s) := by
  obtain ⟨m, rfl⟩ : ∃ m : Nat, s = m := ⟨s.toNat, by omega⟩
  obtain ⟨v, rfl⟩ : ∃ v : Nat, n = v := ⟨n.toNat, by omega⟩
  have p62 : (2 : Int) ^ 62 = 4611686018427387904 := rfl
  refine ⟨by omega, fun x i z => ∃ k : Nat, i = k ∧ k ≤ m ∧ x = ((v / 2 ^ k : Nat) : Int) ∧ z.length = m ∧ z.drop (m - k) = (wr k v).map (fun c => (c.toNat : Int)), fun _ i _ => m - i.toNat,
    ⟨0, rfl, by omega, by simp, by simp, by simp [wr]⟩, ?_⟩
  rintro _ _ z ⟨k, rfl, hk, rfl, hz, hd⟩
  refine ⟨fun h1 => ?_, fun h1 => ?_⟩
  · have hkm : k < m := by simp at h1; omega
    have e1 : w64 (w64 ((m : Int) - 1) - k) = ((m - 1 - k : Nat) : Int) := by
      rw [w64_eq ((m : Int) - 1) (by omega), w64_eq _ (by omega)]
      omega
    have hv : v / 2 ^ k < 18446744073709551616 := Nat.lt_of_le_of_lt (Nat.div_le_self _ _) (by omega)
    rw [e1, and1 _ hv, shr1, w64_succ k (by omega)]
    refine ⟨by omega, ⟨k + 1, rfl, by omega, ?_, by simpa using hz, ?_⟩, by dsimp only; omega⟩
    · rw [Nat.div_div_eq_div_mul, Nat.pow_succ]
    · have e2 : m - (k + 1) = m - 1 - k := by omega
      rw [e2, Int.toNat_natCast, wr, List.map_cons, ← hd]
      have hlt : m - 1 - k < z.length := by omega
      have e3 : m - k = m - 1 - k + 1 := by omega
      rw [e3, List.drop_eq_getElem_cons (by simpa using hlt), List.getElem_set_self]
      congr 1
      · rcases Nat.mod_two_eq_zero_or_one (v / 2 ^ k) with hh | hh <;> rw [hh] <;> rfl
      · rw [List.drop_set_of_lt (by omega)]
  · have : k = m := by simp at h1; omega
    subst this
    have e2 : k - k = 0 := by omega
    rw [e2, List.drop_zero] at hd
    show bstr z = wr (k : Int).toNat (v : Int).toNat
    rw [hd, Int.toNat_natCast, Int.toNat_natCast, bstr_ints]

end Go.Proofs.Ytginlmgkimfjmaa
set_option linter.unusedVariables false
set_option linter.unusedSimpArgs false
namespace Go.Proofs.Ytginlmgkimfjmaa
open Go.Sy Go.RowKit
def bof_vc (u0 : List Int) (K : ((List UInt8) × Int) → Prop) : Prop :=
  (u0.length ≤ 140737488355328 →
    (((decide ((u0.length : Int) > 125)) = true →
      (K ([], 2))) ∧
    ((decide ((u0.length : Int) > 125)) = false →
      (∃ inv39 : Int → (List UInt8) → Prop, ∃ mu39 : Int → (List UInt8) → Nat, inv39 0 ([] : List UInt8) ∧
      (∀ (x12 : Int) (yb26 : List UInt8), inv39 x12 yb26 →
      (((decide (x12 < (u0.length : Int))) = true →
        ((0 ≤ x12 ∧ x12 < (u0.length : Int)) ∧
        (∀ q64, u0[x12.toNat]? = some q64 →
        ((0 ≤ (8 : Int) ∧ (8 : Int) ≤ 64 ∧ 0 ≤ (wu64 q64) ∧ (wu64 q64) < 2 ^ 62) ∧
        ((yb26.length + (bwriteS (wu64 q64) 8).length ≤ 140737488355328) ∧
        (inv39 (w64 (x12 + 1)) (yb26 ++ (bwriteS (wu64 q64) 8)) ∧ mu39 (w64 (x12 + 1)) (yb26 ++ (bwriteS (wu64 q64) 8)) < mu39 x12 yb26)))))) ∧
      ((decide (x12 < (u0.length : Int))) = false →
        (K (yb26, 0)))))))))

/-! Pure proofs: no program in sight. -/
def ofb : List Int → List UInt8
  | [] => []
  | x :: r => wr 8 x.toNat ++ ofb r
theorem ofb_append (a b : List Int) : ofb (a ++ b) = ofb a ++ ofb b := by
  induction a with
  | nil => rfl
  | cons x r ih => simp [ofb, ih]
theorem ofb_length (a : List Int) : (ofb a).length = 8 * a.length := by
  induction a with
  | nil => rfl
  | cons x r ih => rw [ofb, List.length_append, wr_length, ih, List.length_cons]; omega
theorem ofb_row (a : List Int) : isRow (ofb a) = true := by
  induction a with
  | nil => rfl
  | cons x r ih => rw [ofb, isRow_append, wr_row, ih]; rfl
def bofS (l : List Int) : List UInt8 × Int := if 125 < l.length then ([], 2) else (ofb l, 0)
theorem bof_ok (l : List Int) (h : ∀ x ∈ l, 0 ≤ x ∧ x ≤ 255) : bof_vc l (fun r => r = bofS l) := by
  intro hl
  refine ⟨fun h1 => ?_, fun h1 => ?_⟩
  · unfold bofS
    rw [if_pos (by simp at h1; omega)]
  · have hn : ¬ 125 < l.length := by simp at h1; omega
    have hS : bofS l = (ofb l, 0) := by unfold bofS; rw [if_neg hn]
    rw [hS]
    refine ⟨fun i y => ∃ k : Nat, i = k ∧ k ≤ l.length ∧ y = ofb (l.take k), fun i _ => l.length - i.toNat, ⟨0, rfl, by omega, rfl⟩, ?_⟩
    rintro _ _ ⟨k, rfl, hk, rfl⟩
    refine ⟨fun h2 => ⟨by simp at h2; omega, fun q hq => ?_⟩, fun h2 => ?_⟩
    · rw [Int.toNat_natCast] at hq
      have hkl : k < l.length := (List.getElem?_eq_some_iff.1 hq).1
      have hqb := h q (List.mem_of_getElem? hq)
      have ew : w64 ((k : Int) + 1) = ((k + 1 : Nat) : Int) := w64_succ k (by omega)
      have e8 : wu64 q = q := wu64_eq q (by omega)
      have p62 : (2 : Int) ^ 62 = 4611686018427387904 := rfl
      have eb : bwriteS q 8 = wr 8 q.toNat := rfl
      rw [ew, e8, eb]
      refine ⟨by omega, ?_, ⟨k + 1, rfl, by omega, ?_⟩, by (try dsimp only); omega⟩
      · rw [ofb_length, wr_length, List.length_take]; omega
      · rw [take_next l k q hq, ofb_append]
        simp [ofb]
    · have : k = l.length := by simp at h2; omega
      subst this
      rw [List.take_length]

end Go.Proofs.Ytginlmgkimfjmaa
set_option linter.unusedVariables false
set_option linter.unusedSimpArgs false
namespace Go.Proofs.Ytginlmgkimfjmaa
open Go.Sy Go.RowKit
def fsizes_vc  (K : (List Int) → Prop) : Prop :=
  (K ([0, 1, 2, 3, 4, 5, 6, 7, 8, 12, 16, 20, 24, 32, 48, 64] : List Int))
def fsizes  : (List Int) :=
  ([0, 1, 2, 3, 4, 5, 6, 7, 8, 12, 16, 20, 24, 32, 48, 64] : List Int)
theorem fsizes_ok  : fsizes_vc  (fun r => r = fsizes ) := (by rfl)

def fbit_vc (u0 : Bool) (K : (List UInt8) → Prop) : Prop :=
  ((u0 = true →
      (K ([49] : List UInt8))) ∧
    (u0 = false →
      (K ([48] : List UInt8))))
def fbit (u0 : Bool) : (List UInt8) :=
  bif u0 then ([49] : List UInt8)
    else ([48] : List UInt8)
theorem fbit_ok (u0 : Bool) : fbit_vc u0 (fun r => r = fbit u0) := ⟨fun h0 => (by simp only [fbit, h0, cond_true, cond_false]), fun h0 => (by simp only [fbit, h0, cond_true, cond_false])⟩

def smost_vc (u0 : Int) (K : (Int × Int) → Prop) : Prop :=
  ((((decide (u0 < 0)) || (decide (u0 > 1000))) = true →
      (K (0, 3))) ∧
    (((decide (u0 < 0)) || (decide (u0 > 1000))) = false →
      (((u0 == 0) = true →
        (K (0, 0))) ∧
      ((u0 == 0) = false →
        (K (w64 (u0 + (w64 ((w64 (u0 - 1)).tdiv 4))), 0))))))
def smost (u0 : Int) : Int × Int :=
  bif (decide (u0 < 0)) || (decide (u0 > 1000)) then (0, 3)
    else bif u0 == 0 then (0, 0)
    else (w64 (u0 + (w64 ((w64 (u0 - 1)).tdiv 4))), 0)
theorem smost_ok (u0 : Int) : smost_vc u0 (fun r => r = smost u0) := ⟨fun h0 => (by simp only [smost, h0, cond_true, cond_false]), fun h0 => ⟨fun h1 => (by simp only [smost, h0, h1, cond_true, cond_false]), fun h1 => (by simp only [smost, h0, h1, cond_true, cond_false])⟩⟩

def ckinds_vc  (K : (Kind × Kind × Kind × Kind × Kind) → Prop) : Prop :=
  (K ((⟨15, 17817, 0, 0⟩ : Kind), (⟨17, 92251, 65536, 0⟩ : Kind), (⟨21, 1058969, 1048576, 0⟩ : Kind), (⟨8, 47, 255, 255⟩ : Kind), (⟨16, 4129, 65535, 0⟩ : Kind)))
def ckinds  : (Kind × Kind × Kind × Kind × Kind) :=
  ((⟨15, 17817, 0, 0⟩ : Kind), (⟨17, 92251, 65536, 0⟩ : Kind), (⟨21, 1058969, 1048576, 0⟩ : Kind), (⟨8, 47, 255, 255⟩ : Kind), (⟨16, 4129, 65535, 0⟩ : Kind))
theorem ckinds_ok  : ckinds_vc  (fun r => r = ckinds ) := (by rfl)

def sindex_vc (u0 : List Int) (u1 : Int) (K : Int → Prop) : Prop :=
  (u0.length ≤ 140737488355328 →
    (∃ inv16 : Int → Prop, ∃ mu16 : Int → Nat, inv16 0 ∧
    (∀ (x8 : Int), inv16 x8 →
    (((decide (x8 < (u0.length : Int))) = true →
      ((0 ≤ x8 ∧ x8 < (u0.length : Int)) ∧
      (∀ q51, u0[x8.toNat]? = some q51 →
      (((u1 == q51) = true →
        (K x8)) ∧
      ((u1 == q51) = false →
        (inv16 (w64 (x8 + 1)) ∧ mu16 (w64 (x8 + 1)) < mu16 x8)))))) ∧
    ((decide (x8 < (u0.length : Int))) = false →
      (K (-1)))))))
theorem sindex_mono {u0 : List Int} {u1 : Int} {K K1 : Int → Prop} (hK : ∀ r, K r → K1 r) (h : sindex_vc u0 u1 K) : sindex_vc u0 u1 K1 :=
  fun z0 => (Exists.elim (h z0) fun i1 e1 => Exists.elim e1 fun m1 g1 => ⟨i1, m1, g1.1, fun x8 z1 => ⟨fun c2 => ⟨((g1.2 x8 z1).1 c2).1, fun y4 z4 => ⟨fun c5 => hK _ ((((g1.2 x8 z1).1 c2).2 y4 z4).1 c5), fun c5 => ((((g1.2 x8 z1).1 c2).2 y4 z4).2 c5)⟩⟩, fun c2 => hK _ ((g1.2 x8 z1).2 c2)⟩⟩)

def scontains_vc (u0 : List Int) (u1 : Int) (K : Bool → Prop) : Prop :=
  (u0.length ≤ 140737488355328 →
    (sindex_vc u0 u1 fun r13 =>
    (K (decide (r13 ≥ 0)))))

def fkind_vc (u0 : Frame) (K : Int → Prop) : Prop :=
  (u0.Data.length ≤ 140737488355328 →
    (((!u0.Fast) = true →
      (K 0)) ∧
    ((!u0.Fast) = false →
      (((decide ((u0.Data.length : Int) ≤ 16)) = true →
        (K 1)) ∧
      ((decide ((u0.Data.length : Int) ≤ 16)) = false →
        (K 2))))))
def fkind (u0 : Frame) : Int :=
  bif !u0.Fast then 0
    else bif decide ((u0.Data.length : Int) ≤ 16) then 1
    else 2
theorem fkind_ok (u0 : Frame) : fkind_vc u0 (fun r => r = fkind u0) := (fun _ => ⟨fun h0 => (by simp only [fkind, h0, cond_true, cond_false]), fun h0 => ⟨fun h1 => (by simp only [fkind, h0, h1, cond_true, cond_false]), fun h1 => (by simp only [fkind, h0, h1, cond_true, cond_false])⟩⟩)

def fname_vc (u0 : Frame) (K : (List UInt8) → Prop) : Prop :=
  (u0.Data.length ≤ 140737488355328 →
    (((!u0.Long) = true →
      ((0 ≤ (11 : Int) ∧ (11 : Int) ≤ 64 ∧ 0 ≤ (wu64 u0.ID) ∧ (wu64 u0.ID) < 2 ^ 62) ∧
      ((((bwriteS (wu64 u0.ID) 11).length : Int) + ((fbit u0.Remote).length : Int) ≤ 9223372036854775807) ∧
      (((((bwriteS (wu64 u0.ID) 11) ++ (fbit u0.Remote)).length : Int) + (([48] : List UInt8).length : Int) ≤ 9223372036854775807) ∧
      (K (((bwriteS (wu64 u0.ID) 11) ++ (fbit u0.Remote)) ++ ([48] : List UInt8))))))) ∧
    ((!u0.Long) = false →
      ((0 ≤ (11 : Int) ∧ (11 : Int) ≤ 64 ∧ 0 ≤ (wu64 (bShr .i64 u0.ID 18)) ∧ (wu64 (bShr .i64 u0.ID 18)) < 2 ^ 62) ∧
      ((((bwriteS (wu64 (bShr .i64 u0.ID 18)) 11).length : Int) + (([49, 49] : List UInt8).length : Int) ≤ 9223372036854775807) ∧
      ((0 ≤ (18 : Int) ∧ (18 : Int) ≤ 64 ∧ 0 ≤ (wu64 u0.ID) ∧ (wu64 u0.ID) < 2 ^ 62) ∧
      (((((bwriteS (wu64 (bShr .i64 u0.ID 18)) 11) ++ ([49, 49] : List UInt8)).length : Int) + ((bwriteS (wu64 u0.ID) 18).length : Int) ≤ 9223372036854775807) ∧
      ((((((bwriteS (wu64 (bShr .i64 u0.ID 18)) 11) ++ ([49, 49] : List UInt8)) ++ (bwriteS (wu64 u0.ID) 18)).length : Int) + ((fbit u0.Remote).length : Int) ≤ 9223372036854775807) ∧
      (K ((((bwriteS (wu64 (bShr .i64 u0.ID 18)) 11) ++ ([49, 49] : List UInt8)) ++ (bwriteS (wu64 u0.ID) 18)) ++ (fbit u0.Remote)))))))))))

def dasks_vc (u0 : Task) (u1 : Int) (u2 : Bool) (K : Int → Prop) : Prop :=
  ((u2 = true →
      ((u0.Every ≠ 0) ∧
      (K (w64 ((w64 ((w64 (u1 + u0.Jitter)).tdiv u0.Every)) + 1))))) ∧
    (u2 = false →
      ((u0.Every ≠ 0) ∧
      (K (w64 ((w64 ((w64 ((w64 (u1 + u0.Jitter)) + u0.Every)) - 1)).tdiv u0.Every))))))

def dcheck_vc (u0 : List Task) (K : Int → Prop) : Prop :=
  (u0.length ≤ 140737488355328 →
    (((decide ((u0.length : Int) > 20)) = true →
      (K 2)) ∧
    ((decide ((u0.length : Int) > 20)) = false →
      (∃ inv32 : Int → Int → Prop, ∃ mu32 : Int → Int → Nat, inv32 (-1) 0 ∧
      (∀ (x3 : Int) (x11 : Int), inv32 x3 x11 →
      (((decide (x11 < (u0.length : Int))) = true →
        ((0 ≤ x11 ∧ x11 < (u0.length : Int)) ∧
        (∀ q56, u0[x11.toNat]? = some q56 →
        ((((((((((((decide (q56.ID < 0)) || (decide (q56.ID > 2047))) || (decide (q56.Every < 1))) || (decide (q56.Every > 1000000))) || (decide (q56.Late < 0))) || (decide (q56.Late > 1000000))) || (decide (q56.Jitter < 0))) || (decide (q56.Jitter ≥ q56.Every))) || (decide (q56.Bytes < 0))) || (decide (q56.Bytes > 8))) = true →
          (K 3)) ∧
        (((((((((((decide (q56.ID < 0)) || (decide (q56.ID > 2047))) || (decide (q56.Every < 1))) || (decide (q56.Every > 1000000))) || (decide (q56.Late < 0))) || (decide (q56.Late > 1000000))) || (decide (q56.Jitter < 0))) || (decide (q56.Jitter ≥ q56.Every))) || (decide (q56.Bytes < 0))) || (decide (q56.Bytes > 8))) = false →
          (((decide (q56.ID ≤ x3)) = true →
            (K 4)) ∧
          ((decide (q56.ID ≤ x3)) = false →
            (inv32 q56.ID (w64 (x11 + 1)) ∧ mu32 q56.ID (w64 (x11 + 1)) < mu32 x3 x11)))))))) ∧
      ((decide (x11 < (u0.length : Int))) = false →
        (K 0))))))))

def tclone_vc (u0 : List Task) (K : (List Task) → Prop) : Prop :=
  (u0.length ≤ 140737488355328 →
    (∀ nb11, (u0 ≠ [] → nb11 = false) →
    ((nb11 = true →
      (K ([] : List Task))) ∧
    (nb11 = false →
      (((([] : List Task).length + u0.length) * 40 ≤ 140737488355328) ∧
      (K (([] : List Task) ++ u0)))))))

def dfix_vc (u0 : Int) (u1 : Int → Int) (K : Int → Prop) : Prop :=
  (∃ inv9 : Int → Prop, ∃ mu9 : Int → Nat, inv9 u0 ∧
    (∀ (x0 : Int), inv9 x0 →
    (((decide ((u1 x0) > 200000)) = true →
      (K (-1))) ∧
    ((decide ((u1 x0) > 200000)) = false →
      ((((u1 x0) == x0) = true →
        (K (u1 x0))) ∧
      (((u1 x0) == x0) = false →
        (inv9 (u1 x0) ∧ mu9 (u1 x0) < mu9 x0)))))))

/-! Pure proofs: no program in sight. -/
def sidx {α : Type} (p : α → Bool) (l : List α) : Int := match l.findIdx? p with | some i => (i : Int) | none => -1
theorem sidx_at {α : Type} (p : α → Bool) (l : List α) (k : Nat) (q : α) (hq : l[k]? = some q) (hp : p q = true) (hb : ∀ j x, j < k → l[j]? = some x → p x = false) : sidx p l = k := by
  unfold sidx
  have : l.findIdx? p = some k := by
    rw [List.findIdx?_eq_some_iff_getElem]
    obtain ⟨h1, h2⟩ := List.getElem?_eq_some_iff.1 hq
    exact ⟨h1, by rw [h2]; exact hp, fun j hj => by rw [hb j _ hj (List.getElem?_eq_getElem (by omega))]; simp⟩
  rw [this]
theorem sidx_none {α : Type} (p : α → Bool) (l : List α) (hb : ∀ (j : Nat) x, l[j]? = some x → p x = false) : sidx p l = -1 := by
  unfold sidx
  have : l.findIdx? p = none := by
    rw [List.findIdx?_eq_none_iff]
    intro x hx
    obtain ⟨j, hj⟩ := List.mem_iff_getElem?.1 hx
    exact hb j x hj
  rw [this]
theorem sidx_ge {α : Type} (p : α → Bool) (l : List α) : decide (sidx p l ≥ 0) = l.any p := by
  unfold sidx
  cases h : l.findIdx? p with
  | none =>
    have : l.any p = false := by
      rw [List.findIdx?_eq_none_iff] at h
      rw [List.any_eq_false]
      intro x hx
      simp [h x hx]
    rw [this]
    rfl
  | some i =>
    have : l.any p = true := by
      rw [List.findIdx?_eq_some_iff_getElem] at h
      obtain ⟨h1, h2, _⟩ := h
      exact List.any_eq_true.2 ⟨_, List.getElem_mem h1, h2⟩
    rw [this]
    simp
theorem sindex_ok (l : List Int) (x : Int) : sindex_vc l x (fun r => r = sidx (fun q => x == q) l) := by
  intro hl
  refine rg0 hl (fun k => ∀ j y, j < k → l[j]? = some y → (x == y) = false) (fun j y h => absurd h (Nat.not_lt_zero _)) ?_ ?_
  · intro k q hk hq hj inv mu hn
    refine ⟨fun h => (sidx_at _ l k q hq h hj).symm, fun h => hn fun j y hj1 hy => ?_⟩
    rcases Nat.lt_or_ge j k with h1 | h1
    · exact hj j y h1 hy
    · have : j = k := by omega
      subst this
      rw [hq] at hy
      cases hy
      exact h
  · intro hj
    refine (sidx_none _ l fun j y hy => hj j y (List.getElem?_eq_some_iff.1 hy).1 hy).symm
def scontainsS (l : List Int) (x : Int) : Bool := l.any fun q => x == q
theorem scontains_ok (l : List Int) (x : Int) : scontains_vc l x (fun r => r = scontainsS l x) := fun _ => sindex_mono (fun r h => by subst h; exact sidx_ge _ l) (sindex_ok l x)
def fnameS (f : Frame) : List UInt8 := if f.Long = false then (wr 11 f.ID.toNat ++ fbit f.Remote) ++ [48] else ((wr 11 (f.ID.toNat / 2 ^ 18) ++ [49, 49]) ++ wr 18 f.ID.toNat) ++ fbit f.Remote
theorem fbit_len (b : Bool) : (fbit b).length = 1 := by cases b <;> rfl
theorem fbit_row (b : Bool) : isRow (fbit b) = true := by cases b <;> rfl
theorem fname_ok (f : Frame) (h : 0 ≤ f.ID ∧ f.ID ≤ 536870911) : fname_vc f (fun r => r = fnameS f) := by
  intro hl
  have p62 : (2 : Int) ^ 62 = 4611686018427387904 := rfl
  have e1 : wu64 f.ID = f.ID := wu64_eq _ (by omega)
  have e2 : bShr .i64 f.ID 18 = ((f.ID.toNat / 2 ^ 18 : Nat) : Int) := by
    have := shrN f.ID.toNat 18 (by omega)
    rw [show ((f.ID.toNat : Nat) : Int) = f.ID by omega] at this
    exact this
  have hd : f.ID.toNat / 2 ^ 18 ≤ f.ID.toNat := Nat.div_le_self _ _
  have e3 : wu64 (bShr .i64 f.ID 18) = ((f.ID.toNat / 2 ^ 18 : Nat) : Int) := by rw [e2]; exact wu64_eq _ (by omega)
  have b1 : ∀ n s : Int, (bwriteS n s).length = s.toNat := fun n s => wr_length _ _
  have b2 := fbit_len f.Remote
  rw [e1, e3]
  refine ⟨fun h1 => ⟨by omega, by rw [b1, b2]; decide, by rw [List.length_append, b1, b2]; decide, ?_⟩, fun h1 => ⟨by omega, by rw [b1]; decide, by omega, by rw [List.length_append, b1, b1]; decide, by rw [List.length_append, List.length_append, b1, b1, b2]; decide, ?_⟩⟩
  · unfold fnameS
    rw [if_pos (by simpa using h1)]
    rfl
  · unfold fnameS
    rw [if_neg (by simpa using h1)]
    unfold bwriteS
    rw [Int.toNat_natCast]
    rfl
theorem fnameS_len (f : Frame) : (fnameS f).length = if f.Long = false then 13 else 32 := by
  unfold fnameS
  split <;> simp [wr_length, fbit_len]
theorem fnameS_row (f : Frame) : isRow (fnameS f) = true := by
  unfold fnameS
  split <;> simp only [isRow_append, wr_row, fbit_row] <;> rfl
def dasksS (t : Task) (x : Int) (at_ : Bool) : Int := if at_ = true then w64 (w64 ((w64 (x + t.Jitter)).tdiv t.Every) + 1) else w64 ((w64 (w64 (w64 (x + t.Jitter) + t.Every) - 1)).tdiv t.Every)
theorem dasks_ok (t : Task) (x : Int) (a : Bool) (h : t.Every ≠ 0) : dasks_vc t x a (fun r => r = dasksS t x a) := by
  unfold dasksS
  refine ⟨fun h1 => ⟨h, by rw [if_pos h1]⟩, fun h1 => ⟨h, by rw [if_neg (by simp [h1])]⟩⟩
def tok (t : Task) : Bool := decide (0 ≤ t.ID) && decide (t.ID ≤ 2047) && decide (1 ≤ t.Every) && decide (t.Every ≤ 1000000) && decide (0 ≤ t.Late) && decide (t.Late ≤ 1000000) && decide (0 ≤ t.Jitter) && decide (t.Jitter < t.Every) && decide (0 ≤ t.Bytes) && decide (t.Bytes ≤ 8)
theorem tok_spec {t : Task} (h : tok t = true) : 0 ≤ t.ID ∧ t.ID ≤ 2047 ∧ 1 ≤ t.Every ∧ t.Every ≤ 1000000 ∧ 0 ≤ t.Late ∧ t.Late ≤ 1000000 ∧ 0 ≤ t.Jitter ∧ t.Jitter < t.Every ∧ 0 ≤ t.Bytes ∧ t.Bytes ≤ 8 := by
  simp only [tok, Bool.and_eq_true, decide_eq_true_eq] at h
  omega
def dchk : Int → List Task → Int
  | _, [] => 0
  | last, t :: r => if tok t = false then 3 else if t.ID ≤ last then 4 else dchk t.ID r
def dcheckS (l : List Task) : Int := if 20 < l.length then 2 else dchk (-1) l
theorem dcheck_ok (l : List Task) : dcheck_vc l (fun r => r = dcheckS l) := by
  intro hl
  refine ⟨fun h => ?_, fun h => ?_⟩
  · unfold dcheckS
    rw [if_pos (by simp at h; omega)]
  · have hn : ¬ 20 < l.length := by simp at h; omega
    have hS : dcheckS l = dchk (-1) l := by unfold dcheckS; rw [if_neg hn]
    rw [hS]
    refine rg1b hl (fun k last => dchk last (l.drop k) = dchk (-1) l) rfl ?_ ?_
    · intro k last q hk hq hj inv mu hn2
      rw [drop_this l k q hq, dchk] at hj
      refine ⟨fun h1 => ?_, fun h1 => ?_⟩
      · have : tok q = false := by
          unfold tok
          simp at h1 ⊢
          omega
        rw [if_pos this] at hj
        exact hj
      · have : tok q = true := by
          unfold tok
          simp at h1 ⊢
          omega
        rw [if_neg (by simp [this])] at hj
        refine ⟨fun h2 => ?_, fun h2 => ?_⟩
        · rw [if_pos (by simpa using h2)] at hj
          exact hj
        · rw [if_neg (by simpa using h2)] at hj
          exact hn2 _ hj
    · intro last hj
      rw [List.drop_length] at hj
      exact hj
def tcloneS (l : List Task) : List Task := l
theorem tclone_ok (l : List Task) (h : l.length * 40 ≤ 140737488355328) : tclone_vc l (fun r => r = tcloneS l) := by
  intro _ nb hnb
  refine ⟨fun h1 => ?_, fun _ => ⟨by simp; omega, by simp [tcloneS]⟩⟩
  by_cases e : l = []
  · rw [e]; rfl
  · rw [hnb e] at h1; cases h1
def fixN : Nat → Int → (Int → Int) → Int
  | 0, _, _ => -1
  | k + 1, x, g => if 200000 < g x then -1 else if g x = x then g x else fixN k (g x) g
def dfixS (x : Int) (g : Int → Int) : Int := fixN 200002 x g
def fixpre (x : Int) (g : Int → Int) : Prop := 0 ≤ x ∧ x ≤ 200000 ∧ x ≤ g x ∧ ∀ y z, 0 ≤ y → y ≤ z → z ≤ 200000 → g y ≤ g z
theorem fixN_succ (k : Nat) (x : Int) (g : Int → Int) : fixN (k + 1) x g = if 200000 < g x then -1 else if g x = x then g x else fixN k (g x) g := rfl
attribute [irreducible] fixN
theorem dfix_ok (x : Int) (g : Int → Int) (h : fixpre x g) : dfix_vc x g (fun r => r = dfixS x g) := by
  obtain ⟨h0, h1, h2, h3⟩ := h
  refine ⟨fun y => ∃ k : Nat, (k : Int) ≤ y ∧ 0 ≤ y ∧ y ≤ 200000 ∧ y ≤ g y ∧ fixN (200002 - k) y g = dfixS x g, fun y => (200001 - y).toNat, ⟨0, by omega, h0, h1, h2, rfl⟩, ?_⟩
  rintro y ⟨k, hk, hy0, hy1, hy2, hf⟩
  obtain ⟨m, hm⟩ : ∃ m, 200002 - k = m + 1 := ⟨200001 - k, by omega⟩
  rw [hm, fixN_succ] at hf
  refine ⟨fun h4 => ?_, fun h4 => ⟨fun h5 => ?_, fun h5 => ?_⟩⟩
  · rw [if_pos (by simpa using h4)] at hf
    exact hf
  · rw [if_neg (by simpa using h4), if_pos (by simpa using h5)] at hf
    exact hf
  · rw [if_neg (by simpa using h4), if_neg (by simpa using h5)] at hf
    have h4 : g y ≤ 200000 := by simpa using h4
    have h5 : ¬ g y = y := by simpa using h5
    have hm2 : 200002 - (k + 1) = m := by omega
    refine ⟨⟨k + 1, by omega, by omega, h4, h3 y (g y) hy0 hy2 h4, by rw [hm2]; exact hf⟩, by (try dsimp only); omega⟩
def sindexS (l : List Int) (x : Int) : Int := sidx (fun q => x == q) l
theorem sindex_ok2 (l : List Int) (x : Int) : sindex_vc l x (fun r => r = sindexS l x) := sindex_ok l x

end Go.Proofs.Ytginlmgkimfjmaa
set_option linter.unusedVariables false
set_option linter.unusedSimpArgs false
namespace Go.Proofs.Ytginlmgkimfjmaa
open Go.Sy Go.RowKit
def fcheckfr_vc (u0 : Frame) (K : Int → Prop) : Prop :=
  (u0.Data.length ≤ 140737488355328 →
    (((((decide (u0.ID < 0)) || ((!u0.Long) && (decide (u0.ID > 2047)))) || (decide (u0.ID > 536870911))) = true →
      (K 3)) ∧
    ((((decide (u0.ID < 0)) || ((!u0.Long) && (decide (u0.ID > 2047)))) || (decide (u0.ID > 536870911))) = false →
      (((u0.Remote && (u0.Fast || (decide ((u0.Data.length : Int) > 0)))) = true →
        (K 4)) ∧
      ((u0.Remote && (u0.Fast || (decide ((u0.Data.length : Int) > 0)))) = false →
        (((((decide (u0.Size < 0)) || (decide (u0.Size > 8))) || ((!u0.Remote) && (u0.Size != 0))) = true →
          (K 3)) ∧
        ((((decide (u0.Size < 0)) || (decide (u0.Size > 8))) || ((!u0.Remote) && (u0.Size != 0))) = false →
          ((((decide ((u0.Data.length : Int) > 64)) || ((!u0.Fast) && (decide ((u0.Data.length : Int) > 8)))) = true →
            (K 2)) ∧
          (((decide ((u0.Data.length : Int) > 64)) || ((!u0.Fast) && (decide ((u0.Data.length : Int) > 8)))) = false →
            (((!(scontainsS fsizes (u0.Data.length : Int))) = true →
              (K 4)) ∧
            ((!(scontainsS fsizes (u0.Data.length : Int))) = false →
              (K 0))))))))))))
def fcheckfr (u0 : Frame) : Int :=
  bif ((decide (u0.ID < 0)) || ((!u0.Long) && (decide (u0.ID > 2047)))) || (decide (u0.ID > 536870911)) then 3
    else bif u0.Remote && (u0.Fast || (decide ((u0.Data.length : Int) > 0))) then 4
    else bif ((decide (u0.Size < 0)) || (decide (u0.Size > 8))) || ((!u0.Remote) && (u0.Size != 0)) then 3
    else bif (decide ((u0.Data.length : Int) > 64)) || ((!u0.Fast) && (decide ((u0.Data.length : Int) > 8))) then 2
    else bif !(scontainsS fsizes (u0.Data.length : Int)) then 4
    else 0
theorem fcheckfr_ok (u0 : Frame) : fcheckfr_vc u0 (fun r => r = fcheckfr u0) := (fun _ => ⟨fun h0 => (by simp only [fcheckfr, h0, cond_true, cond_false]), fun h0 => ⟨fun h1 => (by simp only [fcheckfr, h0, h1, cond_true, cond_false]), fun h1 => ⟨fun h2 => (by simp only [fcheckfr, h0, h1, h2, cond_true, cond_false]), fun h2 => ⟨fun h3 => (by simp only [fcheckfr, h0, h1, h2, h3, cond_true, cond_false]), fun h3 => ⟨fun h4 => (by simp only [fcheckfr, h0, h1, h2, h3, h4, cond_true, cond_false]), fun h4 => (by simp only [fcheckfr, h0, h1, h2, h3, h4, cond_true, cond_false])⟩⟩⟩⟩⟩)

def csize_vc (u0 : Int) (K : (Int × Int) → Prop) : Prop :=
  ((((decide (u0 < 0)) || (decide (u0 ≥ 5))) = true →
      (K (0, 8))) ∧
    (((decide (u0 < 0)) || (decide (u0 ≥ 5))) = false →
      ((0 ≤ u0 ∧ u0 < 5) ∧
      (K (([ckinds.1.Size, ckinds.2.1.Size, ckinds.2.2.1.Size, ckinds.2.2.2.1.Size, ckinds.2.2.2.2.Size] : List Int).getD u0.toNat 0, 0)))))
def csize (u0 : Int) : Int × Int :=
  bif (decide (u0 < 0)) || (decide (u0 ≥ 5)) then (0, 8)
    else (([ckinds.1.Size, ckinds.2.1.Size, ckinds.2.2.1.Size, ckinds.2.2.2.1.Size, ckinds.2.2.2.2.Size] : List Int).getD u0.toNat 0, 0)
theorem csize_ok (u0 : Int) : csize_vc u0 (fun r => r = csize u0) := ⟨fun h0 => (by simp only [csize, h0, cond_true, cond_false]), fun h0 => ⟨(by (try simp at h0); omega), (by simp only [csize, h0, cond_true, cond_false])⟩⟩

def fhead_vc (u0 : Frame) (K : (List UInt8) → Prop) : Prop :=
  (u0.Data.length ≤ 140737488355328 →
    (((!u0.Remote) = true →
      ((0 ≤ u0.ID ∧ u0.ID ≤ 536870911) ∧
      (((([48] : List UInt8).length : Int) + ((fnameS u0).length : Int) ≤ 9223372036854775807) ∧
      ((u0.Fast = true →
        ((((([48] : List UInt8) ++ (fnameS u0)).length : Int) + (([49, 48, 49, 48] : List UInt8).length : Int) ≤ 9223372036854775807) ∧
        ((∀ x ∈ u0.Data, 0 ≤ x ∧ x ≤ 255) ∧
        ((0 ≤ (4 : Int) ∧ (4 : Int) ≤ 64 ∧ 0 ≤ (wu64 (sindexS fsizes (u0.Data.length : Int))) ∧ (wu64 (sindexS fsizes (u0.Data.length : Int))) < 2 ^ 62) ∧
        (((((([48] : List UInt8) ++ (fnameS u0)) ++ ([49, 48, 49, 48] : List UInt8)).length : Int) + ((bwriteS (wu64 (sindexS fsizes (u0.Data.length : Int))) 4).length : Int) ≤ 9223372036854775807) ∧
        ((((((([48] : List UInt8) ++ (fnameS u0)) ++ ([49, 48, 49, 48] : List UInt8)) ++ (bwriteS (wu64 (sindexS fsizes (u0.Data.length : Int))) 4)).length : Int) + ((bofS u0.Data).1.length : Int) ≤ 9223372036854775807) ∧
        (K ((((([48] : List UInt8) ++ (fnameS u0)) ++ ([49, 48, 49, 48] : List UInt8)) ++ (bwriteS (wu64 (sindexS fsizes (u0.Data.length : Int))) 4)) ++ (bofS u0.Data).1)))))))) ∧
      (u0.Fast = false →
        ((u0.Long = true →
          ((((([48] : List UInt8) ++ (fnameS u0)).length : Int) + (([48, 48] : List UInt8).length : Int) ≤ 9223372036854775807) ∧
          ((∀ x ∈ u0.Data, 0 ≤ x ∧ x ≤ 255) ∧
          ((0 ≤ (4 : Int) ∧ (4 : Int) ≤ 64 ∧ 0 ≤ (wu64 (sindexS fsizes (u0.Data.length : Int))) ∧ (wu64 (sindexS fsizes (u0.Data.length : Int))) < 2 ^ 62) ∧
          (((((([48] : List UInt8) ++ (fnameS u0)) ++ ([48, 48] : List UInt8)).length : Int) + ((bwriteS (wu64 (sindexS fsizes (u0.Data.length : Int))) 4).length : Int) ≤ 9223372036854775807) ∧
          ((((((([48] : List UInt8) ++ (fnameS u0)) ++ ([48, 48] : List UInt8)) ++ (bwriteS (wu64 (sindexS fsizes (u0.Data.length : Int))) 4)).length : Int) + ((bofS u0.Data).1.length : Int) ≤ 9223372036854775807) ∧
          (K ((((([48] : List UInt8) ++ (fnameS u0)) ++ ([48, 48] : List UInt8)) ++ (bwriteS (wu64 (sindexS fsizes (u0.Data.length : Int))) 4)) ++ (bofS u0.Data).1)))))))) ∧
        (u0.Long = false →
          ((((([48] : List UInt8) ++ (fnameS u0)).length : Int) + (([48] : List UInt8).length : Int) ≤ 9223372036854775807) ∧
          ((∀ x ∈ u0.Data, 0 ≤ x ∧ x ≤ 255) ∧
          ((0 ≤ (4 : Int) ∧ (4 : Int) ≤ 64 ∧ 0 ≤ (wu64 (sindexS fsizes (u0.Data.length : Int))) ∧ (wu64 (sindexS fsizes (u0.Data.length : Int))) < 2 ^ 62) ∧
          (((((([48] : List UInt8) ++ (fnameS u0)) ++ ([48] : List UInt8)).length : Int) + ((bwriteS (wu64 (sindexS fsizes (u0.Data.length : Int))) 4).length : Int) ≤ 9223372036854775807) ∧
          ((((((([48] : List UInt8) ++ (fnameS u0)) ++ ([48] : List UInt8)) ++ (bwriteS (wu64 (sindexS fsizes (u0.Data.length : Int))) 4)).length : Int) + ((bofS u0.Data).1.length : Int) ≤ 9223372036854775807) ∧
          (K ((((([48] : List UInt8) ++ (fnameS u0)) ++ ([48] : List UInt8)) ++ (bwriteS (wu64 (sindexS fsizes (u0.Data.length : Int))) 4)) ++ (bofS u0.Data).1)))))))))))))) ∧
    ((!u0.Remote) = false →
      ((0 ≤ u0.ID ∧ u0.ID ≤ 536870911) ∧
      (((([48] : List UInt8).length : Int) + ((fnameS u0).length : Int) ≤ 9223372036854775807) ∧
      ((u0.Fast = true →
        ((((([48] : List UInt8) ++ (fnameS u0)).length : Int) + (([49, 48, 49, 48] : List UInt8).length : Int) ≤ 9223372036854775807) ∧
        ((∀ x ∈ u0.Data, 0 ≤ x ∧ x ≤ 255) ∧
        ((0 ≤ (4 : Int) ∧ (4 : Int) ≤ 64 ∧ 0 ≤ (wu64 u0.Size) ∧ (wu64 u0.Size) < 2 ^ 62) ∧
        (((((([48] : List UInt8) ++ (fnameS u0)) ++ ([49, 48, 49, 48] : List UInt8)).length : Int) + ((bwriteS (wu64 u0.Size) 4).length : Int) ≤ 9223372036854775807) ∧
        ((((((([48] : List UInt8) ++ (fnameS u0)) ++ ([49, 48, 49, 48] : List UInt8)) ++ (bwriteS (wu64 u0.Size) 4)).length : Int) + ((bofS u0.Data).1.length : Int) ≤ 9223372036854775807) ∧
        (K ((((([48] : List UInt8) ++ (fnameS u0)) ++ ([49, 48, 49, 48] : List UInt8)) ++ (bwriteS (wu64 u0.Size) 4)) ++ (bofS u0.Data).1)))))))) ∧
      (u0.Fast = false →
        ((u0.Long = true →
          ((((([48] : List UInt8) ++ (fnameS u0)).length : Int) + (([48, 48] : List UInt8).length : Int) ≤ 9223372036854775807) ∧
          ((∀ x ∈ u0.Data, 0 ≤ x ∧ x ≤ 255) ∧
          ((0 ≤ (4 : Int) ∧ (4 : Int) ≤ 64 ∧ 0 ≤ (wu64 u0.Size) ∧ (wu64 u0.Size) < 2 ^ 62) ∧
          (((((([48] : List UInt8) ++ (fnameS u0)) ++ ([48, 48] : List UInt8)).length : Int) + ((bwriteS (wu64 u0.Size) 4).length : Int) ≤ 9223372036854775807) ∧
          ((((((([48] : List UInt8) ++ (fnameS u0)) ++ ([48, 48] : List UInt8)) ++ (bwriteS (wu64 u0.Size) 4)).length : Int) + ((bofS u0.Data).1.length : Int) ≤ 9223372036854775807) ∧
          (K ((((([48] : List UInt8) ++ (fnameS u0)) ++ ([48, 48] : List UInt8)) ++ (bwriteS (wu64 u0.Size) 4)) ++ (bofS u0.Data).1)))))))) ∧
        (u0.Long = false →
          ((((([48] : List UInt8) ++ (fnameS u0)).length : Int) + (([48] : List UInt8).length : Int) ≤ 9223372036854775807) ∧
          ((∀ x ∈ u0.Data, 0 ≤ x ∧ x ≤ 255) ∧
          ((0 ≤ (4 : Int) ∧ (4 : Int) ≤ 64 ∧ 0 ≤ (wu64 u0.Size) ∧ (wu64 u0.Size) < 2 ^ 62) ∧
          (((((([48] : List UInt8) ++ (fnameS u0)) ++ ([48] : List UInt8)).length : Int) + ((bwriteS (wu64 u0.Size) 4).length : Int) ≤ 9223372036854775807) ∧
          ((((((([48] : List UInt8) ++ (fnameS u0)) ++ ([48] : List UInt8)) ++ (bwriteS (wu64 u0.Size) 4)).length : Int) + ((bofS u0.Data).1.length : Int) ≤ 9223372036854775807) ∧
          (K ((((([48] : List UInt8) ++ (fnameS u0)) ++ ([48] : List UInt8)) ++ (bwriteS (wu64 u0.Size) 4)) ++ (bofS u0.Data).1))))))))))))))))

/-! Pure proofs: no program in sight. -/
theorem fcheckfr_zero {f : Frame} (h : fcheckfr f = 0) : 0 ≤ f.ID ∧ f.ID ≤ 536870911 ∧ (f.Long = false → f.ID ≤ 2047) ∧ (f.Remote = true → f.Fast = false ∧ f.Data.length = 0) ∧ 0 ≤ f.Size ∧ f.Size ≤ 8 ∧ (f.Remote = false → f.Size = 0) ∧ f.Data.length ≤ 64 ∧ (f.Fast = false → f.Data.length ≤ 8) ∧ scontainsS fsizes (f.Data.length : Int) = true := by
  unfold fcheckfr at h
  cases h1 : ((decide (f.ID < 0)) || ((!f.Long) && (decide (f.ID > 2047)))) || (decide (f.ID > 536870911)) with
  | true => rw [h1] at h; cases h
  | false =>
    rw [h1, cond_false] at h
    cases h2 : f.Remote && (f.Fast || (decide ((f.Data.length : Int) > 0))) with
    | true => rw [h2] at h; cases h
    | false =>
      rw [h2, cond_false] at h
      cases h3 : ((decide (f.Size < 0)) || (decide (f.Size > 8))) || ((!f.Remote) && (f.Size != 0)) with
      | true => rw [h3] at h; cases h
      | false =>
        rw [h3, cond_false] at h
        cases h4 : (decide ((f.Data.length : Int) > 64)) || ((!f.Fast) && (decide ((f.Data.length : Int) > 8))) with
        | true => rw [h4] at h; cases h
        | false =>
          rw [h4, cond_false] at h
          cases h5 : !(scontainsS fsizes (f.Data.length : Int)) with
          | true => rw [h5] at h; cases h
          | false =>
            simp at h1 h2 h3 h4 h5
            refine ⟨by omega, by omega, fun e => by have := h1.1.2 e; omega, fun e => ?_, by omega, by omega, fun e => h3.2 e, by omega, fun e => by have := h4.2 e; omega, h5⟩
            have := h2 e
            exact ⟨this.1, by simp [this.2]⟩
/-- What must hold of a frame whose head is asked for. -/
def fheadpre (f : Frame) : Prop := 0 ≤ f.ID ∧ f.ID ≤ 536870911 ∧ 0 ≤ f.Size ∧ f.Size ≤ 8 ∧ f.Data.length ≤ 64 ∧ (∀ x ∈ f.Data, 0 ≤ x ∧ x ≤ 255) ∧ (f.Remote = false → scontainsS fsizes (f.Data.length : Int) = true)
def fcode (f : Frame) : Nat := (if f.Remote = false then sindexS fsizes (f.Data.length : Int) else f.Size).toNat
def fctl (f : Frame) : List UInt8 := if f.Fast = true then [49, 48, 49, 48] else if f.Long = true then [48, 48] else [48]
def fheadS (f : Frame) : List UInt8 := ((([48] ++ fnameS f) ++ fctl f) ++ wr 4 (fcode f)) ++ ofb f.Data
theorem sindexS_sizes (n : Int) : -1 ≤ sindexS fsizes n ∧ sindexS fsizes n ≤ 15 := by
  unfold sindexS sidx
  cases h : fsizes.findIdx? (fun q => n == q) with
  | none => dsimp only; omega
  | some i =>
    rw [List.findIdx?_eq_some_iff_getElem] at h
    obtain ⟨h1, _⟩ := h
    have : fsizes.length = 16 := rfl
    dsimp only
    omega
theorem fhead_ok (f : Frame) (h : fheadpre f) : fhead_vc f (fun r => r = fheadS f) := by
  obtain ⟨h1, h2, h3, h4, h5, h6, h7⟩ := h
  intro hl
  have p62 : (2 : Int) ^ 62 = 4611686018427387904 := rfl
  have hlb : ∀ n s : Int, (bwriteS n s).length = s.toNat := fun n s => wr_length _ _
  have hof : (bofS f.Data).1 = ofb f.Data := by unfold bofS; rw [if_neg (by omega)]
  have hofl := ofb_length f.Data
  have hnl : (fnameS f).length ≤ 32 := by rw [fnameS_len]; split <;> omega
  have key : ∀ c : Int, 0 ≤ c → c < 16 → (f.Remote = false → c = sindexS fsizes (f.Data.length : Int)) → (f.Remote = true → c = f.Size) → wu64 c = c ∧ bwriteS c 4 = wr 4 (fcode f) := by
    intro c c0 c1 c2 c3
    refine ⟨wu64_eq _ (by omega), ?_⟩
    have : c.toNat = fcode f := by
      unfold fcode
      cases hr : f.Remote with
      | false => rw [if_pos rfl, c2 hr]
      | true => rw [if_neg (by simp), c3 hr]
    unfold bwriteS
    rw [this]
    rfl
  have hs := sindexS_sizes (f.Data.length : Int)
  refine ⟨fun h8 => ⟨⟨h1, h2⟩, by simp only [List.length_cons, List.length_nil]; omega, ?_⟩, fun h8 => ⟨⟨h1, h2⟩, by simp only [List.length_cons, List.length_nil]; omega, ?_⟩⟩
  · have hr : f.Remote = false := by simpa using h8
    have hge : 0 ≤ sindexS fsizes (f.Data.length : Int) := by
      have := sidx_ge (fun q => (f.Data.length : Int) == q) fsizes
      have h9 := h7 hr
      unfold scontainsS at h9
      rw [h9] at this
      exact of_decide_eq_true this
    obtain ⟨k1, k2⟩ := key (sindexS fsizes (f.Data.length : Int)) hge (by omega) (fun _ => rfl) (fun e => by rw [hr] at e; cases e)
    rw [k1, hof]
    refine ⟨fun h10 => ⟨by simp; omega, h6, by omega, by simp [hlb]; omega, by simp [hlb, hofl]; omega, ?_⟩, fun h10 => ⟨fun h11 => ⟨by simp; omega, h6, by omega, by simp [hlb]; omega, by simp [hlb, hofl]; omega, ?_⟩, fun h11 => ⟨by simp; omega, h6, by omega, by simp [hlb]; omega, by simp [hlb, hofl]; omega, ?_⟩⟩⟩
    all_goals
      rw [k2]
      unfold fheadS fctl
    · rw [if_pos h10]
    · rw [if_neg (by simp [h10]), if_pos h11]
    · rw [if_neg (by simp [h10]), if_neg (by simp [h11])]
  · have hr : f.Remote = true := by simpa using h8
    obtain ⟨k1, k2⟩ := key f.Size h3 (by omega) (fun e => by rw [hr] at e; cases e) (fun _ => rfl)
    rw [k1, hof]
    refine ⟨fun h10 => ⟨by simp; omega, h6, by omega, by simp [hlb]; omega, by simp [hlb, hofl]; omega, ?_⟩, fun h10 => ⟨fun h11 => ⟨by simp; omega, h6, by omega, by simp [hlb]; omega, by simp [hlb, hofl]; omega, ?_⟩, fun h11 => ⟨by simp; omega, h6, by omega, by simp [hlb]; omega, by simp [hlb, hofl]; omega, ?_⟩⟩⟩
    all_goals
      rw [k2]
      unfold fheadS fctl
    · rw [if_pos h10]
    · rw [if_neg (by simp [h10]), if_pos h11]
    · rw [if_neg (by simp [h10]), if_neg (by simp [h11])]

end Go.Proofs.Ytginlmgkimfjmaa
set_option linter.unusedVariables false
set_option linter.unusedSimpArgs false
namespace Go.Proofs.Ytginlmgkimfjmaa
open Go.Sy Go.RowKit
def flongest_vc (u0 : Bool) (u1 : Bool) (u2 : Int) (K : (Int × Int) → Prop) : Prop :=
  ((((decide (u2 < 0)) || (decide (u2 > 64))) = true →
      (K (0, 2))) ∧
    (((decide (u2 < 0)) || (decide (u2 > 64))) = false →
      ((0 ≤ u2 ∧ u2 ≤ u2 ∧ u2 * 1 ≤ 140737488355328) ∧
      ((((fcheckfr (⟨0, u0, u1, false, 0, (List.replicate u2.toNat (0 : Int))⟩ : Frame)) != 0) = true →
        (K (0, (fcheckfr (⟨0, u0, u1, false, 0, (List.replicate u2.toNat (0 : Int))⟩ : Frame))))) ∧
      (((fcheckfr (⟨0, u0, u1, false, 0, (List.replicate u2.toNat (0 : Int))⟩ : Frame)) != 0) = false →
        ((fheadpre (⟨0, u0, u1, false, 0, (List.replicate u2.toNat (0 : Int))⟩ : Frame)) ∧
        (((!u1) = true →
          (K (w64 ((smost (w64 (((fheadS (⟨0, u0, u1, false, 0, (List.replicate u2.toNat (0 : Int))⟩ : Frame)).length : Int) + 15))).1 + 10), 0))) ∧
        ((!u1) = false →
          (K (w64 ((w64 ((smost ((fheadS (⟨0, u0, u1, false, 0, (List.replicate u2.toNat (0 : Int))⟩ : Frame)).length : Int)).1 + (w64 ((w64 (4 + (csize (fkind (⟨0, u0, u1, false, 0, (List.replicate u2.toNat (0 : Int))⟩ : Frame))).1)) + (w64 ((w64 ((w64 (4 + (csize (fkind (⟨0, u0, u1, false, 0, (List.replicate u2.toNat (0 : Int))⟩ : Frame))).1)) + 3)).tdiv 4)))))) + 10), 0))))))))))

/-! Pure proofs: no program in sight. -/
abbrev lframe (lo fa : Bool) (n : Int) : Frame := ⟨0, lo, fa, false, 0, List.replicate n.toNat (0 : Int)⟩
def flongestS (lo fa : Bool) (n : Int) : Int × Int :=
  if n < 0 ∨ 64 < n then (0, 2) else if fcheckfr (lframe lo fa n) ≠ 0 then (0, fcheckfr (lframe lo fa n)) else
  if fa = false then (w64 ((smost (w64 (((fheadS (lframe lo fa n)).length : Int) + 15))).1 + 10), 0)
  else (w64 (w64 ((smost ((fheadS (lframe lo fa n)).length : Int)).1 + w64 (w64 (4 + (csize (fkind (lframe lo fa n))).1) + w64 ((w64 (w64 (4 + (csize (fkind (lframe lo fa n))).1) + 3)).tdiv 4))) + 10), 0)
theorem flongest_ok (lo fa : Bool) (n : Int) : flongest_vc lo fa n (fun r => r = flongestS lo fa n) := by
  refine ⟨fun h => ?_, fun h => ⟨?_, fun h1 => ?_, fun h1 => ⟨?_, fun h2 => ?_, fun h2 => ?_⟩⟩⟩
  · unfold flongestS
    rw [if_pos (by simpa using h)]
  · simp at h; omega
  all_goals
    have h : ¬ (n < 0 ∨ 64 < n) := by simp at h; omega
  · have h1 : fcheckfr (lframe lo fa n) ≠ 0 := by simpa using h1
    unfold flongestS
    rw [if_neg h, if_pos h1]
  · have h1 : fcheckfr (lframe lo fa n) = 0 := by simpa using h1
    obtain ⟨c1, c2, c3, c4, c5, c6, c7, c8, c9, c10⟩ := fcheckfr_zero h1
    refine ⟨c1, c2, c5, c6, c8, fun x hx => ?_, fun _ => c10⟩
    have : x = 0 := List.eq_of_mem_replicate hx
    omega
  · have h1' : fcheckfr (lframe lo fa n) = 0 := by simpa using h1
    have h1 : ¬ fcheckfr (lframe lo fa n) ≠ 0 := fun h => h h1'
    unfold flongestS
    rw [if_neg h, if_neg h1, if_pos (by simpa using h2)]
  · have h1' : fcheckfr (lframe lo fa n) = 0 := by simpa using h1
    have h1 : ¬ fcheckfr (lframe lo fa n) ≠ 0 := fun h => h h1'
    unfold flongestS
    rw [if_neg h, if_neg h1, if_neg (by simpa using h2)]

end Go.Proofs.Ytginlmgkimfjmaa
set_option linter.unusedVariables false
set_option linter.unusedSimpArgs false
namespace Go.Proofs.Ytginlmgkimfjmaa
open Go.Sy Go.RowKit
def dlong_vc (u0 : Task) (K : Int → Prop) : Prop :=
  (K (w64 ((flongestS false false u0.Bytes).1 + 3)))

/-! Pure proofs: no program in sight. -/
def dlongS (t : Task) : Int := w64 ((flongestS false false t.Bytes).1 + 3)
theorem dlong_ok (t : Task) : dlong_vc t (fun r => r = dlongS t) := rfl
def longB (b : Int) : Int := 34 + 8 * b + (33 + 8 * b) / 4 + 13
theorem longs : ∀ b : Fin 9, w64 ((flongestS false false (b.val : Int)).1 + 3) = longB b.val := by decide +kernel
theorem dlongS_eq {t : Task} (h : tok t = true) : dlongS t = longB t.Bytes ∧ 55 ≤ dlongS t ∧ dlongS t ≤ 135 := by
  have hb := tok_spec h
  have e := longs ⟨t.Bytes.toNat, by omega⟩
  have e2 : ((t.Bytes.toNat : Nat) : Int) = t.Bytes := by omega
  dsimp only at e
  rw [e2] at e
  have e3 : dlongS t = longB t.Bytes := e
  rw [e3]
  refine ⟨rfl, ?_⟩
  unfold longB
  omega
attribute [irreducible] dlongS

end Go.Proofs.Ytginlmgkimfjmaa
set_option linter.unusedVariables false
set_option linter.unusedSimpArgs false
namespace Go.Proofs.Ytginlmgkimfjmaa
open Go.Sy Go.RowKit
def dtasks_vc  (K : (List Task) → Prop) : Prop :=
  (K ([(⟨1, 8, 1000, 1000, 0⟩ : Task), (⟨2, 8, 1000, 1000, 0⟩ : Task)] : List Task))

def dw1_vc (u0 : Int) (u1 : Int) (u2 : List Task) (u3 : Int) (K : Int → Prop) : Prop :=
  ((0 ≤ w64 (u3 + 1) ∧ w64 (u3 + 1) ≤ (u2.length : Int)) ∧
    (∃ inv41 : Int → Int → Prop, ∃ mu41 : Int → Int → Nat, inv41 u1 0 ∧
    (∀ (x6 : Int) (x15 : Int), inv41 x6 x15 →
    (((decide (x15 < ((u2.take (w64 (u3 + 1)).toNat).length : Int))) = true →
      ((0 ≤ x15 ∧ x15 < ((u2.take (w64 (u3 + 1)).toNat).length : Int)) ∧
      (∀ q65, (u2.take (w64 (u3 + 1)).toNat)[x15.toNat]? = some q65 →
      ((q65.Every ≠ 0) ∧
      (inv41 (w64 (x6 + (w64 ((dasksS q65 u0 false) * (dlongS q65))))) (w64 (x15 + 1)) ∧ mu41 (w64 (x6 + (w64 ((dasksS q65 u0 false) * (dlongS q65))))) (w64 (x15 + 1)) < mu41 x6 x15))))) ∧
    ((decide (x15 < ((u2.take (w64 (u3 + 1)).toNat).length : Int))) = false →
      (K x6))))))

def dw2_vc (u0 : Int) (u1 : Int) (u2 : Int) (u3 : Task) (u4 : List Task) (u5 : Int) (K : Int → Prop) : Prop :=
  ((0 ≤ u5 ∧ u5 ≤ (u4.length : Int)) ∧
    (∃ inv65 : Int → Int → Prop, ∃ mu65 : Int → Int → Nat, inv65 (w64 (u1 + (w64 (u2 * (dlongS u3))))) 0 ∧
    (∀ (x8 : Int) (x21 : Int), inv65 x8 x21 →
    (((decide (x21 < ((u4.take u5.toNat).length : Int))) = true →
      ((0 ≤ x21 ∧ x21 < ((u4.take u5.toNat).length : Int)) ∧
      (∀ q89, (u4.take u5.toNat)[x21.toNat]? = some q89 →
      ((q89.Every ≠ 0) ∧
      (inv65 (w64 (x8 + (w64 ((dasksS q89 u0 true) * (dlongS q89))))) (w64 (x21 + 1)) ∧ mu65 (w64 (x8 + (w64 ((dasksS q89 u0 true) * (dlongS q89))))) (w64 (x21 + 1)) < mu65 x8 x21))))) ∧
    ((decide (x21 < ((u4.take u5.toNat).length : Int))) = false →
      (K x8))))))

/-! Pure proofs: no program in sight. -/
theorem dchk_ok (l : List Task) : ∀ last, dchk last l = 0 → ∀ o ∈ l, tok o = true := by
  induction l with
  | nil => intro _ _ o ho; cases ho
  | cons t r ih =>
    intro last h o ho
    rw [dchk] at h
    by_cases h1 : tok t = false
    · rw [if_pos h1] at h; cases h
    · rw [if_neg h1] at h
      by_cases h2 : t.ID ≤ last
      · rw [if_pos h2] at h; cases h
      · rw [if_neg h2] at h
        rcases List.mem_cons.1 ho with rfl | ho
        · simpa using h1
        · exact ih t.ID h o ho
theorem dcheckS_zero {l : List Task} (h : dcheckS l = 0) : l.length ≤ 20 ∧ ∀ o ∈ l, tok o = true := by
  unfold dcheckS at h
  by_cases h1 : 20 < l.length
  · rw [if_pos h1] at h; cases h
  · rw [if_neg h1] at h
    exact ⟨by omega, dchk_ok l _ h⟩
def tasksS : List Task := [⟨1, 8, 1000, 1000, 0⟩, ⟨2, 8, 1000, 1000, 0⟩]
theorem dtasks_ok : dtasks_vc (fun r => r = tasksS) := rfl
def dstep (time : Int) (at_ : Bool) (x : Int) (o : Task) : Int := w64 (x + w64 (dasksS o time at_ * dlongS o))
def dw1S (time block : Int) (l : List Task) (i : Int) : Int := (l.take (i + 1).toNat).foldl (dstep time false) block
def dw2S (time block q : Int) (t : Task) (l : List Task) (i : Int) : Int := (l.take i.toNat).foldl (dstep time true) (w64 (block + w64 (q * dlongS t)))
theorem fold_drop {α β : Type} (f : β → α → β) (l : List α) (k : Nat) (q : α) (x : β) (hq : l[k]? = some q) : (l.drop k).foldl f x = (l.drop (k + 1)).foldl f (f x q) := by
  rw [drop_this l k q hq]; rfl
theorem dw1_ok (time block : Int) (l : List Task) (i : Int) (h : (0 ≤ i ∧ i < (l.length : Int)) ∧ (∀ o ∈ l, o.Every ≠ 0) ∧ l.length ≤ 1000000) : dw1_vc time block l i (fun r => r = dw1S time block l i) := by
  obtain ⟨h1, h2, h3⟩ := h
  have ew : w64 (i + 1) = i + 1 := w64_eq _ (by omega)
  unfold dw1_vc dw1S
  rw [ew]
  have hlen : (l.take (i + 1).toNat).length ≤ l.length := List.length_take_le' _ _
  refine ⟨by omega, rg1b (by omega) (fun k x => ((l.take (i + 1).toNat).drop k).foldl (dstep time false) x = (l.take (i + 1).toNat).foldl (dstep time false) block) rfl ?_ ?_⟩
  · intro k x q hk hq hj inv mu hn
    rw [fold_drop _ _ k q x hq] at hj
    exact ⟨h2 q (List.mem_of_mem_take (List.mem_of_getElem? hq)), hn _ hj⟩
  · intro x hj
    rw [List.drop_length] at hj
    exact hj
theorem dw2_ok (time block q : Int) (t : Task) (l : List Task) (i : Int) (h : (0 ≤ i ∧ i < (l.length : Int)) ∧ (∀ o ∈ l, o.Every ≠ 0) ∧ l.length ≤ 1000000) : dw2_vc time block q t l i (fun r => r = dw2S time block q t l i) := by
  obtain ⟨h1, h2, h3⟩ := h
  unfold dw2_vc dw2S
  have hlen : (l.take i.toNat).length ≤ l.length := List.length_take_le' _ _
  refine ⟨by omega, rg1b (by omega) (fun k x => ((l.take i.toNat).drop k).foldl (dstep time true) x = (l.take i.toNat).foldl (dstep time true) (w64 (block + w64 (q * dlongS t)))) rfl ?_ ?_⟩
  · intro k x y hk hq hj inv mu hn
    rw [fold_drop _ _ k y x hq] at hj
    exact ⟨h2 y (List.mem_of_mem_take (List.mem_of_getElem? hq)), hn _ hj⟩
  · intro x hj
    rw [List.drop_length] at hj
    exact hj

end Go.Proofs.Ytginlmgkimfjmaa
set_option linter.unusedVariables false
set_option linter.unusedSimpArgs false
namespace Go.Proofs.Ytginlmgkimfjmaa
open Go.Sy Go.RowKit
def dworst_vc (u0 : List Task) (u1 : Int) (K : Int → Prop) : Prop :=
  (u0.length ≤ 140737488355328 →
    ((0 ≤ u1 ∧ u1 < (u0.length : Int)) ∧
    (∀ q28, u0[u1.toNat]? = some q28 →
    ((0 ≤ w64 (u1 + 1) ∧ w64 (u1 + 1) ≤ (u0.length : Int)) ∧
    (∃ inv74 : Int → Int → Prop, ∃ mu74 : Int → Int → Nat, inv74 0 0 ∧
    (∀ (x22 : Int) (yb46c0 : Int), inv74 x22 yb46c0 →
    (((decide (x22 < ((u0.drop (w64 (u1 + 1)).toNat).length : Int))) = true →
      ((0 ≤ x22 ∧ x22 < ((u0.drop (w64 (u1 + 1)).toNat).length : Int)) ∧
      (∀ q98, (u0.drop (w64 (u1 + 1)).toNat)[x22.toNat]? = some q98 →
      (inv74 (w64 (x22 + 1)) (max yb46c0 (dlongS q98)) ∧ mu74 (w64 (x22 + 1)) (max yb46c0 (dlongS q98)) < mu74 x22 yb46c0)))) ∧
    ((decide (x22 < ((u0.drop (w64 (u1 + 1)).toNat).length : Int))) = false →
      ((fixpre (w64 (yb46c0 + (dlongS q28))) (fun x0 => dw1S x0 yb46c0 u0 u1)) ∧
      (((0 ≤ u1 ∧ u1 < (u0.length : Int)) ∧ (∀ o ∈ u0, o.Every ≠ 0) ∧ u0.length ≤ 1000000) ∧
      (((decide ((dfixS (w64 (yb46c0 + (dlongS q28))) (fun x0 => dw1S x0 yb46c0 u0 u1)) < 0)) = true →
        (K (-1))) ∧
      ((decide ((dfixS (w64 (yb46c0 + (dlongS q28))) (fun x0 => dw1S x0 yb46c0 u0 u1)) < 0)) = false →
        ((q28.Every ≠ 0) ∧
        (∃ inv218 : Int → Int → Prop, ∃ mu218 : Int → Int → Nat, inv218 0 0 ∧
        (∀ (x10 : Int) (x42 : Int), inv218 x10 x42 →
        (((decide (x42 < (dasksS q28 (dfixS (w64 (yb46c0 + (dlongS q28))) (fun x0 => dw1S x0 yb46c0 u0 u1)) false))) = true →
          ((fixpre (w64 (yb46c0 + (w64 (x42 * (dlongS q28))))) (fun x0 => dw2S x0 yb46c0 x42 q28 u0 u1)) ∧
          (((0 ≤ u1 ∧ u1 < (u0.length : Int)) ∧ (∀ o ∈ u0, o.Every ≠ 0) ∧ u0.length ≤ 1000000) ∧
          (inv218 (max x10 (w64 ((w64 ((w64 (q28.Jitter + (dfixS (w64 (yb46c0 + (w64 (x42 * (dlongS q28))))) (fun x0 => dw2S x0 yb46c0 x42 q28 u0 u1)))) - (w64 (x42 * q28.Every)))) + (dlongS q28)))) (w64 (x42 + 1)) ∧ mu218 (max x10 (w64 ((w64 ((w64 (q28.Jitter + (dfixS (w64 (yb46c0 + (w64 (x42 * (dlongS q28))))) (fun x0 => dw2S x0 yb46c0 x42 q28 u0 u1)))) - (w64 (x42 * q28.Every)))) + (dlongS q28)))) (w64 (x42 + 1)) < mu218 x10 x42)))) ∧
        ((decide (x42 < (dasksS q28 (dfixS (w64 (yb46c0 + (dlongS q28))) (fun x0 => dw1S x0 yb46c0 u0 u1)) false))) = false →
          (K x10))))))))))))))))))

/-! Pure proofs: no program in sight. -/
def asksV (x : Int) (a : Bool) (o : Task) : Int := if a = true then (x + o.Jitter) / o.Every + 1 else (x + o.Jitter + o.Every - 1) / o.Every
theorem asksV_bound {o : Task} (h : tok o = true) {x : Int} (hx : 0 ≤ x ∧ x ≤ 200000) (a : Bool) : 0 ≤ asksV x a o ∧ asksV x a o ≤ 2300000 := by
  have hb := tok_spec h
  have e1 : 0 ≤ (x + o.Jitter) / o.Every := Int.ediv_nonneg (by omega) (by omega)
  have e2 : (x + o.Jitter) / o.Every ≤ x + o.Jitter := Int.ediv_le_self _ (by omega)
  have e3 : 0 ≤ (x + o.Jitter + o.Every - 1) / o.Every := Int.ediv_nonneg (by omega) (by omega)
  have e4 : (x + o.Jitter + o.Every - 1) / o.Every ≤ x + o.Jitter + o.Every - 1 := Int.ediv_le_self _ (by omega)
  unfold asksV
  split <;> omega
theorem dasksS_eq {o : Task} (h : tok o = true) {x : Int} (hx : 0 ≤ x ∧ x ≤ 200000) (a : Bool) : dasksS o x a = asksV x a o := by
  have hb := tok_spec h
  have hv := asksV_bound h hx a
  unfold dasksS
  unfold asksV at hv ⊢
  rw [w64_eq (x + o.Jitter) (by omega)]
  split
  · rename_i e
    rw [if_pos e] at hv
    rw [Int.tdiv_eq_ediv_of_nonneg (by omega), w64_eq ((x + o.Jitter) / o.Every) (by omega), w64_eq _ (by omega)]
  · rename_i e
    rw [if_neg e] at hv
    rw [w64_eq (x + o.Jitter + o.Every) (by omega), w64_eq (x + o.Jitter + o.Every - 1) (by omega), Int.tdiv_eq_ediv_of_nonneg (by omega), w64_eq _ (by omega)]
def sumA (x : Int) (a : Bool) : List Task → Int
  | [] => 0
  | o :: r => asksV x a o * dlongS o + sumA x a r
theorem term_bound {o : Task} (h : tok o = true) {x : Int} (hx : 0 ≤ x ∧ x ≤ 200000) (a : Bool) : 0 ≤ asksV x a o * dlongS o ∧ asksV x a o * dlongS o ≤ 310500000 := by
  have hv := asksV_bound h hx a
  have hl := dlongS_eq h
  constructor
  · exact Int.mul_nonneg hv.1 (by omega)
  · have h1 : asksV x a o * dlongS o ≤ asksV x a o * 135 := Int.mul_le_mul_of_nonneg_left (by omega) hv.1
    omega
theorem sumA_bound (ts : List Task) (h : ∀ o ∈ ts, tok o = true) {x : Int} (hx : 0 ≤ x ∧ x ≤ 200000) (a : Bool) : 0 ≤ sumA x a ts ∧ sumA x a ts ≤ 310500000 * (ts.length : Int) := by
  induction ts with
  | nil => simp [sumA]
  | cons o r ih =>
    have h1 := term_bound (h o (by simp)) hx a
    have h2 := ih fun y hy => h y (by simp [hy])
    rw [sumA, List.length_cons]
    omega
theorem fold_sum (ts : List Task) (h : ∀ o ∈ ts, tok o = true) {x : Int} (hx : 0 ≤ x ∧ x ≤ 200000) (a : Bool) : ∀ acc : Int, 0 ≤ acc → acc + 310500000 * (ts.length : Int) ≤ 9000000000000000000 → ts.foldl (dstep x a) acc = acc + sumA x a ts := by
  induction ts with
  | nil => intro acc _ _; simp [sumA]
  | cons o r ih =>
    intro acc h0 h1
    have ht := term_bound (h o (by simp)) hx a
    rw [List.length_cons] at h1
    have e : dstep x a acc o = acc + asksV x a o * dlongS o := by
      unfold dstep
      rw [dasksS_eq (h o (by simp)) hx, w64_eq (asksV x a o * dlongS o) (by omega), w64_eq _ (by omega)]
    rw [List.foldl_cons, e, ih (fun y hy => h y (by simp [hy])) _ (by omega) (by omega), sumA]
    omega
theorem asksV_mono {o : Task} (h : tok o = true) {x y : Int} (hx : 0 ≤ x) (hxy : x ≤ y) (a : Bool) : asksV x a o ≤ asksV y a o := by
  have hb := tok_spec h
  unfold asksV
  split
  · have := Int.ediv_le_ediv (c := o.Every) (by omega) (show x + o.Jitter ≤ y + o.Jitter by omega); omega
  · exact Int.ediv_le_ediv (by omega) (by omega)
theorem sumA_mono (ts : List Task) (h : ∀ o ∈ ts, tok o = true) {x y : Int} (hx : 0 ≤ x) (hxy : x ≤ y) (a : Bool) : sumA x a ts ≤ sumA y a ts := by
  induction ts with
  | nil => exact Int.le_refl _
  | cons o r ih =>
    have h1 := asksV_mono (h o (by simp)) hx hxy a
    have hl := dlongS_eq (h o (by simp))
    have h2 := Int.mul_le_mul_of_nonneg_right h1 (show 0 ≤ dlongS o by omega)
    have h3 := ih fun y hy => h y (by simp [hy])
    rw [sumA, sumA]
    omega
/-- Who asks at a time below another one's, asks no oftener than up to that one. -/
theorem asks_below {o : Task} (h : tok o = true) {x L : Int} (hx : 0 ≤ x) (hL : x ≤ L - 1) : asksV x true o ≤ asksV L false o := by
  have hb := tok_spec h
  unfold asksV
  rw [if_pos rfl, if_neg (by simp)]
  have e : L + o.Jitter + o.Every - 1 = (L + o.Jitter - 1) + 1 * o.Every := by omega
  rw [e, Int.add_mul_ediv_right _ _ (by omega)]
  have := Int.ediv_le_ediv (c := o.Every) (by omega) (show x + o.Jitter ≤ L + o.Jitter - 1 by omega)
  omega
theorem sum_below (ts : List Task) (h : ∀ o ∈ ts, tok o = true) {x L : Int} (hx : 0 ≤ x) (hL : x ≤ L - 1) : sumA x true ts ≤ sumA L false ts := by
  induction ts with
  | nil => exact Int.le_refl _
  | cons o r ih =>
    have h1 := asks_below (h o (by simp)) hx hL
    have hl := dlongS_eq (h o (by simp))
    have h2 := Int.mul_le_mul_of_nonneg_right h1 (show 0 ≤ dlongS o by omega)
    have h3 := ih fun y hy => h y (by simp [hy])
    rw [sumA, sumA]
    omega
theorem sumA_append (x : Int) (a : Bool) (s t : List Task) : sumA x a (s ++ t) = sumA x a s + sumA x a t := by
  induction s with
  | nil => simp [sumA]
  | cons o r ih => rw [List.cons_append, sumA, ih, sumA]; omega
/-- What the plain fixing gives: the least that is not too small, or nothing. -/
theorem fix_spec (x : Int) (g : Int → Int) (h : fixpre x g) : (dfixS x g = -1 ∧ ∀ y, x ≤ y → y ≤ 200000 → g y ≤ y → False) ∨ (x ≤ dfixS x g ∧ dfixS x g ≤ 200000 ∧ g (dfixS x g) = dfixS x g ∧ ∀ y, x ≤ y → y ≤ 200000 → g y ≤ y → dfixS x g ≤ y) := by
  obtain ⟨h0, h1, h2, h3⟩ := h
  have key : ∀ (n k : Nat) (z : Int), n = 200001 - k → (k : Int) ≤ z → 0 ≤ z → z ≤ 200000 → x ≤ z → z ≤ g z → (∀ y, x ≤ y → y ≤ 200000 → g y ≤ y → z ≤ y) →
      (fixN (200002 - k) z g = -1 ∧ ∀ y, x ≤ y → y ≤ 200000 → g y ≤ y → False) ∨ (x ≤ fixN (200002 - k) z g ∧ fixN (200002 - k) z g ≤ 200000 ∧ g (fixN (200002 - k) z g) = fixN (200002 - k) z g ∧ ∀ y, x ≤ y → y ≤ 200000 → g y ≤ y → fixN (200002 - k) z g ≤ y) := by
    intro n
    induction n with
    | zero => intro k z hn hk hz0 hz1; omega
    | succ n ih =>
      intro k z hn hk hz0 hz1 hxz hzg hle
      obtain ⟨m, hm⟩ : ∃ m, 200002 - k = m + 1 := ⟨200001 - k, by omega⟩
      rw [hm, fixN_succ]
      have hnext : ∀ y, x ≤ y → y ≤ 200000 → g y ≤ y → g z ≤ y := fun y a b c => by
        have := h3 z y hz0 (hle y a b c) b
        omega
      by_cases h4 : 200000 < g z
      · rw [if_pos h4]
        exact .inl ⟨rfl, fun y a b c => by have := hnext y a b c; omega⟩
      · rw [if_neg h4]
        by_cases h5 : g z = z
        · rw [if_pos h5, h5]
          exact .inr ⟨hxz, hz1, h5, hle⟩
        · rw [if_neg h5]
          have hm2 : m = 200002 - (k + 1) := by omega
          rw [hm2]
          exact ih (k + 1) (g z) (by omega) (by omega) (by omega) (by omega) (by omega) (h3 z (g z) hz0 hzg (by omega)) hnext
  have := key 200001 0 x rfl (by omega) h0 h1 (Int.le_refl _) h2 (fun y a _ _ => a)
  rw [show 200002 - 0 = 200002 from rfl] at this
  exact this
/-- What waits at most, behind so much that blocks. -/
def busyB (b : Int) (l : List Task) (i : Int) (t : Task) : Int := dfixS (w64 (b + dlongS t)) (fun x => dw1S x b l i)
def waitQ (b q : Int) (l : List Task) (i : Int) (t : Task) : Int := dfixS (w64 (b + w64 (q * dlongS t))) (fun x => dw2S x b q t l i)
def termQ (b q : Int) (l : List Task) (i : Int) (t : Task) : Int := w64 (w64 (w64 (t.Jitter + waitQ b q l i t) - w64 (q * t.Every)) + dlongS t)
def bestQ (b : Int) (l : List Task) (i : Int) (t : Task) : Nat → Int
  | 0 => 0
  | k + 1 => max (bestQ b l i t k) (termQ b k l i t)
def worstB (b : Int) (l : List Task) (i : Int) (t : Task) : Int := if busyB b l i t < 0 then -1 else bestQ b l i t (dasksS t (busyB b l i t) false).toNat
def blockS (l : List Task) (i : Int) : Int := (l.drop (i + 1).toNat).foldl (fun b o => max b (dlongS o)) 0
def nil_task : Task := ⟨0, 0, 0, 0, 0⟩
def worstS (l : List Task) (i : Int) : Int := worstB (blockS l i) l i (l[i.toNat]?.getD nil_task)
abbrev tokB := tok
/-- A right list of tasks, and one of them. -/
structure Rt (l : List Task) (i : Int) (t : Task) : Prop where
  len : l.length ≤ 20
  ok : ∀ o ∈ l, tok o = true
  i0 : 0 ≤ i
  at_ : l[i.toNat]? = some t
theorem Rt.lt {l : List Task} {i : Int} {t : Task} (h : Rt l i t) : i < (l.length : Int) := by
  have := (List.getElem?_eq_some_iff.1 h.at_).1
  have := h.i0
  omega
theorem Rt.take {l : List Task} {i : Int} {t : Task} (h : Rt l i t) : l.take (i + 1).toNat = l.take i.toNat ++ [t] := by
  have := h.i0
  rw [show (i + 1).toNat = i.toNat + 1 by omega]
  exact take_next l i.toNat t h.at_
theorem Rt.tok {l : List Task} {i : Int} {t : Task} (h : Rt l i t) : tok t = true := h.ok t (List.mem_of_getElem? h.at_)
theorem Rt.ok1 {l : List Task} {i : Int} {t : Task} (h : Rt l i t) (k : Nat) : ∀ o ∈ l.take k, tokB o = true := fun o ho => h.ok o (List.mem_of_mem_take ho)
theorem Rt.every {l : List Task} {i : Int} {t : Task} (h : Rt l i t) : ∀ o ∈ l, o.Every ≠ 0 := fun o ho => by
  have := tok_spec (h.ok o ho)
  omega
theorem dw1_eq {l : List Task} {i : Int} {t : Task} (h : Rt l i t) {b x : Int} (hb : 0 ≤ b ∧ b ≤ 135) (hx : 0 ≤ x ∧ x ≤ 200000) : dw1S x b l i = b + sumA x false (l.take i.toNat) + asksV x false t * dlongS t := by
  have hl := h.len
  have hlen : (l.take (i + 1).toNat).length ≤ 20 := Nat.le_trans (List.length_take_le' _ _) hl
  unfold dw1S
  rw [fold_sum _ (h.ok1 _) hx false b hb.1 (by omega), h.take, sumA_append]
  simp only [sumA]
  omega
theorem dw2_eq {l : List Task} {i : Int} {t : Task} (h : Rt l i t) {b q x : Int} (hb : 0 ≤ b ∧ b ≤ 135) (hq : 0 ≤ q ∧ q ≤ 2300000) (hx : 0 ≤ x ∧ x ≤ 200000) : dw2S x b q t l i = b + q * dlongS t + sumA x true (l.take i.toNat) := by
  have hl := h.len
  have hlen : (l.take i.toNat).length ≤ 20 := Nat.le_trans (List.length_take_le' _ _) hl
  have hd := dlongS_eq h.tok
  have h1 : q * dlongS t ≤ q * 135 := Int.mul_le_mul_of_nonneg_left (by omega) hq.1
  have h2 : 0 ≤ q * dlongS t := Int.mul_nonneg hq.1 (by omega)
  unfold dw2S
  rw [w64_eq (q * dlongS t) (by omega), w64_eq (b + q * dlongS t) (by omega), fold_sum _ (h.ok1 _) hx true _ (by omega) (by omega)]
theorem busy_pre {l : List Task} {i : Int} {t : Task} (h : Rt l i t) {b : Int} (hb : 0 ≤ b ∧ b ≤ 135) : w64 (b + dlongS t) = b + dlongS t ∧ fixpre (b + dlongS t) (fun x => dw1S x b l i) := by
  have hd := dlongS_eq h.tok
  have ht := tok_spec h.tok
  refine ⟨w64_eq _ (by omega), by omega, by omega, ?_, fun y z hy hyz hz => ?_⟩
  · dsimp only
    rw [dw1_eq h hb (by omega)]
    have h1 := (sumA_bound (l.take i.toNat) (h.ok1 _) (x := b + dlongS t) (by omega) false).1
    have h2 : 1 ≤ asksV (b + dlongS t) false t := by
      unfold asksV
      rw [if_neg (by simp)]
      have : 1 * t.Every ≤ b + dlongS t + t.Jitter + t.Every - 1 := by omega
      exact (Int.le_ediv_iff_mul_le (by omega)).2 this
    have h3 : 1 * dlongS t ≤ asksV (b + dlongS t) false t * dlongS t := Int.mul_le_mul_of_nonneg_right h2 (by omega)
    omega
  · dsimp only
    rw [dw1_eq h hb (by omega), dw1_eq h hb (by omega)]
    have h1 := sumA_mono (l.take i.toNat) (h.ok1 _) hy hyz false
    have h2 := Int.mul_le_mul_of_nonneg_right (asksV_mono h.tok hy hyz false) (show 0 ≤ dlongS t by omega)
    omega
/-- While the bus is never at rest: what it tells of the times within. -/
theorem busy_at {l : List Task} {i : Int} {t : Task} (h : Rt l i t) {b : Int} (hb : 0 ≤ b ∧ b ≤ 135) (hp : ¬ busyB b l i t < 0) :
    b + dlongS t ≤ busyB b l i t ∧ busyB b l i t ≤ 200000 ∧ busyB b l i t = b + sumA (busyB b l i t) false (l.take i.toNat) + asksV (busyB b l i t) false t * dlongS t := by
  obtain ⟨e1, hpre⟩ := busy_pre h hb
  have hd := dlongS_eq h.tok
  have hB : busyB b l i t = dfixS (b + dlongS t) (fun x => dw1S x b l i) := by unfold busyB; rw [e1]
  rcases fix_spec _ _ hpre with ⟨k1, _⟩ | ⟨k1, k2, k3, _⟩
  · rw [hB, k1] at hp; omega
  · rw [← hB] at k1 k2 k3
    refine ⟨k1, k2, ?_⟩
    have := dw1_eq h hb (x := busyB b l i t) (by omega)
    (try dsimp only at k3)
    omega
theorem wait_pre {l : List Task} {i : Int} {t : Task} (h : Rt l i t) {b : Int} (hb : 0 ≤ b ∧ b ≤ 135) {L q : Int} (hL : 0 ≤ L ∧ L ≤ 200000) (hLf : b + sumA L false (l.take i.toNat) + asksV L false t * dlongS t ≤ L) (hq : 0 ≤ q ∧ q < asksV L false t) :
    w64 (b + w64 (q * dlongS t)) = b + q * dlongS t ∧ fixpre (b + q * dlongS t) (fun x => dw2S x b q t l i) ∧ b + q * dlongS t ≤ L - dlongS t ∧ dw2S (L - dlongS t) b q t l i ≤ L - dlongS t ∧ 0 ≤ waitQ b q l i t ∧ waitQ b q l i t ≤ L - dlongS t := by
  have hd := dlongS_eq h.tok
  have hv := asksV_bound h.tok hL false
  have hs := sumA_bound (l.take i.toNat) (h.ok1 _) hL false
  have h1 : q * dlongS t + dlongS t ≤ asksV L false t * dlongS t := by
    have h2 := Int.mul_le_mul_of_nonneg_right (show q + 1 ≤ asksV L false t by omega) (show 0 ≤ dlongS t by omega)
    have e : (q + 1) * dlongS t = q * dlongS t + dlongS t := by rw [Int.add_mul, Int.one_mul]
    omega
  have h0 : 0 ≤ q * dlongS t := Int.mul_nonneg hq.1 (by omega)
  have e1 : w64 (b + w64 (q * dlongS t)) = b + q * dlongS t := by rw [w64_eq (q * dlongS t) (by omega), w64_eq _ (by omega)]
  have hpre : fixpre (b + q * dlongS t) (fun x => dw2S x b q t l i) := by
    refine ⟨by omega, by omega, ?_, fun y z hy hyz hz => ?_⟩
    · dsimp only
      rw [dw2_eq h hb (by omega) (by omega)]
      have := (sumA_bound (l.take i.toNat) (h.ok1 _) (x := b + q * dlongS t) (by omega) true).1
      omega
    · dsimp only
      rw [dw2_eq h hb (by omega) (by omega), dw2_eq h hb (by omega) (by omega)]
      have := sumA_mono (l.take i.toNat) (h.ok1 _) hy hyz true
      omega
  have hlow : b + q * dlongS t ≤ L - dlongS t := by omega
  have hfx : dw2S (L - dlongS t) b q t l i ≤ L - dlongS t := by
    rw [dw2_eq h hb (by omega) (by omega)]
    have := sum_below (l.take i.toNat) (h.ok1 _) (x := L - dlongS t) (L := L) (by omega) (by omega)
    omega
  refine ⟨e1, hpre, hlow, hfx, ?_⟩
  have hW : waitQ b q l i t = dfixS (b + q * dlongS t) (fun x => dw2S x b q t l i) := by unfold waitQ; rw [e1]
  rcases fix_spec _ _ hpre with ⟨_, k2⟩ | ⟨k1, k2, _, k4⟩
  · exact absurd hfx fun hc => k2 _ hlow (by omega) hc
  · rw [← hW] at k1 k4
    exact ⟨by omega, k4 _ hlow (by omega) hfx⟩
theorem blockS_bound (l : List Task) (h : ∀ o ∈ l, tok o = true) (i : Int) : 0 ≤ blockS l i ∧ blockS l i ≤ 135 := by
  have key : ∀ (ts : List Task), (∀ o ∈ ts, tok o = true) → ∀ b, 0 ≤ b ∧ b ≤ 135 → 0 ≤ ts.foldl (fun b o => max b (dlongS o)) b ∧ ts.foldl (fun b o => max b (dlongS o)) b ≤ 135 := by
    intro ts
    induction ts with
    | nil => exact fun _ b hb => hb
    | cons o r ih =>
      intro ho b hb
      have hd := dlongS_eq (ho o (by simp))
      exact ih (fun y hy => ho y (by simp [hy])) (max b (dlongS o)) ⟨by omega, by omega⟩
  exact key _ (fun o ho => h o (List.mem_of_mem_drop ho)) 0 ⟨by decide, by decide⟩
theorem termQ_eq {l : List Task} {i : Int} {t : Task} (h : Rt l i t) {b q : Int} (hq : 0 ≤ q ∧ q ≤ 2300000) (hw : 0 ≤ waitQ b q l i t ∧ waitQ b q l i t ≤ 200000) : termQ b q l i t = t.Jitter + waitQ b q l i t - q * t.Every + dlongS t := by
  have hd := dlongS_eq h.tok
  have ht := tok_spec h.tok
  have h1 : q * t.Every ≤ q * 1000000 := Int.mul_le_mul_of_nonneg_left (by omega) hq.1
  have h2 : 0 ≤ q * t.Every := Int.mul_nonneg hq.1 (by omega)
  unfold termQ
  rw [w64_eq (q * t.Every) (by omega), w64_eq (t.Jitter + waitQ b q l i t) (by omega), w64_eq (t.Jitter + waitQ b q l i t - q * t.Every) (by omega), w64_eq _ (by omega)]
theorem dworst_ok (l : List Task) (i : Int) (h : dcheckS l = 0 ∧ 0 ≤ i ∧ i < (l.length : Int)) (hok : l.length ≤ 20 ∧ ∀ o ∈ l, tok o = true) : dworst_vc l i (fun r => r = worstS l i) := by
  obtain ⟨_, hi0, hi1⟩ := h
  intro hl
  refine ⟨⟨hi0, hi1⟩, fun t ht => ?_⟩
  have R : Rt l i t := ⟨hok.1, hok.2, hi0, ht⟩
  have hlen := hok.1
  have ew : w64 (i + 1) = i + 1 := w64_eq _ (by omega)
  have hS : worstS l i = worstB (blockS l i) l i t := by unfold worstS; rw [ht]; rfl
  rw [ew, hS]
  have hdl : (l.drop (i + 1).toNat).length ≤ 20 := by rw [List.length_drop]; omega
  refine ⟨by omega, rg1a (by omega) (fun k b => ((l.drop (i + 1).toNat).drop k).foldl (fun b o => max b (dlongS o)) b = blockS l i) rfl ?_ ?_⟩
  · intro k b q hk hq hj inv mu hn
    rw [fold_drop _ _ k q b hq] at hj
    exact hn _ hj
  · intro b hj
    rw [List.drop_length] at hj
    have hj : b = blockS l i := hj
    subst hj
    have hb := blockS_bound l hok.2 i
    obtain ⟨e1, hpre⟩ := busy_pre R hb
    have hB : busyB (blockS l i) l i t = dfixS (blockS l i + dlongS t) (fun x => dw1S x (blockS l i) l i) := by unfold busyB; rw [e1]
    rw [e1, ← hB]
    generalize hbb : blockS l i = b at *
    have hR : ((0 ≤ i ∧ i < (l.length : Int)) ∧ (∀ o ∈ l, o.Every ≠ 0) ∧ l.length ≤ 1000000) := ⟨⟨hi0, hi1⟩, R.every, by omega⟩
    refine ⟨hpre, hR, fun h1 => ?_, fun h1 => ?_⟩
    · unfold worstB
      rw [if_pos (by simpa using h1)]
    · have hp : ¬ busyB b l i t < 0 := by simpa using h1
      obtain ⟨k1, k2, k3⟩ := busy_at R hb hp
      have hd := dlongS_eq R.tok
      have hN := dasksS_eq R.tok (x := busyB b l i t) (by omega) false
      have hNb := asksV_bound R.tok (x := busyB b l i t) (by omega) false
      refine ⟨R.every t (List.mem_of_getElem? ht), fun x q => ∃ k : Nat, q = k ∧ (k : Int) ≤ dasksS t (busyB b l i t) false ∧ x = bestQ b l i t k, fun _ q => (dasksS t (busyB b l i t) false - q).toNat, ⟨0, rfl, by omega, rfl⟩, ?_⟩
      rintro _ _ ⟨k, rfl, hk, rfl⟩
      refine ⟨fun h2 => ?_, fun h2 => ?_⟩
      · have hkN : (k : Int) < asksV (busyB b l i t) false t := by
          have := of_decide_eq_true h2
          omega
        obtain ⟨w1, w2, w3, w4, w5, w6⟩ := wait_pre R hb (L := busyB b l i t) (q := k) (by omega) (by omega) ⟨by omega, hkN⟩
        have ek : w64 ((k : Int) + 1) = ((k + 1 : Nat) : Int) := w64_succ k (by omega)
        rw [ek, w1]
        refine ⟨w2, hR, ⟨k + 1, rfl, by omega, ?_⟩, by (try dsimp only); omega⟩
        rw [bestQ]
        unfold termQ waitQ
        rw [w1]
      · have hkN : (k : Int) = dasksS t (busyB b l i t) false := by have := of_decide_eq_false h2; omega
        unfold worstB
        rw [if_neg hp, ← hkN]
        rfl
/-- Who is blocked longer waits longer. -/
theorem worst_mono {l l' : List Task} {i : Int} {t : Task} (h : Rt l i t) (h' : Rt l' i t) (htk : l'.take i.toNat = l.take i.toNat) {b b' : Int} (hb : 0 ≤ b) (hbb : b ≤ b') (hb' : b' ≤ 135) (hw : 0 ≤ worstB b' l' i t) : 0 ≤ worstB b l i t ∧ worstB b l i t ≤ worstB b' l' i t := by
  have hd := dlongS_eq h.tok
  have ht := tok_spec h.tok
  have hp' : ¬ busyB b' l' i t < 0 := by
    intro hc
    unfold worstB at hw
    rw [if_pos hc] at hw
    omega
  obtain ⟨k1, k2, k3⟩ := busy_at h' ⟨by omega, hb'⟩ hp'
  rw [htk] at k3
  obtain ⟨e1, hpre⟩ := busy_pre h (b := b) ⟨hb, by omega⟩
  have hB : busyB b l i t = dfixS (b + dlongS t) (fun x => dw1S x b l i) := by unfold busyB; rw [e1]
  have hle : 0 ≤ busyB b l i t ∧ busyB b l i t ≤ busyB b' l' i t := by
    have hfx : dw1S (busyB b' l' i t) b l i ≤ busyB b' l' i t := by
      rw [dw1_eq h ⟨hb, by omega⟩ (by omega)]
      omega
    rcases fix_spec _ _ hpre with ⟨_, j2⟩ | ⟨j1, _, _, j4⟩
    · exact absurd hfx fun hc => j2 _ (by omega) (by omega) hc
    · rw [← hB] at j1 j4
      exact ⟨by omega, j4 _ (by omega) (by omega) hfx⟩
  have hp : ¬ busyB b l i t < 0 := by omega
  obtain ⟨m1, m2, m3⟩ := busy_at h ⟨hb, by omega⟩ hp
  have hN := dasksS_eq h.tok (x := busyB b l i t) (by omega) false
  have hN' := dasksS_eq h.tok (x := busyB b' l' i t) (by omega) false
  have hmono := asksV_mono h.tok (x := busyB b l i t) hle.1 hle.2 false
  have hNb := asksV_bound h.tok (x := busyB b' l' i t) (by omega) false
  have hNb0 := asksV_bound h.tok (x := busyB b l i t) (by omega) false
  have hbest0 : ∀ (l : List Task) (b : Int) k, 0 ≤ bestQ b l i t k := by
    intro l b k
    induction k with
    | zero => exact Int.le_refl _
    | succ k ih => rw [bestQ]; omega
  have hgrow : ∀ (b : Int) (l : List Task) k j, k ≤ j → bestQ b l i t k ≤ bestQ b l i t j := by
    intro b l k j hkj
    induction j with
    | zero => have : k = 0 := by omega
              subst this; exact Int.le_refl _
    | succ j ih =>
      rcases Nat.lt_or_ge j k with hc | hc
      · have : k = j + 1 := by omega
        subst this; exact Int.le_refl _
      · have := ih hc
        rw [bestQ]; omega
  have hcmp : ∀ k : Nat, (k : Int) ≤ asksV (busyB b l i t) false t → bestQ b l i t k ≤ bestQ b' l' i t k := by
    intro k
    induction k with
    | zero => intro _; exact Int.le_refl _
    | succ k ih =>
      intro hk
      have h1 := ih (by omega)
      obtain ⟨w1, w2, w3, w4, w5, w6⟩ := wait_pre h (b := b) ⟨hb, by omega⟩ (L := busyB b l i t) (q := k) (by omega) (by omega) ⟨by omega, by omega⟩
      obtain ⟨v1, v2, v3, v4, v5, v6⟩ := wait_pre h' (b := b') ⟨by omega, hb'⟩ (L := busyB b' l' i t) (q := k) (by omega) (by rw [htk]; omega) ⟨by omega, by omega⟩
      have hV : waitQ b' k l' i t = dfixS (b' + k * dlongS t) (fun x => dw2S x b' k t l' i) := by unfold waitQ; rw [v1]
      have hW : waitQ b k l i t = dfixS (b + k * dlongS t) (fun x => dw2S x b k t l i) := by unfold waitQ; rw [w1]
      have hvw : waitQ b k l i t ≤ waitQ b' k l' i t := by
        rcases fix_spec _ _ v2 with ⟨j1, _⟩ | ⟨j1, j2, j3, _⟩
        · rw [← hV] at j1; omega
        · rw [← hV] at j1 j2 j3
          (try dsimp only at j3)
          rw [dw2_eq h' ⟨by omega, hb'⟩ (by omega) (by omega), htk] at j3
          have hfx : dw2S (waitQ b' k l' i t) b k t l i ≤ waitQ b' k l' i t := by
            rw [dw2_eq h ⟨hb, by omega⟩ (by omega) (by omega)]
            omega
          rcases fix_spec _ _ w2 with ⟨_, n2⟩ | ⟨_, _, _, n4⟩
          · exact absurd hfx fun hc => n2 _ (by omega) (by omega) hc
          · rw [← hW] at n4
            exact n4 _ (by omega) (by omega) hfx
      rw [bestQ, bestQ, termQ_eq h (by omega) (by omega), termQ_eq h' (by omega) (by omega)]
      omega
  unfold worstB
  rw [if_neg hp, if_neg hp', hN, hN']
  refine ⟨hbest0 _ _ _, ?_⟩
  exact Int.le_trans (hcmp _ (by omega)) (hgrow _ _ _ _ (by omega))
theorem dworst_ok2 (l : List Task) (i : Int) (h : dcheckS l = 0 ∧ 0 ≤ i ∧ i < (l.length : Int)) : dworst_vc l i (fun r => r = worstS l i) := dworst_ok l i h (dcheckS_zero h.1)

end Go.Proofs.Ytginlmgkimfjmaa
set_option linter.unusedVariables false
set_option linter.unusedSimpArgs false
namespace Go.Proofs.Ytginlmgkimfjmaa
open Go.Sy Go.RowKit
def dWorst_vc (u0 : List Task) (K : ((List Stop) × Int) → Prop) : Prop :=
  (u0.length ≤ 140737488355328 →
    ((((dcheckS u0) != 0) = true →
      (K (([] : List Stop), (dcheckS u0)))) ∧
    (((dcheckS u0) != 0) = false →
      (∃ inv46 : (List Stop) → Int → Prop, ∃ mu46 : (List Stop) → Int → Nat, inv46 ([] : List Stop) 0 ∧
      (∀ (x5 : List Stop) (x16 : Int), inv46 x5 x16 →
      (((decide (x16 < (u0.length : Int))) = true →
        ((0 ≤ x16 ∧ x16 < (u0.length : Int)) ∧
        (∀ q73, u0[x16.toNat]? = some q73 →
        ((dcheckS u0 = 0 ∧ 0 ≤ x16 ∧ x16 < (u0.length : Int)) ∧
        (((x5.length + 1) * 16 ≤ 140737488355328) ∧
        (inv46 (x5 ++ [(⟨(worstS u0 x16), (decide ((worstS u0 x16) ≥ 0)) && (decide ((worstS u0 x16) ≤ q73.Late))⟩ : Stop)]) (w64 (x16 + 1)) ∧ mu46 (x5 ++ [(⟨(worstS u0 x16), (decide ((worstS u0 x16) ≥ 0)) && (decide ((worstS u0 x16) ≤ q73.Late))⟩ : Stop)]) (w64 (x16 + 1)) < mu46 x5 x16)))))) ∧
      ((decide (x16 < (u0.length : Int))) = false →
        (K (x5, 0)))))))))

def stopeq_vc (u0 : List Stop) (u1 : List Stop) (K : Bool → Prop) : Prop :=
  (u0.length ≤ 140737488355328 →
    (u1.length ≤ 140737488355328 →
    ((((u0.length : Int) != (u1.length : Int)) = true →
      (K false)) ∧
    (((u0.length : Int) != (u1.length : Int)) = false →
      (∃ inv37 : Int → Prop, ∃ mu37 : Int → Nat, inv37 0 ∧
      (∀ (x13 : Int), inv37 x13 →
      (((decide (x13 < (u0.length : Int))) = true →
        ((0 ≤ x13 ∧ x13 < (u0.length : Int)) ∧
        (∀ q74, u0[x13.toNat]? = some q74 →
        ((0 ≤ x13 ∧ x13 < (u1.length : Int)) ∧
        (∀ q96, u1[x13.toNat]? = some q96 →
        (((!((q74.Wait == q96.Wait) && ((q74.Fits == q96.Fits) && true))) = true →
          (K false)) ∧
        ((!((q74.Wait == q96.Wait) && ((q74.Fits == q96.Fits) && true))) = false →
          (inv37 (w64 (x13 + 1)) ∧ mu37 (w64 (x13 + 1)) < mu37 x13)))))))) ∧
      ((decide (x13 < (u0.length : Int))) = false →
        (K true)))))))))

/-! Pure proofs: no program in sight. -/
def stopAt (l : List Task) (i : Nat) : Stop := ⟨worstS l i, decide (worstS l i ≥ 0) && decide (worstS l i ≤ (l[i]?.getD nil_task).Late)⟩
def worstL (l : List Task) : List Stop := (List.range l.length).map (stopAt l)
def WorstS (l : List Task) : List Stop × Int := if dcheckS l ≠ 0 then ([], dcheckS l) else (worstL l, 0)
theorem dWorst_ok (l : List Task) : dWorst_vc l (fun r => r = WorstS l) := by
  intro hl
  refine ⟨fun h => ?_, fun h => ?_⟩
  · have h : dcheckS l ≠ 0 := by simpa using h
    unfold WorstS
    rw [if_pos h]
  · have h0 : dcheckS l = 0 := by simpa using h
    have hS : WorstS l = (worstL l, 0) := by unfold WorstS; rw [if_neg (fun hc => hc h0)]
    have h20 := (dcheckS_zero h0).1
    rw [hS]
    refine rg1b hl (fun k x => x = (List.range k).map (stopAt l)) rfl ?_ ?_
    · rintro k _ q hk hq rfl inv mu hn
      refine ⟨⟨h0, by omega, by omega⟩, by simp; omega, hn _ ?_⟩
      rw [List.range_succ, List.map_append]
      congr 1
      show _ = [stopAt l k]
      unfold stopAt
      rw [hq]
      rfl
    · rintro _ rfl
      rfl
def stopeqS (a b : List Stop) : Bool := decide (a = b)
theorem list_eq_at {α : Type} {a b : List α} (hl : a.length = b.length) (h : ∀ (k : Nat) (x y : α), a[k]? = some x → b[k]? = some y → x = y) : a = b := by
  apply List.ext_getElem? 
  intro k
  rcases Nat.lt_or_ge k a.length with hk | hk
  · have h1 := List.getElem?_eq_getElem hk
    have h2 := List.getElem?_eq_getElem (l := b) (show k < b.length by omega)
    rw [h1, h2, h k _ _ h1 h2]
  · rw [List.getElem?_eq_none hk, List.getElem?_eq_none (by omega)]
theorem stopeq_ok (a b : List Stop) : stopeq_vc a b (fun r => r = stopeqS a b) := by
  intro ha hb
  refine ⟨fun h => ?_, fun h => ?_⟩
  · have h : ¬ (a.length : Int) = (b.length : Int) := by simpa using h
    unfold stopeqS
    rw [decide_eq_false]
    intro e
    rw [e] at h
    exact h rfl
  · have h : a.length = b.length := by
      have h : (a.length : Int) = (b.length : Int) := by simpa only [bne_eq_false_iff_eq] using h
      omega
    refine rg0 ha (fun k => ∀ (j : Nat) (x y : Stop), j < k → a[j]? = some x → b[j]? = some y → x = y) (fun j _ _ hj => absurd hj (Nat.not_lt_zero _)) ?_ ?_
    · intro k q hk hq hj inv mu hn
      refine ⟨by omega, fun p hp => ⟨fun h1 => ?_, fun h1 => hn fun j x y hj1 hx hy => ?_⟩⟩
      · unfold stopeqS
        rw [decide_eq_false]
        rintro rfl
        rw [Int.toNat_natCast] at hp
        obtain rfl := Option.some.inj (hq.symm.trans hp)
        simp at h1
      · rcases Nat.lt_or_ge j k with hc | hc
        · exact hj j x y hc hx hy
        · have : j = k := by omega
          subst this
          rw [Int.toNat_natCast] at hp
          obtain rfl := Option.some.inj (hx.symm.trans hq)
          obtain rfl := Option.some.inj (hy.symm.trans hp)
          simp at h1
          cases x; cases y; simp_all
    · intro hj
      unfold stopeqS
      rw [decide_eq_true]
      exact list_eq_at h fun k x y hx hy => hj k x y (List.getElem?_eq_some_iff.1 hx).1 hx hy

end Go.Proofs.Ytginlmgkimfjmaa
set_option linter.unusedVariables false
set_option linter.unusedSimpArgs false
namespace Go.Proofs.Ytginlmgkimfjmaa
open Go.Sy Go.RowKit
def delayed_vc  (K : Bool → Prop) : Prop :=
  (tasksS.length ≤ 140737488355328 →
    ((WorstS tasksS).1.length ≤ 140737488355328 →
    ((((WorstS tasksS).2 == 0) = true →
      (K (stopeqS (WorstS tasksS).1 ([(⟨270, true⟩ : Stop), (⟨270, true⟩ : Stop)] : List Stop)))) ∧
    (((WorstS tasksS).2 == 0) = false →
      (K false)))))

/-! Pure proofs: no program in sight. -/
theorem delayed_ok : delayed_vc (fun r => r = true) := by
  intro _ _
  have e : WorstS tasksS = ([⟨270, true⟩, ⟨270, true⟩], 0) := by decide +kernel
  rw [e]
  exact ⟨fun _ => rfl, fun h => by cases h⟩

end Go.Proofs.Ytginlmgkimfjmaa
set_option linter.unusedVariables false
set_option linter.unusedSimpArgs false
namespace Go.Proofs.Ytginlmgkimfjmaa
open Go.Sy Go.RowKit
def LMore_vc (u0 : List Task) (u1 : Task) (K : Bool → Prop) : Prop :=
  (u0.length ≤ 140737488355328 →
    ((WorstS u0).1.length ≤ 140737488355328 →
    ((u0.length * 40 ≤ 140737488355328) ∧
    ((((tcloneS u0).length + 1) * 40 ≤ 140737488355328) ∧
    (((((WorstS u0).2 != 0) || ((WorstS ((tcloneS u0) ++ [u1])).2 != 0)) = true →
      (K true)) ∧
    ((((WorstS u0).2 != 0) || ((WorstS ((tcloneS u0) ++ [u1])).2 != 0)) = false →
      (∃ inv235 : Int → Prop, ∃ mu235 : Int → Nat, inv235 0 ∧
      (∀ (x37 : Int), inv235 x37 →
      (((decide (x37 < ((WorstS u0).1.length : Int))) = true →
        ((0 ≤ x37 ∧ x37 < ((WorstS ((tcloneS u0) ++ [u1])).1.length : Int)) ∧
        (∀ q282, (WorstS ((tcloneS u0) ++ [u1])).1[x37.toNat]? = some q282 →
        ((0 ≤ x37 ∧ x37 < ((WorstS u0).1.length : Int)) ∧
        (∀ q315, (WorstS u0).1[x37.toNat]? = some q315 →
        ((0 ≤ x37 ∧ x37 < ((WorstS u0).1.length : Int)) ∧
        (∀ q350, (WorstS u0).1[x37.toNat]? = some q350 →
        ((0 ≤ x37 ∧ x37 < ((WorstS ((tcloneS u0) ++ [u1])).1.length : Int)) ∧
        (∀ q378, (WorstS ((tcloneS u0) ++ [u1])).1[x37.toNat]? = some q378 →
        ((((decide (q282.Wait ≥ 0)) && ((decide (q315.Wait < 0)) || (decide (q350.Wait > q378.Wait)))) = true →
          (K false)) ∧
        (((decide (q282.Wait ≥ 0)) && ((decide (q315.Wait < 0)) || (decide (q350.Wait > q378.Wait)))) = false →
          (inv235 (w64 (x37 + 1)) ∧ mu235 (w64 (x37 + 1)) < mu235 x37)))))))))))) ∧
      ((decide (x37 < ((WorstS u0).1.length : Int))) = false →
        (K true)))))))))))

/-! Pure proofs: no program in sight. -/
theorem WorstS_zero {l : List Task} (h : (WorstS l).2 = 0) : dcheckS l = 0 ∧ WorstS l = (worstL l, 0) := by
  unfold WorstS at h ⊢
  by_cases h1 : dcheckS l ≠ 0
  · rw [if_pos h1] at h; exact absurd h h1
  · rw [if_neg h1]
    exact ⟨by simpa using h1, rfl⟩
theorem worstL_at {l : List Task} {k : Nat} {q : Stop} (h : (worstL l)[k]? = some q) : q = stopAt l k ∧ k < l.length := by
  unfold worstL at h
  rw [List.getElem?_map] at h
  have hk : k < l.length := by
    rcases Nat.lt_or_ge k l.length with hk | hk
    · exact hk
    · rw [List.getElem?_eq_none (by simpa using hk)] at h; cases h
  rw [List.getElem?_range hk] at h
  exact ⟨(Option.some.inj h).symm, hk⟩
theorem worstS_more (l : List Task) (t : Task) (h1 : dcheckS l = 0) (h2 : dcheckS (l ++ [t]) = 0) (k : Nat) (hk : k < l.length) (hw : 0 ≤ worstS (l ++ [t]) k) : 0 ≤ worstS l k ∧ worstS l k ≤ worstS (l ++ [t]) k := by
  obtain ⟨a1, a2⟩ := dcheckS_zero h1
  obtain ⟨b1, b2⟩ := dcheckS_zero h2
  have hq : l[k]? = some l[k] := List.getElem?_eq_getElem hk
  generalize l[k] = q at hq
  have hq' : (l ++ [t])[k]? = some q := by rw [List.getElem?_append_left hk]; exact hq
  have R : Rt l k q := ⟨a1, a2, by omega, by rw [Int.toNat_natCast]; exact hq⟩
  have R' : Rt (l ++ [t]) k q := ⟨b1, b2, by omega, by rw [Int.toNat_natCast]; exact hq'⟩
  have e : worstS l k = worstB (blockS l k) l k q := by unfold worstS; rw [Int.toNat_natCast, hq]; rfl
  have e' : worstS (l ++ [t]) k = worstB (blockS (l ++ [t]) k) (l ++ [t]) k q := by unfold worstS; rw [Int.toNat_natCast, hq']; rfl
  have hb := blockS_bound l a2 k
  have hb' := blockS_bound (l ++ [t]) b2 k
  have hbb : blockS l k ≤ blockS (l ++ [t]) k := by
    unfold blockS
    rw [List.drop_append, List.foldl_append]
    have : ((k : Int) + 1).toNat - l.length = 0 := by omega
    rw [this]
    show _ ≤ max _ (dlongS t)
    omega
  rw [e'] at hw
  rw [e, e']
  exact worst_mono R R' (by rw [Int.toNat_natCast, List.take_append_of_le_length (by omega)]) hb.1 hbb hb'.2 hw
theorem LMore_ok (l : List Task) (t : Task) (hl : (∀ y0 ∈ l, okTask y0) ∧ l.length * 40 + 4096 ≤ lim) (ht : okTask t) : LMore_vc l t (fun r => r = true) := by
  intro _ _
  have ec : tcloneS l = l := rfl
  rw [ec]
  have hlim : lim = 140737488355328 := rfl
  have hl2 := hl.2
  rw [hlim] at hl2
  refine ⟨by omega, by omega, fun _ => rfl, fun h => ?_⟩
  have h : (WorstS l).2 = 0 ∧ (WorstS (l ++ [t])).2 = 0 := by simpa using h
  obtain ⟨a1, a2⟩ := WorstS_zero h.1
  obtain ⟨b1, b2⟩ := WorstS_zero h.2
  rw [a2, b2]
  dsimp only
  have hlen : (worstL l).length = l.length := by simp [worstL]
  have hlen' : (worstL (l ++ [t])).length = l.length + 1 := by simp [worstL]
  refine ⟨fun x => ∃ k : Nat, x = k ∧ k ≤ l.length, fun x => l.length - x.toNat, ⟨0, rfl, by omega⟩, ?_⟩
  rintro _ ⟨k, rfl, hk⟩
  refine ⟨fun h1 => ?_, fun _ => rfl⟩
  have hkl : k < l.length := by simp at h1; omega
  rw [Int.toNat_natCast]
  refine ⟨by omega, fun q1 hq1 => ⟨by omega, fun q2 hq2 => ⟨by omega, fun q3 hq3 => ⟨by omega, fun q4 hq4 => ⟨fun h2 => ?_, fun h2 => ?_⟩⟩⟩⟩⟩
  · exfalso
    obtain rfl := (worstL_at hq1).1
    obtain rfl := (worstL_at hq2).1
    obtain rfl := (worstL_at hq3).1
    obtain rfl := (worstL_at hq4).1
    simp only [Bool.and_eq_true, Bool.or_eq_true, decide_eq_true_eq] at h2
    have h3 : 0 ≤ worstS (l ++ [t]) k := h2.1
    have h4 : worstS l k < 0 ∨ worstS l k > worstS (l ++ [t]) k := h2.2
    have := worstS_more l t a1 b1 k hkl h3
    omega
  · rw [w64_succ k (by omega)]
    exact ⟨⟨k + 1, rfl, by omega⟩, by (try dsimp only); omega⟩

end Go.Proofs.Ytginlmgkimfjmaa
set_option linter.unusedVariables false
set_option linter.unusedSimpArgs false
namespace Go.Proofs.Ytginlmgkimfjmaa
open Go.Sy Go.RowKit

/-! Pure proofs: no program in sight. -/

end Go.Proofs.Ytginlmgkimfjmaa
