/- Texts put together (pure ones, or walks made by program). -/
import Derived.Test.YtginlmgkimfjmaaKo0
set_option linter.unusedVariables false
set_option linter.unusedSimpArgs false
namespace Go.Proofs.Ytginlmgkimfjmaa
open Go.Sy Go.RowKit
structure Frame where
  ID : Int
  Long : Bool
  Fast : Bool
  Remote : Bool
  Size : Int
  Data : List Int
  deriving DecidableEq, Inhabited
def Frame.rep (Z : Fz) (cs : List Value) (x : Frame) : Prop := ∃ (ao0 : Option Addr) (cap0 : Nat), cs = [.int .i64 x.ID, .bool x.Long, .bool x.Fast, .bool x.Remote, .int .i64 x.Size, .slice ao0 x.Data.length cap0] ∧ SlR (tyInt .u8) Z ao0 cap0 x.Data
def tyFrame : Ty Frame :=
  ⟨6, Frame.rep, by rintro _ _ _ ⟨_, _, rfl, _⟩; rfl, by rintro _ _ _ _ hZ ⟨_, _, rfl, h0⟩; exact ⟨_, _, rfl, h0.mono hZ⟩, by rintro _ _ _ ⟨_, _, rfl, _⟩; simp [Value.oneCell']⟩
def okFrame (x : Frame) : Prop := (IntKind.i64.min ≤ x.ID ∧ x.ID ≤ IntKind.i64.max) ∧ (True) ∧ (True) ∧ (True) ∧ (IntKind.i64.min ≤ x.Size ∧ x.Size ≤ IntKind.i64.max) ∧ ((∀ y0 ∈ x.Data, IntKind.u8.min ≤ y0 ∧ y0 ≤ IntKind.u8.max) ∧ x.Data.length * 1 ≤ lim)

structure Task where
  ID : Int
  Bytes : Int
  Every : Int
  Late : Int
  Jitter : Int
  deriving DecidableEq, Inhabited
def Task.enc (x : Task) : List Value := [.int .i64 x.ID, .int .i64 x.Bytes, .int .i64 x.Every, .int .i64 x.Late, .int .i64 x.Jitter]
def tyTask : Ty Task := tyFlat Task.enc 5 (fun _ => rfl) (fun x => by simp [Task.enc, Value.oneCell'])
def okTask (x : Task) : Prop := (IntKind.i64.min ≤ x.ID ∧ x.ID ≤ IntKind.i64.max) ∧ (IntKind.i64.min ≤ x.Bytes ∧ x.Bytes ≤ IntKind.i64.max) ∧ (IntKind.i64.min ≤ x.Every ∧ x.Every ≤ IntKind.i64.max) ∧ (IntKind.i64.min ≤ x.Late ∧ x.Late ≤ IntKind.i64.max) ∧ (IntKind.i64.min ≤ x.Jitter ∧ x.Jitter ≤ IntKind.i64.max)

structure Stop where
  Wait : Int
  Fits : Bool
  deriving DecidableEq, Inhabited
def Stop.enc (x : Stop) : List Value := [.int .i64 x.Wait, .bool x.Fits]
def tyStop : Ty Stop := tyFlat Stop.enc 2 (fun _ => rfl) (fun x => by simp [Stop.enc, Value.oneCell'])
def okStop (x : Stop) : Prop := (IntKind.i64.min ≤ x.Wait ∧ x.Wait ≤ IntKind.i64.max) ∧ (True)

structure Kind where
  Size : Int
  Poly : Int
  From : Int
  End : Int
  deriving DecidableEq, Inhabited
def Kind.enc (x : Kind) : List Value := [.int .i64 x.Size, .int .u64 x.Poly, .int .u64 x.From, .int .u64 x.End]
def tyKind : Ty Kind := tyFlat Kind.enc 4 (fun _ => rfl) (fun x => by simp [Kind.enc, Value.oneCell'])
def okKind (x : Kind) : Prop := (IntKind.i64.min ≤ x.Size ∧ x.Size ≤ IntKind.i64.max) ∧ (IntKind.u64.min ≤ x.Poly ∧ x.Poly ≤ IntKind.u64.max) ∧ (IntKind.u64.min ≤ x.From ∧ x.From ≤ IntKind.u64.max) ∧ (IntKind.u64.min ≤ x.End ∧ x.End ≤ IntKind.u64.max)

structure Slot where
  Task : Int
  Asked : Int
  From : Int
  End : Int
  deriving DecidableEq, Inhabited
def Slot.enc (x : Slot) : List Value := [.int .i64 x.Task, .int .i64 x.Asked, .int .i64 x.From, .int .i64 x.End]
def tySlot : Ty Slot := tyFlat Slot.enc 4 (fun _ => rfl) (fun x => by simp [Slot.enc, Value.oneCell'])
def okSlot (x : Slot) : Prop := (IntKind.i64.min ≤ x.Task ∧ x.Task ≤ IntKind.i64.max) ∧ (IntKind.i64.min ≤ x.Asked ∧ x.Asked ≤ IntKind.i64.max) ∧ (IntKind.i64.min ≤ x.From ∧ x.From ≤ IntKind.i64.max) ∧ (IntKind.i64.min ≤ x.End ∧ x.End ≤ IntKind.i64.max)

def bwrite_vc (u0 : Int) (u1 : Int) (K : (List UInt8) → Prop) : Prop :=
  ((0 ≤ u1 ∧ u1 ≤ u1 ∧ u1 * 1 ≤ 140737488355328) ∧
    (∃ inv23 : Int → Int → (List Int) → Prop, ∃ mu23 : Int → Int → (List Int) → Nat, inv23 u0 0 (List.replicate u1.toNat (0 : Int)) ∧
    (∀ (x0 : Int) (x10 : Int) (zg90 : List Int), inv23 x0 x10 zg90 →
    (((decide (x10 < u1)) = true →
      ((0 ≤ w64 ((w64 (u1 - 1)) - x10) ∧ w64 ((w64 (u1 - 1)) - x10) < (zg90.length : Int)) ∧
      (inv23 (bShr .u64 x0 1) (w64 (x10 + 1)) (zg90.set (w64 ((w64 (u1 - 1)) - x10)).toNat (w8 (48 + (w8 (bAnd .u64 x0 1))))) ∧ mu23 (bShr .u64 x0 1) (w64 (x10 + 1)) (zg90.set (w64 ((w64 (u1 - 1)) - x10)).toNat (w8 (48 + (w8 (bAnd .u64 x0 1))))) < mu23 x0 x10 zg90))) ∧
    ((decide (x10 < u1)) = false →
      (K (bstr zg90)))))))

/-! Pure proofs: no program in sight. -/
/-- strings.Trim at a set of ASCII bytes. -/
def trimS (l cs : List UInt8) : List UInt8 := ((l.reverse.dropWhile (cs.contains ·)).reverse).dropWhile (cs.contains ·)
/-- strings.Count of one byte. -/
def count1S (l c : List UInt8) : Int := match c with | [x] => ((l.count x : Nat) : Int) | _ => 0
def isBit (c : UInt8) : Bool := c == 48 || c == 49
def isRow (b : List UInt8) : Bool := b.all isBit
def flip (c : UInt8) : UInt8 := if c = 48 then 49 else 48
theorem isBit_or {c : UInt8} (h : isBit c = true) : c = 48 ∨ c = 49 := by simpa [isBit] using h
theorem isRow_mem {b : List UInt8} (h : isRow b = true) {c : UInt8} (hc : c ∈ b) : c = 48 ∨ c = 49 := isBit_or (List.all_eq_true.1 h c hc)
theorem isRow_append {a b : List UInt8} : isRow (a ++ b) = (isRow a && isRow b) := by simp [isRow]
theorem isRow_cons {c : UInt8} {b : List UInt8} : isRow (c :: b) = (isBit c && isRow b) := rfl
theorem isRow_take {b : List UInt8} (h : isRow b = true) (k : Nat) : isRow (b.take k) = true := List.all_eq_true.2 fun c hc => List.all_eq_true.1 h c (List.mem_of_mem_take hc)
theorem isRow_drop {b : List UInt8} (h : isRow b = true) (k : Nat) : isRow (b.drop k) = true := List.all_eq_true.2 fun c hc => List.all_eq_true.1 h c (List.mem_of_mem_drop hc)
theorem isBit_flip (c : UInt8) : isBit (flip c) = true := by unfold flip; split <;> rfl
theorem wu64_eq (x : Int) (h : 0 ≤ x ∧ x ≤ 18446744073709551615) : wu64 x = x := IntWalk.u64_in x h
theorem w8_eq (x : Int) (h : 0 ≤ x ∧ x ≤ 255) : w8 x = x := IntWalk.u8_in x h
theorem shl1 (n : Nat) (h : n < 9223372036854775808) : bShl .u64 (n : Int) 1 = ((2 * n : Nat) : Int) := by
  unfold bShl
  have : (n : Int) * 2 ^ (min (1 : Int).toNat IntKind.u64.bits) = ((2 * n : Nat) : Int) := by
    show (n : Int) * 2 ^ 1 = _
    omega
  rw [this]
  exact wu64_eq _ (by omega)
theorem or_bit (m d : Nat) (hm : m < 9223372036854775808) (hd : d < 2) : bOr .u64 ((2 * m : Nat) : Int) (d : Int) = ((2 * m + d : Nat) : Int) := by
  have e : (BitVec.ofInt IntKind.u64.bits ((2 * m : Nat) : Int) ||| BitVec.ofInt IntKind.u64.bits (d : Int)).toNat = 2 * m + d := by
    rw [BitVec.toNat_or]
    show (BitVec.ofInt 64 ((2 * m : Nat) : Int)).toNat ||| (BitVec.ofInt 64 (d : Int)).toNat = _
    rw [ofInt_toNat (2 * m) (by omega), ofInt_toNat d (by omega)]
    have h := Nat.shiftLeft_add_eq_or_of_lt (i := 1) (b := d) (by omega) m
    rw [Nat.shiftLeft_eq] at h
    have e2 : m * 2 ^ 1 = 2 * m := by omega
    rw [e2] at h
    exact h.symm
  unfold bOr
  rw [e]
  exact wu64_eq _ (by omega)
theorem and1 (n : Nat) (h : n < 18446744073709551616) : bAnd .u64 (n : Int) 1 = ((n % 2 : Nat) : Int) := by
  have e : (BitVec.ofInt IntKind.u64.bits (n : Int) &&& BitVec.ofInt IntKind.u64.bits (1 : Int)).toNat = n % 2 := by
    rw [BitVec.toNat_and]
    show (BitVec.ofInt 64 (n : Int)).toNat &&& (BitVec.ofInt 64 ((1 : Nat) : Int)).toNat = _
    rw [ofInt_toNat n h, ofInt_toNat 1 (by omega), Nat.and_one_is_mod]
  unfold bAnd
  rw [e]
  exact wu64_eq _ (by omega)
theorem shr1 (n : Nat) : bShr .u64 (n : Int) 1 = ((n / 2 : Nat) : Int) := by
  unfold bShr
  show (n : Int).fdiv (2 ^ 1) = _
  rw [Int.fdiv_eq_ediv_of_nonneg _ (by decide)]
  norm_cast
theorem shrN (n s : Nat) (hs : s ≤ 63) : bShr .i64 (n : Int) (s : Int) = ((n / 2 ^ s : Nat) : Int) := by
  unfold bShr
  have : min (s : Int).toNat IntKind.i64.bits = s := by simp [IntKind.bits]; omega
  rw [this, Int.fdiv_eq_ediv_of_nonneg _ (Int.le_of_lt (Int.pow_pos (by decide)))]
  norm_cast
/-- A number in so many bits. -/
def wr : Nat → Nat → List UInt8
  | 0, _ => []
  | s + 1, n => UInt8.ofNat (48 + n / 2 ^ s % 2) :: wr s n
def val : List UInt8 → Nat
  | [] => 0
  | c :: r => (c.toNat - 48) * 2 ^ r.length + val r
theorem wr_length (s n : Nat) : (wr s n).length = s := by induction s with
  | zero => rfl
  | succ s ih => simp [wr, ih]
theorem wr_bit (x : Nat) : UInt8.ofNat (48 + x % 2) = 48 ∨ UInt8.ofNat (48 + x % 2) = 49 := by
  rcases Nat.mod_two_eq_zero_or_one x with h | h <;> rw [h]
  · exact .inl rfl
  · exact .inr rfl
theorem wr_row (s n : Nat) : isRow (wr s n) = true := by
  induction s with
  | zero => rfl
  | succ s ih =>
    rw [wr, isRow_cons, ih]
    rcases wr_bit (n / 2 ^ s) with h | h <;> rw [h] <;> rfl
theorem wr_bit_val (x : Nat) : (UInt8.ofNat (48 + x % 2)).toNat - 48 = x % 2 := by
  rcases Nat.mod_two_eq_zero_or_one x with h | h <;> rw [h] <;> rfl
theorem val_wr (s n : Nat) : val (wr s n) = n % 2 ^ s := by
  induction s with
  | zero => simp [wr, val, Nat.mod_one]
  | succ s ih => rw [wr, val, wr_length, wr_bit_val, ih, Nat.pow_succ, Nat.mod_mul, Nat.mul_comm, Nat.add_comm]
theorem val_append (a b : List UInt8) : val (a ++ b) = val a * 2 ^ b.length + val b := by
  induction a with
  | nil => simp [val]
  | cons c r ih => rw [List.cons_append, val, ih, val, List.length_append, Nat.pow_add, Nat.add_mul, Nat.mul_assoc, Nat.add_assoc]
theorem val_snoc (a : List UInt8) (c : UInt8) : val (a ++ [c]) = 2 * val a + (c.toNat - 48) := by
  rw [val_append]
  simp [val]
  omega
theorem val_lt {b : List UInt8} (h : isRow b = true) : val b < 2 ^ b.length := by
  induction b with
  | nil => simp [val]
  | cons c r ih =>
    rw [isRow_cons, Bool.and_eq_true] at h
    have := ih h.2
    rw [val, List.length_cons, Nat.pow_succ]
    rcases isBit_or h.1 with rfl | rfl
    · have e : (48 : UInt8).toNat - 48 = 0 := rfl
      rw [e]; omega
    · have e : (49 : UInt8).toNat - 48 = 1 := rfl
      rw [e]; omega
theorem wr_val {b : List UInt8} (h : isRow b = true) (n : Nat) (hn : n % 2 ^ b.length = val b) : wr b.length n = b := by
  induction b with
  | nil => rfl
  | cons c r ih =>
    rw [isRow_cons, Bool.and_eq_true] at h
    have hl := val_lt h.2
    rw [val, List.length_cons, Nat.pow_succ, Nat.mod_mul] at hn
    have hm : n % 2 ^ r.length < 2 ^ r.length := Nat.mod_lt _ (Nat.two_pow_pos _)
    have hr : n % 2 ^ r.length = val r ∧ n / 2 ^ r.length % 2 = c.toNat - 48 := by
      have h2 : (2 ^ r.length * (n / 2 ^ r.length % 2) + n % 2 ^ r.length) = (2 ^ r.length * (c.toNat - 48) + val r) := by rw [Nat.mul_comm _ (c.toNat - 48)]; omega
      have h3 := congrArg (· % 2 ^ r.length) h2
      have h4 := congrArg (· / 2 ^ r.length) h2
      simp only [Nat.mul_add_mod, Nat.mod_eq_of_lt hm, Nat.mod_eq_of_lt hl] at h3
      have p := Nat.two_pow_pos r.length
      simp only [Nat.mul_add_div p, Nat.div_eq_of_lt hm, Nat.div_eq_of_lt hl, Nat.add_zero] at h4
      exact ⟨h3, h4⟩
    rw [List.length_cons, wr, ih h.2 hr.1, hr.2]
    rcases isBit_or h.1 with rfl | rfl <;> rfl
theorem take_next {α : Type} (l : List α) (k : Nat) (q : α) (hq : l[k]? = some q) : l.take (k + 1) = l.take k ++ [q] := by rw [List.take_add_one, hq]; rfl
theorem drop_this {α : Type} (l : List α) (k : Nat) (q : α) (hq : l[k]? = some q) : l.drop k = q :: l.drop (k + 1) := by
  have hk : k < l.length := (List.getElem?_eq_some_iff.1 hq).1
  rw [List.drop_eq_getElem_cons hk]
  rw [List.getElem?_eq_getElem hk] at hq
  simp at hq
  rw [hq]
theorem bstr_append (a b : List Int) : bstr (a ++ b) = bstr a ++ bstr b := by simp [bstr]
theorem bstr_one (c : UInt8) : bstr [(c.toNat : Int)] = [c] := by simp [bstr]
theorem bstr_ints (l : List UInt8) : bstr (l.map fun c => (c.toNat : Int)) = l := by
  induction l with
  | nil => rfl
  | cons c r ih => rw [List.map_cons, show bstr ((c.toNat : Int) :: r.map fun c => (c.toNat : Int)) = c :: bstr (r.map fun c => (c.toNat : Int)) by simp [bstr], ih]
theorem bstr_length (a : List Int) : (bstr a).length = a.length := by simp [bstr]
def fixF : Nat → UInt8 → List UInt8 → List UInt8
  | _, _, [] => []
  | k, a, c :: r => if k % 4 = 0 then flip a :: c :: fixF (k + 1) c r else c :: fixF (k + 1) c r
def bcheckS (b : List UInt8) : Int := if 1000 < b.length then 2 else if isRow b then 0 else 4
def breadS (b : List UInt8) : Int := (val b : Int)
def bwriteS (n s : Int) : List UInt8 := wr s.toNat n.toNat
def rsameS : List UInt8 → Bool
  | [] => true
  | c :: r => r.all (· == c)
theorem dropWhile_nil {α : Type} (p : α → Bool) (l : List α) : l.dropWhile p = [] ↔ l.all p = true := by
  induction l with
  | nil => simp
  | cons x l ih =>
    rw [List.dropWhile_cons]
    cases h : p x <;> simp [h, ih]
theorem trim_row (b : List UInt8) : trimS b [48, 49] = [] ↔ isRow b = true := by
  have e : ∀ l : List UInt8, l.all (fun x => ([48, 49] : List UInt8).contains x) = isRow l := by
    intro l
    unfold isRow
    congr 1
    funext x
    simp only [isBit, List.contains_cons, List.contains_nil, Bool.or_false]
  unfold trimS
  rw [dropWhile_nil, e]
  constructor
  · intro h
    -- what is left at the right end is no bit, unless nothing is left
    have h1 : ∀ l : List UInt8, isRow (l.dropWhile (fun x => ([48, 49] : List UInt8).contains x)) = true → isRow l = true := by
      intro l
      induction l with
      | nil => exact fun h => h
      | cons x l ih =>
        rw [List.dropWhile_cons]
        split
        · rename_i hx
          intro h
          rw [isRow_cons, ih h, Bool.and_true]
          simpa [isBit] using hx
        · exact fun h => h
    have h2 : ∀ l : List UInt8, isRow l.reverse = isRow l := fun l => by simp [isRow]
    rw [h2] at h
    have := h1 _ h
    rwa [h2] at this
  · intro h
    refine List.all_eq_true.2 fun c hc => ?_
    have hc := List.mem_reverse.1 hc
    have hc := (List.dropWhile_sublist _).subset hc
    exact List.all_eq_true.1 h c (List.mem_reverse.1 hc)
theorem count_row (b : List UInt8) : b.count 48 + b.count 49 ≤ b.length ∧ (b.count 48 + b.count 49 = b.length ↔ isRow b = true) := by
  induction b with
  | nil => simp [isRow]
  | cons c r ih =>
    rw [isRow_cons, List.count_cons, List.count_cons, List.length_cons]
    by_cases h1 : c = 48
    · subst h1
      have e : isBit 48 = true := rfl
      simp only [e, Bool.true_and, beq_self_eq_true, if_true, show ((48 : UInt8) == 49) = false by rfl, Bool.false_eq_true, if_false]
      rw [← ih.2]
      omega
    · by_cases h2 : c = 49
      · subst h2
        have e : isBit 49 = true := rfl
        simp only [e, Bool.true_and, beq_self_eq_true, if_true, show ((49 : UInt8) == 48) = false by rfl, Bool.false_eq_true, if_false]
        rw [← ih.2]
        omega
      · have e : isBit c = false := by simp [isBit, h1, h2]
        simp only [e, Bool.false_and, beq_iff_eq, h1, h2, if_false]
        constructor
        · omega
        · constructor
          · omega
          · intro h; cases h
theorem bwrite_ok (n s : Int) (h : 0 ≤ s ∧ s ≤ 64 ∧ 0 ≤ n ∧ n < 2 ^ 62) : bwrite_vc n s (fun r => r = bwriteS n s) := by
  obtain ⟨m, rfl⟩ : ∃ m : Nat, s = m := ⟨s.toNat, by omega⟩
  obtain ⟨v, rfl⟩ : ∃ v : Nat, n = v := ⟨n.toNat, by omega⟩
  have p62 : (2 : Int) ^ 62 = 4611686018427387904 := rfl
  refine ⟨by omega, fun x i z => ∃ k : Nat, i = k ∧ k ≤ m ∧ x = ((v / 2 ^ k : Nat) : Int) ∧ z.length = m ∧ z.drop (m - k) = (wr k v).map (fun c => (c.toNat : Int)), fun _ i _ => m - i.toNat,
    ⟨0, rfl, by omega, by simp, by simp, by simp [wr]⟩, ?_⟩
  rintro _ _ z ⟨k, rfl, hk, rfl, hz, hd⟩
  refine ⟨fun h1 => ?_, fun h1 => ?_⟩
  · have hkm : k < m := by simp at h1; omega
    have e1 : w64 (w64 ((m : Int) - 1) - k) = ((m - 1 - k : Nat) : Int) := by
      rw [w64_eq ((m : Int) - 1) (by omega), w64_eq _ (by omega)]
      omega
    have hv : v / 2 ^ k < 18446744073709551616 := Nat.lt_of_le_of_lt (Nat.div_le_self _ _) (by omega)
    rw [e1, and1 _ hv, shr1, w64_succ k (by omega)]
    refine ⟨by omega, ⟨k + 1, rfl, by omega, ?_, by simpa using hz, ?_⟩, by dsimp only; omega⟩
    · rw [Nat.div_div_eq_div_mul, Nat.pow_succ]
    · have e2 : m - (k + 1) = m - 1 - k := by omega
      rw [e2, Int.toNat_natCast, wr, List.map_cons, ← hd]
      have hlt : m - 1 - k < z.length := by omega
      have e3 : m - k = m - 1 - k + 1 := by omega
      rw [e3, List.drop_eq_getElem_cons (by simpa using hlt), List.getElem_set_self]
      congr 1
      · rcases Nat.mod_two_eq_zero_or_one (v / 2 ^ k) with hh | hh <;> rw [hh] <;> rfl
      · rw [List.drop_set_of_lt (by omega)]
  · have : k = m := by simp at h1; omega
    subst this
    have e2 : k - k = 0 := by omega
    rw [e2, List.drop_zero] at hd
    show bstr z = wr (k : Int).toNat (v : Int).toNat
    rw [hd, Int.toNat_natCast, Int.toNat_natCast, bstr_ints]

end Go.Proofs.Ytginlmgkimfjmaa
set_option linter.unusedVariables false
set_option linter.unusedSimpArgs false
namespace Go.Proofs.Ytginlmgkimfjmaa
open Go.Sy Go.RowKit
def bof_vc (u0 : List Int) (K : ((List UInt8) × Int) → Prop) : Prop :=
  (u0.length ≤ 140737488355328 →
    (((decide ((u0.length : Int) > 125)) = true →
      (K ([], 2))) ∧
    ((decide ((u0.length : Int) > 125)) = false →
      (∃ inv39 : Int → (List UInt8) → Prop, ∃ mu39 : Int → (List UInt8) → Nat, inv39 0 ([] : List UInt8) ∧
      (∀ (x12 : Int) (yb26 : List UInt8), inv39 x12 yb26 →
      (((decide (x12 < (u0.length : Int))) = true →
        ((0 ≤ x12 ∧ x12 < (u0.length : Int)) ∧
        (∀ q64, u0[x12.toNat]? = some q64 →
        ((0 ≤ (8 : Int) ∧ (8 : Int) ≤ 64 ∧ 0 ≤ (wu64 q64) ∧ (wu64 q64) < 2 ^ 62) ∧
        ((yb26.length + (bwriteS (wu64 q64) 8).length ≤ 140737488355328) ∧
        (inv39 (w64 (x12 + 1)) (yb26 ++ (bwriteS (wu64 q64) 8)) ∧ mu39 (w64 (x12 + 1)) (yb26 ++ (bwriteS (wu64 q64) 8)) < mu39 x12 yb26)))))) ∧
      ((decide (x12 < (u0.length : Int))) = false →
        (K (yb26, 0)))))))))

/-! Pure proofs: no program in sight. -/
def ofb : List Int → List UInt8
  | [] => []
  | x :: r => wr 8 x.toNat ++ ofb r
theorem ofb_append (a b : List Int) : ofb (a ++ b) = ofb a ++ ofb b := by
  induction a with
  | nil => rfl
  | cons x r ih => simp [ofb, ih]
theorem ofb_length (a : List Int) : (ofb a).length = 8 * a.length := by
  induction a with
  | nil => rfl
  | cons x r ih => rw [ofb, List.length_append, wr_length, ih, List.length_cons]; omega
theorem ofb_row (a : List Int) : isRow (ofb a) = true := by
  induction a with
  | nil => rfl
  | cons x r ih => rw [ofb, isRow_append, wr_row, ih]; rfl
def bofS (l : List Int) : List UInt8 × Int := if 125 < l.length then ([], 2) else (ofb l, 0)
theorem bof_ok (l : List Int) (h : ∀ x ∈ l, 0 ≤ x ∧ x ≤ 255) : bof_vc l (fun r => r = bofS l) := by
  intro hl
  refine ⟨fun h1 => ?_, fun h1 => ?_⟩
  · unfold bofS
    rw [if_pos (by simp at h1; omega)]
  · have hn : ¬ 125 < l.length := by simp at h1; omega
    have hS : bofS l = (ofb l, 0) := by unfold bofS; rw [if_neg hn]
    rw [hS]
    refine ⟨fun i y => ∃ k : Nat, i = k ∧ k ≤ l.length ∧ y = ofb (l.take k), fun i _ => l.length - i.toNat, ⟨0, rfl, by omega, rfl⟩, ?_⟩
    rintro _ _ ⟨k, rfl, hk, rfl⟩
    refine ⟨fun h2 => ⟨by simp at h2; omega, fun q hq => ?_⟩, fun h2 => ?_⟩
    · rw [Int.toNat_natCast] at hq
      have hkl : k < l.length := (List.getElem?_eq_some_iff.1 hq).1
      have hqb := h q (List.mem_of_getElem? hq)
      have ew : w64 ((k : Int) + 1) = ((k + 1 : Nat) : Int) := w64_succ k (by omega)
      have e8 : wu64 q = q := wu64_eq q (by omega)
      have p62 : (2 : Int) ^ 62 = 4611686018427387904 := rfl
      have eb : bwriteS q 8 = wr 8 q.toNat := rfl
      rw [ew, e8, eb]
      refine ⟨by omega, ?_, ⟨k + 1, rfl, by omega, ?_⟩, by (try dsimp only); omega⟩
      · rw [ofb_length, wr_length, List.length_take]; omega
      · rw [take_next l k q hq, ofb_append]
        simp [ofb]
    · have : k = l.length := by simp at h2; omega
      subst this
      rw [List.take_length]

end Go.Proofs.Ytginlmgkimfjmaa
set_option linter.unusedVariables false
set_option linter.unusedSimpArgs false
namespace Go.Proofs.Ytginlmgkimfjmaa
open Go.Sy Go.RowKit
def fsizes_vc  (K : (List Int) → Prop) : Prop :=
  (K ([0, 1, 2, 3, 4, 5, 6, 7, 8, 12, 16, 20, 24, 32, 48, 64] : List Int))
def fsizes  : (List Int) :=
  ([0, 1, 2, 3, 4, 5, 6, 7, 8, 12, 16, 20, 24, 32, 48, 64] : List Int)
theorem fsizes_ok  : fsizes_vc  (fun r => r = fsizes ) := (by rfl)

def fbit_vc (u0 : Bool) (K : (List UInt8) → Prop) : Prop :=
  ((u0 = true →
      (K ([49] : List UInt8))) ∧
    (u0 = false →
      (K ([48] : List UInt8))))
def fbit (u0 : Bool) : (List UInt8) :=
  bif u0 then ([49] : List UInt8)
    else ([48] : List UInt8)
theorem fbit_ok (u0 : Bool) : fbit_vc u0 (fun r => r = fbit u0) := ⟨fun h0 => (by simp only [fbit, h0, cond_true, cond_false]), fun h0 => (by simp only [fbit, h0, cond_true, cond_false])⟩

def smost_vc (u0 : Int) (K : (Int × Int) → Prop) : Prop :=
  ((((decide (u0 < 0)) || (decide (u0 > 1000))) = true →
      (K (0, 3))) ∧
    (((decide (u0 < 0)) || (decide (u0 > 1000))) = false →
      (((u0 == 0) = true →
        (K (0, 0))) ∧
      ((u0 == 0) = false →
        (K (w64 (u0 + (w64 ((w64 (u0 - 1)).tdiv 4))), 0))))))
def smost (u0 : Int) : Int × Int :=
  bif (decide (u0 < 0)) || (decide (u0 > 1000)) then (0, 3)
    else bif u0 == 0 then (0, 0)
    else (w64 (u0 + (w64 ((w64 (u0 - 1)).tdiv 4))), 0)
theorem smost_ok (u0 : Int) : smost_vc u0 (fun r => r = smost u0) := ⟨fun h0 => (by simp only [smost, h0, cond_true, cond_false]), fun h0 => ⟨fun h1 => (by simp only [smost, h0, h1, cond_true, cond_false]), fun h1 => (by simp only [smost, h0, h1, cond_true, cond_false])⟩⟩

def ckinds_vc  (K : (Kind × Kind × Kind × Kind × Kind) → Prop) : Prop :=
  (K ((⟨15, 17817, 0, 0⟩ : Kind), (⟨17, 92251, 65536, 0⟩ : Kind), (⟨21, 1058969, 1048576, 0⟩ : Kind), (⟨8, 47, 255, 255⟩ : Kind), (⟨16, 4129, 65535, 0⟩ : Kind)))
def ckinds  : (Kind × Kind × Kind × Kind × Kind) :=
  ((⟨15, 17817, 0, 0⟩ : Kind), (⟨17, 92251, 65536, 0⟩ : Kind), (⟨21, 1058969, 1048576, 0⟩ : Kind), (⟨8, 47, 255, 255⟩ : Kind), (⟨16, 4129, 65535, 0⟩ : Kind))
theorem ckinds_ok  : ckinds_vc  (fun r => r = ckinds ) := (by rfl)

def sindex_vc (u0 : List Int) (u1 : Int) (K : Int → Prop) : Prop :=
  (u0.length ≤ 140737488355328 →
    (∃ inv16 : Int → Prop, ∃ mu16 : Int → Nat, inv16 0 ∧
    (∀ (x8 : Int), inv16 x8 →
    (((decide (x8 < (u0.length : Int))) = true →
      ((0 ≤ x8 ∧ x8 < (u0.length : Int)) ∧
      (∀ q51, u0[x8.toNat]? = some q51 →
      (((u1 == q51) = true →
        (K x8)) ∧
      ((u1 == q51) = false →
        (inv16 (w64 (x8 + 1)) ∧ mu16 (w64 (x8 + 1)) < mu16 x8)))))) ∧
    ((decide (x8 < (u0.length : Int))) = false →
      (K (-1)))))))
theorem sindex_mono {u0 : List Int} {u1 : Int} {K K1 : Int → Prop} (hK : ∀ r, K r → K1 r) (h : sindex_vc u0 u1 K) : sindex_vc u0 u1 K1 :=
  fun z0 => (Exists.elim (h z0) fun i1 e1 => Exists.elim e1 fun m1 g1 => ⟨i1, m1, g1.1, fun x8 z1 => ⟨fun c2 => ⟨((g1.2 x8 z1).1 c2).1, fun y4 z4 => ⟨fun c5 => hK _ ((((g1.2 x8 z1).1 c2).2 y4 z4).1 c5), fun c5 => ((((g1.2 x8 z1).1 c2).2 y4 z4).2 c5)⟩⟩, fun c2 => hK _ ((g1.2 x8 z1).2 c2)⟩⟩)

def scontains_vc (u0 : List Int) (u1 : Int) (K : Bool → Prop) : Prop :=
  (u0.length ≤ 140737488355328 →
    (sindex_vc u0 u1 fun r13 =>
    (K (decide (r13 ≥ 0)))))

def fkind_vc (u0 : Frame) (K : Int → Prop) : Prop :=
  (u0.Data.length ≤ 140737488355328 →
    (((!u0.Fast) = true →
      (K 0)) ∧
    ((!u0.Fast) = false →
      (((decide ((u0.Data.length : Int) ≤ 16)) = true →
        (K 1)) ∧
      ((decide ((u0.Data.length : Int) ≤ 16)) = false →
        (K 2))))))
def fkind (u0 : Frame) : Int :=
  bif !u0.Fast then 0
    else bif decide ((u0.Data.length : Int) ≤ 16) then 1
    else 2
theorem fkind_ok (u0 : Frame) : fkind_vc u0 (fun r => r = fkind u0) := (fun _ => ⟨fun h0 => (by simp only [fkind, h0, cond_true, cond_false]), fun h0 => ⟨fun h1 => (by simp only [fkind, h0, h1, cond_true, cond_false]), fun h1 => (by simp only [fkind, h0, h1, cond_true, cond_false])⟩⟩)

def fname_vc (u0 : Frame) (K : (List UInt8) → Prop) : Prop :=
  (u0.Data.length ≤ 140737488355328 →
    (((!u0.Long) = true →
      ((0 ≤ (11 : Int) ∧ (11 : Int) ≤ 64 ∧ 0 ≤ (wu64 u0.ID) ∧ (wu64 u0.ID) < 2 ^ 62) ∧
      ((((bwriteS (wu64 u0.ID) 11).length : Int) + ((fbit u0.Remote).length : Int) ≤ 9223372036854775807) ∧
      (((((bwriteS (wu64 u0.ID) 11) ++ (fbit u0.Remote)).length : Int) + (([48] : List UInt8).length : Int) ≤ 9223372036854775807) ∧
      (K (((bwriteS (wu64 u0.ID) 11) ++ (fbit u0.Remote)) ++ ([48] : List UInt8))))))) ∧
    ((!u0.Long) = false →
      ((0 ≤ (11 : Int) ∧ (11 : Int) ≤ 64 ∧ 0 ≤ (wu64 (bShr .i64 u0.ID 18)) ∧ (wu64 (bShr .i64 u0.ID 18)) < 2 ^ 62) ∧
      ((((bwriteS (wu64 (bShr .i64 u0.ID 18)) 11).length : Int) + (([49, 49] : List UInt8).length : Int) ≤ 9223372036854775807) ∧
      ((0 ≤ (18 : Int) ∧ (18 : Int) ≤ 64 ∧ 0 ≤ (wu64 u0.ID) ∧ (wu64 u0.ID) < 2 ^ 62) ∧
      (((((bwriteS (wu64 (bShr .i64 u0.ID 18)) 11) ++ ([49, 49] : List UInt8)).length : Int) + ((bwriteS (wu64 u0.ID) 18).length : Int) ≤ 9223372036854775807) ∧
      ((((((bwriteS (wu64 (bShr .i64 u0.ID 18)) 11) ++ ([49, 49] : List UInt8)) ++ (bwriteS (wu64 u0.ID) 18)).length : Int) + ((fbit u0.Remote).length : Int) ≤ 9223372036854775807) ∧
      (K ((((bwriteS (wu64 (bShr .i64 u0.ID 18)) 11) ++ ([49, 49] : List UInt8)) ++ (bwriteS (wu64 u0.ID) 18)) ++ (fbit u0.Remote)))))))))))

def dasks_vc (u0 : Task) (u1 : Int) (u2 : Bool) (K : Int → Prop) : Prop :=
  ((u2 = true →
      ((u0.Every ≠ 0) ∧
      (K (w64 ((w64 ((w64 (u1 + u0.Jitter)).tdiv u0.Every)) + 1))))) ∧
    (u2 = false →
      ((u0.Every ≠ 0) ∧
      (K (w64 ((w64 ((w64 ((w64 (u1 + u0.Jitter)) + u0.Every)) - 1)).tdiv u0.Every))))))

def dcheck_vc (u0 : List Task) (K : Int → Prop) : Prop :=
  (u0.length ≤ 140737488355328 →
    (((decide ((u0.length : Int) > 20)) = true →
      (K 2)) ∧
    ((decide ((u0.length : Int) > 20)) = false →
      (∃ inv32 : Int → Int → Prop, ∃ mu32 : Int → Int → Nat, inv32 (-1) 0 ∧
      (∀ (x3 : Int) (x11 : Int), inv32 x3 x11 →
      (((decide (x11 < (u0.length : Int))) = true →
        ((0 ≤ x11 ∧ x11 < (u0.length : Int)) ∧
        (∀ q56, u0[x11.toNat]? = some q56 →
        ((((((((((((decide (q56.ID < 0)) || (decide (q56.ID > 2047))) || (decide (q56.Every < 1))) || (decide (q56.Every > 1000000))) || (decide (q56.Late < 0))) || (decide (q56.Late > 1000000))) || (decide (q56.Jitter < 0))) || (decide (q56.Jitter ≥ q56.Every))) || (decide (q56.Bytes < 0))) || (decide (q56.Bytes > 8))) = true →
          (K 3)) ∧
        (((((((((((decide (q56.ID < 0)) || (decide (q56.ID > 2047))) || (decide (q56.Every < 1))) || (decide (q56.Every > 1000000))) || (decide (q56.Late < 0))) || (decide (q56.Late > 1000000))) || (decide (q56.Jitter < 0))) || (decide (q56.Jitter ≥ q56.Every))) || (decide (q56.Bytes < 0))) || (decide (q56.Bytes > 8))) = false →
          (((decide (q56.ID ≤ x3)) = true →
            (K 4)) ∧
          ((decide (q56.ID ≤ x3)) = false →
            (inv32 q56.ID (w64 (x11 + 1)) ∧ mu32 q56.ID (w64 (x11 + 1)) < mu32 x3 x11)))))))) ∧
      ((decide (x11 < (u0.length : Int))) = false →
        (K 0))))))))

/-! Pure proofs: no program in sight. -/
def sidx {α : Type} (p : α → Bool) (l : List α) : Int := match l.findIdx? p with | some i => (i : Int) | none => -1
theorem sidx_at {α : Type} (p : α → Bool) (l : List α) (k : Nat) (q : α) (hq : l[k]? = some q) (hp : p q = true) (hb : ∀ j x, j < k → l[j]? = some x → p x = false) : sidx p l = k := by
  unfold sidx
  have : l.findIdx? p = some k := by
    rw [List.findIdx?_eq_some_iff_getElem]
    obtain ⟨h1, h2⟩ := List.getElem?_eq_some_iff.1 hq
    exact ⟨h1, by rw [h2]; exact hp, fun j hj => by rw [hb j _ hj (List.getElem?_eq_getElem (by omega))]; simp⟩
  rw [this]
theorem sidx_none {α : Type} (p : α → Bool) (l : List α) (hb : ∀ (j : Nat) x, l[j]? = some x → p x = false) : sidx p l = -1 := by
  unfold sidx
  have : l.findIdx? p = none := by
    rw [List.findIdx?_eq_none_iff]
    intro x hx
    obtain ⟨j, hj⟩ := List.mem_iff_getElem?.1 hx
    exact hb j x hj
  rw [this]
theorem sidx_ge {α : Type} (p : α → Bool) (l : List α) : decide (sidx p l ≥ 0) = l.any p := by
  unfold sidx
  cases h : l.findIdx? p with
  | none =>
    have : l.any p = false := by
      rw [List.findIdx?_eq_none_iff] at h
      rw [List.any_eq_false]
      intro x hx
      simp [h x hx]
    rw [this]
    rfl
  | some i =>
    have : l.any p = true := by
      rw [List.findIdx?_eq_some_iff_getElem] at h
      obtain ⟨h1, h2, _⟩ := h
      exact List.any_eq_true.2 ⟨_, List.getElem_mem h1, h2⟩
    rw [this]
    simp
theorem sindex_ok (l : List Int) (x : Int) : sindex_vc l x (fun r => r = sidx (fun q => x == q) l) := by
  intro hl
  refine rg0 hl (fun k => ∀ j y, j < k → l[j]? = some y → (x == y) = false) (fun j y h => absurd h (Nat.not_lt_zero _)) ?_ ?_
  · intro k q hk hq hj inv mu hn
    refine ⟨fun h => (sidx_at _ l k q hq h hj).symm, fun h => hn fun j y hj1 hy => ?_⟩
    rcases Nat.lt_or_ge j k with h1 | h1
    · exact hj j y h1 hy
    · have : j = k := by omega
      subst this
      rw [hq] at hy
      cases hy
      exact h
  · intro hj
    refine (sidx_none _ l fun j y hy => hj j y (List.getElem?_eq_some_iff.1 hy).1 hy).symm
def scontainsS (l : List Int) (x : Int) : Bool := l.any fun q => x == q
theorem scontains_ok (l : List Int) (x : Int) : scontains_vc l x (fun r => r = scontainsS l x) := fun _ => sindex_mono (fun r h => by subst h; exact sidx_ge _ l) (sindex_ok l x)
def fnameS (f : Frame) : List UInt8 := if f.Long = false then (wr 11 f.ID.toNat ++ fbit f.Remote) ++ [48] else ((wr 11 (f.ID.toNat / 2 ^ 18) ++ [49, 49]) ++ wr 18 f.ID.toNat) ++ fbit f.Remote
theorem fbit_len (b : Bool) : (fbit b).length = 1 := by cases b <;> rfl
theorem fbit_row (b : Bool) : isRow (fbit b) = true := by cases b <;> rfl
theorem fname_ok (f : Frame) (h : 0 ≤ f.ID ∧ f.ID ≤ 536870911) : fname_vc f (fun r => r = fnameS f) := by
  intro hl
  have p62 : (2 : Int) ^ 62 = 4611686018427387904 := rfl
  have e1 : wu64 f.ID = f.ID := wu64_eq _ (by omega)
  have e2 : bShr .i64 f.ID 18 = ((f.ID.toNat / 2 ^ 18 : Nat) : Int) := by
    have := shrN f.ID.toNat 18 (by omega)
    rw [show ((f.ID.toNat : Nat) : Int) = f.ID by omega] at this
    exact this
  have hd : f.ID.toNat / 2 ^ 18 ≤ f.ID.toNat := Nat.div_le_self _ _
  have e3 : wu64 (bShr .i64 f.ID 18) = ((f.ID.toNat / 2 ^ 18 : Nat) : Int) := by rw [e2]; exact wu64_eq _ (by omega)
  have b1 : ∀ n s : Int, (bwriteS n s).length = s.toNat := fun n s => wr_length _ _
  have b2 := fbit_len f.Remote
  rw [e1, e3]
  refine ⟨fun h1 => ⟨by omega, by rw [b1, b2]; decide, by rw [List.length_append, b1, b2]; decide, ?_⟩, fun h1 => ⟨by omega, by rw [b1]; decide, by omega, by rw [List.length_append, b1, b1]; decide, by rw [List.length_append, List.length_append, b1, b1, b2]; decide, ?_⟩⟩
  · unfold fnameS
    rw [if_pos (by simpa using h1)]
    rfl
  · unfold fnameS
    rw [if_neg (by simpa using h1)]
    unfold bwriteS
    rw [Int.toNat_natCast]
    rfl
theorem fnameS_len (f : Frame) : (fnameS f).length = if f.Long = false then 13 else 32 := by
  unfold fnameS
  split <;> simp [wr_length, fbit_len]
theorem fnameS_row (f : Frame) : isRow (fnameS f) = true := by
  unfold fnameS
  split <;> simp only [isRow_append, wr_row, fbit_row] <;> rfl
def dasksS (t : Task) (x : Int) (at_ : Bool) : Int := if at_ = true then w64 (w64 ((w64 (x + t.Jitter)).tdiv t.Every) + 1) else w64 ((w64 (w64 (w64 (x + t.Jitter) + t.Every) - 1)).tdiv t.Every)
theorem dasks_ok (t : Task) (x : Int) (a : Bool) (h : t.Every ≠ 0) : dasks_vc t x a (fun r => r = dasksS t x a) := by
  unfold dasksS
  refine ⟨fun h1 => ⟨h, by rw [if_pos h1]⟩, fun h1 => ⟨h, by rw [if_neg (by simp [h1])]⟩⟩
def tok (t : Task) : Bool := decide (0 ≤ t.ID) && decide (t.ID ≤ 2047) && decide (1 ≤ t.Every) && decide (t.Every ≤ 1000000) && decide (0 ≤ t.Late) && decide (t.Late ≤ 1000000) && decide (0 ≤ t.Jitter) && decide (t.Jitter < t.Every) && decide (0 ≤ t.Bytes) && decide (t.Bytes ≤ 8)
theorem tok_spec {t : Task} (h : tok t = true) : 0 ≤ t.ID ∧ t.ID ≤ 2047 ∧ 1 ≤ t.Every ∧ t.Every ≤ 1000000 ∧ 0 ≤ t.Late ∧ t.Late ≤ 1000000 ∧ 0 ≤ t.Jitter ∧ t.Jitter < t.Every ∧ 0 ≤ t.Bytes ∧ t.Bytes ≤ 8 := by
  simp only [tok, Bool.and_eq_true, decide_eq_true_eq] at h
  omega
def dchk : Int → List Task → Int
  | _, [] => 0
  | last, t :: r => if tok t = false then 3 else if t.ID ≤ last then 4 else dchk t.ID r
def dcheckS (l : List Task) : Int := if 20 < l.length then 2 else dchk (-1) l
theorem dcheck_ok (l : List Task) : dcheck_vc l (fun r => r = dcheckS l) := by
  intro hl
  refine ⟨fun h => ?_, fun h => ?_⟩
  · unfold dcheckS
    rw [if_pos (by simp at h; omega)]
  · have hn : ¬ 20 < l.length := by simp at h; omega
    have hS : dcheckS l = dchk (-1) l := by unfold dcheckS; rw [if_neg hn]
    rw [hS]
    refine rg1b hl (fun k last => dchk last (l.drop k) = dchk (-1) l) rfl ?_ ?_
    · intro k last q hk hq hj inv mu hn2
      rw [drop_this l k q hq, dchk] at hj
      refine ⟨fun h1 => ?_, fun h1 => ?_⟩
      · have : tok q = false := by
          unfold tok
          simp at h1 ⊢
          omega
        rw [if_pos this] at hj
        exact hj
      · have : tok q = true := by
          unfold tok
          simp at h1 ⊢
          omega
        rw [if_neg (by simp [this])] at hj
        refine ⟨fun h2 => ?_, fun h2 => ?_⟩
        · rw [if_pos (by simpa using h2)] at hj
          exact hj
        · rw [if_neg (by simpa using h2)] at hj
          exact hn2 _ hj
    · intro last hj
      rw [List.drop_length] at hj
      exact hj
def sindexS (l : List Int) (x : Int) : Int := sidx (fun q => x == q) l
theorem sindex_ok2 (l : List Int) (x : Int) : sindex_vc l x (fun r => r = sindexS l x) := sindex_ok l x

end Go.Proofs.Ytginlmgkimfjmaa
set_option linter.unusedVariables false
set_option linter.unusedSimpArgs false
namespace Go.Proofs.Ytginlmgkimfjmaa
open Go.Sy Go.RowKit
def fcheckfr_vc (u0 : Frame) (K : Int → Prop) : Prop :=
  (u0.Data.length ≤ 140737488355328 →
    (((((decide (u0.ID < 0)) || ((!u0.Long) && (decide (u0.ID > 2047)))) || (decide (u0.ID > 536870911))) = true →
      (K 3)) ∧
    ((((decide (u0.ID < 0)) || ((!u0.Long) && (decide (u0.ID > 2047)))) || (decide (u0.ID > 536870911))) = false →
      (((u0.Remote && (u0.Fast || (decide ((u0.Data.length : Int) > 0)))) = true →
        (K 4)) ∧
      ((u0.Remote && (u0.Fast || (decide ((u0.Data.length : Int) > 0)))) = false →
        (((((decide (u0.Size < 0)) || (decide (u0.Size > 8))) || ((!u0.Remote) && (u0.Size != 0))) = true →
          (K 3)) ∧
        ((((decide (u0.Size < 0)) || (decide (u0.Size > 8))) || ((!u0.Remote) && (u0.Size != 0))) = false →
          ((((decide ((u0.Data.length : Int) > 64)) || ((!u0.Fast) && (decide ((u0.Data.length : Int) > 8)))) = true →
            (K 2)) ∧
          (((decide ((u0.Data.length : Int) > 64)) || ((!u0.Fast) && (decide ((u0.Data.length : Int) > 8)))) = false →
            (((!(scontainsS fsizes (u0.Data.length : Int))) = true →
              (K 4)) ∧
            ((!(scontainsS fsizes (u0.Data.length : Int))) = false →
              (K 0))))))))))))
def fcheckfr (u0 : Frame) : Int :=
  bif ((decide (u0.ID < 0)) || ((!u0.Long) && (decide (u0.ID > 2047)))) || (decide (u0.ID > 536870911)) then 3
    else bif u0.Remote && (u0.Fast || (decide ((u0.Data.length : Int) > 0))) then 4
    else bif ((decide (u0.Size < 0)) || (decide (u0.Size > 8))) || ((!u0.Remote) && (u0.Size != 0)) then 3
    else bif (decide ((u0.Data.length : Int) > 64)) || ((!u0.Fast) && (decide ((u0.Data.length : Int) > 8))) then 2
    else bif !(scontainsS fsizes (u0.Data.length : Int)) then 4
    else 0
theorem fcheckfr_ok (u0 : Frame) : fcheckfr_vc u0 (fun r => r = fcheckfr u0) := (fun _ => ⟨fun h0 => (by simp only [fcheckfr, h0, cond_true, cond_false]), fun h0 => ⟨fun h1 => (by simp only [fcheckfr, h0, h1, cond_true, cond_false]), fun h1 => ⟨fun h2 => (by simp only [fcheckfr, h0, h1, h2, cond_true, cond_false]), fun h2 => ⟨fun h3 => (by simp only [fcheckfr, h0, h1, h2, h3, cond_true, cond_false]), fun h3 => ⟨fun h4 => (by simp only [fcheckfr, h0, h1, h2, h3, h4, cond_true, cond_false]), fun h4 => (by simp only [fcheckfr, h0, h1, h2, h3, h4, cond_true, cond_false])⟩⟩⟩⟩⟩)

def csize_vc (u0 : Int) (K : (Int × Int) → Prop) : Prop :=
  ((((decide (u0 < 0)) || (decide (u0 ≥ 5))) = true →
      (K (0, 8))) ∧
    (((decide (u0 < 0)) || (decide (u0 ≥ 5))) = false →
      ((0 ≤ u0 ∧ u0 < 5) ∧
      (K (([ckinds.1.Size, ckinds.2.1.Size, ckinds.2.2.1.Size, ckinds.2.2.2.1.Size, ckinds.2.2.2.2.Size] : List Int).getD u0.toNat 0, 0)))))
def csize (u0 : Int) : Int × Int :=
  bif (decide (u0 < 0)) || (decide (u0 ≥ 5)) then (0, 8)
    else (([ckinds.1.Size, ckinds.2.1.Size, ckinds.2.2.1.Size, ckinds.2.2.2.1.Size, ckinds.2.2.2.2.Size] : List Int).getD u0.toNat 0, 0)
theorem csize_ok (u0 : Int) : csize_vc u0 (fun r => r = csize u0) := ⟨fun h0 => (by simp only [csize, h0, cond_true, cond_false]), fun h0 => ⟨(by (try simp at h0); omega), (by simp only [csize, h0, cond_true, cond_false])⟩⟩

def fhead_vc (u0 : Frame) (K : (List UInt8) → Prop) : Prop :=
  (u0.Data.length ≤ 140737488355328 →
    (((!u0.Remote) = true →
      ((0 ≤ u0.ID ∧ u0.ID ≤ 536870911) ∧
      (((([48] : List UInt8).length : Int) + ((fnameS u0).length : Int) ≤ 9223372036854775807) ∧
      ((u0.Fast = true →
        ((((([48] : List UInt8) ++ (fnameS u0)).length : Int) + (([49, 48, 49, 48] : List UInt8).length : Int) ≤ 9223372036854775807) ∧
        ((∀ x ∈ u0.Data, 0 ≤ x ∧ x ≤ 255) ∧
        ((0 ≤ (4 : Int) ∧ (4 : Int) ≤ 64 ∧ 0 ≤ (wu64 (sindexS fsizes (u0.Data.length : Int))) ∧ (wu64 (sindexS fsizes (u0.Data.length : Int))) < 2 ^ 62) ∧
        (((((([48] : List UInt8) ++ (fnameS u0)) ++ ([49, 48, 49, 48] : List UInt8)).length : Int) + ((bwriteS (wu64 (sindexS fsizes (u0.Data.length : Int))) 4).length : Int) ≤ 9223372036854775807) ∧
        ((((((([48] : List UInt8) ++ (fnameS u0)) ++ ([49, 48, 49, 48] : List UInt8)) ++ (bwriteS (wu64 (sindexS fsizes (u0.Data.length : Int))) 4)).length : Int) + ((bofS u0.Data).1.length : Int) ≤ 9223372036854775807) ∧
        (K ((((([48] : List UInt8) ++ (fnameS u0)) ++ ([49, 48, 49, 48] : List UInt8)) ++ (bwriteS (wu64 (sindexS fsizes (u0.Data.length : Int))) 4)) ++ (bofS u0.Data).1)))))))) ∧
      (u0.Fast = false →
        ((u0.Long = true →
          ((((([48] : List UInt8) ++ (fnameS u0)).length : Int) + (([48, 48] : List UInt8).length : Int) ≤ 9223372036854775807) ∧
          ((∀ x ∈ u0.Data, 0 ≤ x ∧ x ≤ 255) ∧
          ((0 ≤ (4 : Int) ∧ (4 : Int) ≤ 64 ∧ 0 ≤ (wu64 (sindexS fsizes (u0.Data.length : Int))) ∧ (wu64 (sindexS fsizes (u0.Data.length : Int))) < 2 ^ 62) ∧
          (((((([48] : List UInt8) ++ (fnameS u0)) ++ ([48, 48] : List UInt8)).length : Int) + ((bwriteS (wu64 (sindexS fsizes (u0.Data.length : Int))) 4).length : Int) ≤ 9223372036854775807) ∧
          ((((((([48] : List UInt8) ++ (fnameS u0)) ++ ([48, 48] : List UInt8)) ++ (bwriteS (wu64 (sindexS fsizes (u0.Data.length : Int))) 4)).length : Int) + ((bofS u0.Data).1.length : Int) ≤ 9223372036854775807) ∧
          (K ((((([48] : List UInt8) ++ (fnameS u0)) ++ ([48, 48] : List UInt8)) ++ (bwriteS (wu64 (sindexS fsizes (u0.Data.length : Int))) 4)) ++ (bofS u0.Data).1)))))))) ∧
        (u0.Long = false →
          ((((([48] : List UInt8) ++ (fnameS u0)).length : Int) + (([48] : List UInt8).length : Int) ≤ 9223372036854775807) ∧
          ((∀ x ∈ u0.Data, 0 ≤ x ∧ x ≤ 255) ∧
          ((0 ≤ (4 : Int) ∧ (4 : Int) ≤ 64 ∧ 0 ≤ (wu64 (sindexS fsizes (u0.Data.length : Int))) ∧ (wu64 (sindexS fsizes (u0.Data.length : Int))) < 2 ^ 62) ∧
          (((((([48] : List UInt8) ++ (fnameS u0)) ++ ([48] : List UInt8)).length : Int) + ((bwriteS (wu64 (sindexS fsizes (u0.Data.length : Int))) 4).length : Int) ≤ 9223372036854775807) ∧
          ((((((([48] : List UInt8) ++ (fnameS u0)) ++ ([48] : List UInt8)) ++ (bwriteS (wu64 (sindexS fsizes (u0.Data.length : Int))) 4)).length : Int) + ((bofS u0.Data).1.length : Int) ≤ 9223372036854775807) ∧
          (K ((((([48] : List UInt8) ++ (fnameS u0)) ++ ([48] : List UInt8)) ++ (bwriteS (wu64 (sindexS fsizes (u0.Data.length : Int))) 4)) ++ (bofS u0.Data).1)))))))))))))) ∧
    ((!u0.Remote) = false →
      ((0 ≤ u0.ID ∧ u0.ID ≤ 536870911) ∧
      (((([48] : List UInt8).length : Int) + ((fnameS u0).length : Int) ≤ 9223372036854775807) ∧
      ((u0.Fast = true →
        ((((([48] : List UInt8) ++ (fnameS u0)).length : Int) + (([49, 48, 49, 48] : List UInt8).length : Int) ≤ 9223372036854775807) ∧
        ((∀ x ∈ u0.Data, 0 ≤ x ∧ x ≤ 255) ∧
        ((0 ≤ (4 : Int) ∧ (4 : Int) ≤ 64 ∧ 0 ≤ (wu64 u0.Size) ∧ (wu64 u0.Size) < 2 ^ 62) ∧
        (((((([48] : List UInt8) ++ (fnameS u0)) ++ ([49, 48, 49, 48] : List UInt8)).length : Int) + ((bwriteS (wu64 u0.Size) 4).length : Int) ≤ 9223372036854775807) ∧
        ((((((([48] : List UInt8) ++ (fnameS u0)) ++ ([49, 48, 49, 48] : List UInt8)) ++ (bwriteS (wu64 u0.Size) 4)).length : Int) + ((bofS u0.Data).1.length : Int) ≤ 9223372036854775807) ∧
        (K ((((([48] : List UInt8) ++ (fnameS u0)) ++ ([49, 48, 49, 48] : List UInt8)) ++ (bwriteS (wu64 u0.Size) 4)) ++ (bofS u0.Data).1)))))))) ∧
      (u0.Fast = false →
        ((u0.Long = true →
          ((((([48] : List UInt8) ++ (fnameS u0)).length : Int) + (([48, 48] : List UInt8).length : Int) ≤ 9223372036854775807) ∧
          ((∀ x ∈ u0.Data, 0 ≤ x ∧ x ≤ 255) ∧
          ((0 ≤ (4 : Int) ∧ (4 : Int) ≤ 64 ∧ 0 ≤ (wu64 u0.Size) ∧ (wu64 u0.Size) < 2 ^ 62) ∧
          (((((([48] : List UInt8) ++ (fnameS u0)) ++ ([48, 48] : List UInt8)).length : Int) + ((bwriteS (wu64 u0.Size) 4).length : Int) ≤ 9223372036854775807) ∧
          ((((((([48] : List UInt8) ++ (fnameS u0)) ++ ([48, 48] : List UInt8)) ++ (bwriteS (wu64 u0.Size) 4)).length : Int) + ((bofS u0.Data).1.length : Int) ≤ 9223372036854775807) ∧
          (K ((((([48] : List UInt8) ++ (fnameS u0)) ++ ([48, 48] : List UInt8)) ++ (bwriteS (wu64 u0.Size) 4)) ++ (bofS u0.Data).1)))))))) ∧
        (u0.Long = false →
          ((((([48] : List UInt8) ++ (fnameS u0)).length : Int) + (([48] : List UInt8).length : Int) ≤ 9223372036854775807) ∧
          ((∀ x ∈ u0.Data, 0 ≤ x ∧ x ≤ 255) ∧
          ((0 ≤ (4 : Int) ∧ (4 : Int) ≤ 64 ∧ 0 ≤ (wu64 u0.Size) ∧ (wu64 u0.Size) < 2 ^ 62) ∧
          (((((([48] : List UInt8) ++ (fnameS u0)) ++ ([48] : List UInt8)).length : Int) + ((bwriteS (wu64 u0.Size) 4).length : Int) ≤ 9223372036854775807) ∧
          ((((((([48] : List UInt8) ++ (fnameS u0)) ++ ([48] : List UInt8)) ++ (bwriteS (wu64 u0.Size) 4)).length : Int) + ((bofS u0.Data).1.length : Int) ≤ 9223372036854775807) ∧
          (K ((((([48] : List UInt8) ++ (fnameS u0)) ++ ([48] : List UInt8)) ++ (bwriteS (wu64 u0.Size) 4)) ++ (bofS u0.Data).1))))))))))))))))

/-! Pure proofs: no program in sight. -/
theorem fcheckfr_zero {f : Frame} (h : fcheckfr f = 0) : 0 ≤ f.ID ∧ f.ID ≤ 536870911 ∧ (f.Long = false → f.ID ≤ 2047) ∧ (f.Remote = true → f.Fast = false ∧ f.Data.length = 0) ∧ 0 ≤ f.Size ∧ f.Size ≤ 8 ∧ (f.Remote = false → f.Size = 0) ∧ f.Data.length ≤ 64 ∧ (f.Fast = false → f.Data.length ≤ 8) ∧ scontainsS fsizes (f.Data.length : Int) = true := by
  unfold fcheckfr at h
  cases h1 : ((decide (f.ID < 0)) || ((!f.Long) && (decide (f.ID > 2047)))) || (decide (f.ID > 536870911)) with
  | true => rw [h1] at h; cases h
  | false =>
    rw [h1, cond_false] at h
    cases h2 : f.Remote && (f.Fast || (decide ((f.Data.length : Int) > 0))) with
    | true => rw [h2] at h; cases h
    | false =>
      rw [h2, cond_false] at h
      cases h3 : ((decide (f.Size < 0)) || (decide (f.Size > 8))) || ((!f.Remote) && (f.Size != 0)) with
      | true => rw [h3] at h; cases h
      | false =>
        rw [h3, cond_false] at h
        cases h4 : (decide ((f.Data.length : Int) > 64)) || ((!f.Fast) && (decide ((f.Data.length : Int) > 8))) with
        | true => rw [h4] at h; cases h
        | false =>
          rw [h4, cond_false] at h
          cases h5 : !(scontainsS fsizes (f.Data.length : Int)) with
          | true => rw [h5] at h; cases h
          | false =>
            simp at h1 h2 h3 h4 h5
            refine ⟨by omega, by omega, fun e => by have := h1.1.2 e; omega, fun e => ?_, by omega, by omega, fun e => h3.2 e, by omega, fun e => by have := h4.2 e; omega, h5⟩
            have := h2 e
            exact ⟨this.1, by simp [this.2]⟩
/-- What must hold of a frame whose head is asked for. -/
def fheadpre (f : Frame) : Prop := 0 ≤ f.ID ∧ f.ID ≤ 536870911 ∧ 0 ≤ f.Size ∧ f.Size ≤ 8 ∧ f.Data.length ≤ 64 ∧ (∀ x ∈ f.Data, 0 ≤ x ∧ x ≤ 255) ∧ (f.Remote = false → scontainsS fsizes (f.Data.length : Int) = true)
def fcode (f : Frame) : Nat := (if f.Remote = false then sindexS fsizes (f.Data.length : Int) else f.Size).toNat
def fctl (f : Frame) : List UInt8 := if f.Fast = true then [49, 48, 49, 48] else if f.Long = true then [48, 48] else [48]
def fheadS (f : Frame) : List UInt8 := ((([48] ++ fnameS f) ++ fctl f) ++ wr 4 (fcode f)) ++ ofb f.Data
theorem sindexS_sizes (n : Int) : -1 ≤ sindexS fsizes n ∧ sindexS fsizes n ≤ 15 := by
  unfold sindexS sidx
  cases h : fsizes.findIdx? (fun q => n == q) with
  | none => dsimp only; omega
  | some i =>
    rw [List.findIdx?_eq_some_iff_getElem] at h
    obtain ⟨h1, _⟩ := h
    have : fsizes.length = 16 := rfl
    dsimp only
    omega
theorem fhead_ok (f : Frame) (h : fheadpre f) : fhead_vc f (fun r => r = fheadS f) := by
  obtain ⟨h1, h2, h3, h4, h5, h6, h7⟩ := h
  intro hl
  have p62 : (2 : Int) ^ 62 = 4611686018427387904 := rfl
  have hlb : ∀ n s : Int, (bwriteS n s).length = s.toNat := fun n s => wr_length _ _
  have hof : (bofS f.Data).1 = ofb f.Data := by unfold bofS; rw [if_neg (by omega)]
  have hofl := ofb_length f.Data
  have hnl : (fnameS f).length ≤ 32 := by rw [fnameS_len]; split <;> omega
  have key : ∀ c : Int, 0 ≤ c → c < 16 → (f.Remote = false → c = sindexS fsizes (f.Data.length : Int)) → (f.Remote = true → c = f.Size) → wu64 c = c ∧ bwriteS c 4 = wr 4 (fcode f) := by
    intro c c0 c1 c2 c3
    refine ⟨wu64_eq _ (by omega), ?_⟩
    have : c.toNat = fcode f := by
      unfold fcode
      cases hr : f.Remote with
      | false => rw [if_pos rfl, c2 hr]
      | true => rw [if_neg (by simp), c3 hr]
    unfold bwriteS
    rw [this]
    rfl
  have hs := sindexS_sizes (f.Data.length : Int)
  refine ⟨fun h8 => ⟨⟨h1, h2⟩, by simp only [List.length_cons, List.length_nil]; omega, ?_⟩, fun h8 => ⟨⟨h1, h2⟩, by simp only [List.length_cons, List.length_nil]; omega, ?_⟩⟩
  · have hr : f.Remote = false := by simpa using h8
    have hge : 0 ≤ sindexS fsizes (f.Data.length : Int) := by
      have := sidx_ge (fun q => (f.Data.length : Int) == q) fsizes
      have h9 := h7 hr
      unfold scontainsS at h9
      rw [h9] at this
      exact of_decide_eq_true this
    obtain ⟨k1, k2⟩ := key (sindexS fsizes (f.Data.length : Int)) hge (by omega) (fun _ => rfl) (fun e => by rw [hr] at e; cases e)
    rw [k1, hof]
    refine ⟨fun h10 => ⟨by simp; omega, h6, by omega, by simp [hlb]; omega, by simp [hlb, hofl]; omega, ?_⟩, fun h10 => ⟨fun h11 => ⟨by simp; omega, h6, by omega, by simp [hlb]; omega, by simp [hlb, hofl]; omega, ?_⟩, fun h11 => ⟨by simp; omega, h6, by omega, by simp [hlb]; omega, by simp [hlb, hofl]; omega, ?_⟩⟩⟩
    all_goals
      rw [k2]
      unfold fheadS fctl
    · rw [if_pos h10]
    · rw [if_neg (by simp [h10]), if_pos h11]
    · rw [if_neg (by simp [h10]), if_neg (by simp [h11])]
  · have hr : f.Remote = true := by simpa using h8
    obtain ⟨k1, k2⟩ := key f.Size h3 (by omega) (fun e => by rw [hr] at e; cases e) (fun _ => rfl)
    rw [k1, hof]
    refine ⟨fun h10 => ⟨by simp; omega, h6, by omega, by simp [hlb]; omega, by simp [hlb, hofl]; omega, ?_⟩, fun h10 => ⟨fun h11 => ⟨by simp; omega, h6, by omega, by simp [hlb]; omega, by simp [hlb, hofl]; omega, ?_⟩, fun h11 => ⟨by simp; omega, h6, by omega, by simp [hlb]; omega, by simp [hlb, hofl]; omega, ?_⟩⟩⟩
    all_goals
      rw [k2]
      unfold fheadS fctl
    · rw [if_pos h10]
    · rw [if_neg (by simp [h10]), if_pos h11]
    · rw [if_neg (by simp [h10]), if_neg (by simp [h11])]

end Go.Proofs.Ytginlmgkimfjmaa
set_option linter.unusedVariables false
set_option linter.unusedSimpArgs false
namespace Go.Proofs.Ytginlmgkimfjmaa
open Go.Sy Go.RowKit
def flongest_vc (u0 : Bool) (u1 : Bool) (u2 : Int) (K : (Int × Int) → Prop) : Prop :=
  ((((decide (u2 < 0)) || (decide (u2 > 64))) = true →
      (K (0, 2))) ∧
    (((decide (u2 < 0)) || (decide (u2 > 64))) = false →
      ((0 ≤ u2 ∧ u2 ≤ u2 ∧ u2 * 1 ≤ 140737488355328) ∧
      ((((fcheckfr (⟨0, u0, u1, false, 0, (List.replicate u2.toNat (0 : Int))⟩ : Frame)) != 0) = true →
        (K (0, (fcheckfr (⟨0, u0, u1, false, 0, (List.replicate u2.toNat (0 : Int))⟩ : Frame))))) ∧
      (((fcheckfr (⟨0, u0, u1, false, 0, (List.replicate u2.toNat (0 : Int))⟩ : Frame)) != 0) = false →
        ((fheadpre (⟨0, u0, u1, false, 0, (List.replicate u2.toNat (0 : Int))⟩ : Frame)) ∧
        (((!u1) = true →
          (K (w64 ((smost (w64 (((fheadS (⟨0, u0, u1, false, 0, (List.replicate u2.toNat (0 : Int))⟩ : Frame)).length : Int) + 15))).1 + 10), 0))) ∧
        ((!u1) = false →
          (K (w64 ((w64 ((smost ((fheadS (⟨0, u0, u1, false, 0, (List.replicate u2.toNat (0 : Int))⟩ : Frame)).length : Int)).1 + (w64 ((w64 (4 + (csize (fkind (⟨0, u0, u1, false, 0, (List.replicate u2.toNat (0 : Int))⟩ : Frame))).1)) + (w64 ((w64 ((w64 (4 + (csize (fkind (⟨0, u0, u1, false, 0, (List.replicate u2.toNat (0 : Int))⟩ : Frame))).1)) + 3)).tdiv 4)))))) + 10), 0))))))))))

/-! Pure proofs: no program in sight. -/
abbrev lframe (lo fa : Bool) (n : Int) : Frame := ⟨0, lo, fa, false, 0, List.replicate n.toNat (0 : Int)⟩
def flongestS (lo fa : Bool) (n : Int) : Int × Int :=
  if n < 0 ∨ 64 < n then (0, 2) else if fcheckfr (lframe lo fa n) ≠ 0 then (0, fcheckfr (lframe lo fa n)) else
  if fa = false then (w64 ((smost (w64 (((fheadS (lframe lo fa n)).length : Int) + 15))).1 + 10), 0)
  else (w64 (w64 ((smost ((fheadS (lframe lo fa n)).length : Int)).1 + w64 (w64 (4 + (csize (fkind (lframe lo fa n))).1) + w64 ((w64 (w64 (4 + (csize (fkind (lframe lo fa n))).1) + 3)).tdiv 4))) + 10), 0)
theorem flongest_ok (lo fa : Bool) (n : Int) : flongest_vc lo fa n (fun r => r = flongestS lo fa n) := by
  refine ⟨fun h => ?_, fun h => ⟨?_, fun h1 => ?_, fun h1 => ⟨?_, fun h2 => ?_, fun h2 => ?_⟩⟩⟩
  · unfold flongestS
    rw [if_pos (by simpa using h)]
  · simp at h; omega
  all_goals
    have h : ¬ (n < 0 ∨ 64 < n) := by simp at h; omega
  · have h1 : fcheckfr (lframe lo fa n) ≠ 0 := by simpa using h1
    unfold flongestS
    rw [if_neg h, if_pos h1]
  · have h1 : fcheckfr (lframe lo fa n) = 0 := by simpa using h1
    obtain ⟨c1, c2, c3, c4, c5, c6, c7, c8, c9, c10⟩ := fcheckfr_zero h1
    refine ⟨c1, c2, c5, c6, c8, fun x hx => ?_, fun _ => c10⟩
    have : x = 0 := List.eq_of_mem_replicate hx
    omega
  · have h1' : fcheckfr (lframe lo fa n) = 0 := by simpa using h1
    have h1 : ¬ fcheckfr (lframe lo fa n) ≠ 0 := fun h => h h1'
    unfold flongestS
    rw [if_neg h, if_neg h1, if_pos (by simpa using h2)]
  · have h1' : fcheckfr (lframe lo fa n) = 0 := by simpa using h1
    have h1 : ¬ fcheckfr (lframe lo fa n) ≠ 0 := fun h => h h1'
    unfold flongestS
    rw [if_neg h, if_neg h1, if_neg (by simpa using h2)]

end Go.Proofs.Ytginlmgkimfjmaa
set_option linter.unusedVariables false
set_option linter.unusedSimpArgs false
namespace Go.Proofs.Ytginlmgkimfjmaa
open Go.Sy Go.RowKit
def dlong_vc (u0 : Task) (K : Int → Prop) : Prop :=
  (K (w64 ((flongestS false false u0.Bytes).1 + 3)))

/-! Pure proofs: no program in sight. -/
def dlongS (t : Task) : Int := w64 ((flongestS false false t.Bytes).1 + 3)
theorem dlong_ok (t : Task) : dlong_vc t (fun r => r = dlongS t) := rfl
def longB (b : Int) : Int := 34 + 8 * b + (33 + 8 * b) / 4 + 13
theorem longs : ∀ b : Fin 9, w64 ((flongestS false false (b.val : Int)).1 + 3) = longB b.val := by decide +kernel
theorem dlongS_eq {t : Task} (h : tok t = true) : dlongS t = longB t.Bytes ∧ 55 ≤ dlongS t ∧ dlongS t ≤ 135 := by
  have hb := tok_spec h
  have e := longs ⟨t.Bytes.toNat, by omega⟩
  have e2 : ((t.Bytes.toNat : Nat) : Int) = t.Bytes := by omega
  dsimp only at e
  rw [e2] at e
  have e3 : dlongS t = longB t.Bytes := e
  rw [e3]
  refine ⟨rfl, ?_⟩
  unfold longB
  omega
attribute [irreducible] dlongS

end Go.Proofs.Ytginlmgkimfjmaa
set_option linter.unusedVariables false
set_option linter.unusedSimpArgs false
namespace Go.Proofs.Ytginlmgkimfjmaa
open Go.Sy Go.RowKit
def dtasks_vc  (K : (List Task) → Prop) : Prop :=
  (K ([(⟨1, 8, 1000, 1000, 0⟩ : Task), (⟨2, 8, 1000, 1000, 0⟩ : Task)] : List Task))

/-! Pure proofs: no program in sight. -/
theorem dchk_ok (l : List Task) : ∀ last, dchk last l = 0 → ∀ o ∈ l, tok o = true := by
  induction l with
  | nil => intro _ _ o ho; cases ho
  | cons t r ih =>
    intro last h o ho
    rw [dchk] at h
    by_cases h1 : tok t = false
    · rw [if_pos h1] at h; cases h
    · rw [if_neg h1] at h
      by_cases h2 : t.ID ≤ last
      · rw [if_pos h2] at h; cases h
      · rw [if_neg h2] at h
        rcases List.mem_cons.1 ho with rfl | ho
        · simpa using h1
        · exact ih t.ID h o ho
theorem dcheckS_zero {l : List Task} (h : dcheckS l = 0) : l.length ≤ 20 ∧ ∀ o ∈ l, tok o = true := by
  unfold dcheckS at h
  by_cases h1 : 20 < l.length
  · rw [if_pos h1] at h; cases h
  · rw [if_neg h1] at h
    exact ⟨by omega, dchk_ok l _ h⟩
def tasksS : List Task := [⟨1, 8, 1000, 1000, 0⟩, ⟨2, 8, 1000, 1000, 0⟩]
theorem dtasks_ok : dtasks_vc (fun r => r = tasksS) := rfl

end Go.Proofs.Ytginlmgkimfjmaa
set_option linter.unusedVariables false
set_option linter.unusedSimpArgs false
namespace Go.Proofs.Ytginlmgkimfjmaa
open Go.Sy Go.RowKit
structure Job where
  task : Int
  from_ : Int
  asked : Int
  deriving DecidableEq, Inhabited
def Job.enc (x : Job) : List Value := [.int .i64 x.task, .int .i64 x.from_, .int .i64 x.asked]
def tyJob : Ty Job := tyFlat Job.enc 3 (fun _ => rfl) (fun x => by simp [Job.enc, Value.oneCell'])

def sins_vc (u0 : List Job) (u1 : Int) (u2 : Int) (u3 : Job → Job → Int) (K : (List Job) → Prop) : Prop :=
  (u0.length ≤ 140737488355328 →
    (∃ inv16 : Int → (List Job) → Prop, ∃ mu16 : Int → (List Job) → Nat, inv16 (w64 (u1 + 1)) u0 ∧
    (∀ (x8 : Int) (zao1 : List Job), inv16 x8 zao1 →
    (((decide (x8 < u2)) = true →
      (∃ inv44 : Int → (List Job) → Prop, ∃ mu44 : Int → (List Job) → Nat, inv44 x8 zao1 ∧
      (∀ (x9 : Int) (zao1v : List Job), inv44 x9 zao1v →
      (((decide (x9 > u1)) = true →
        ((0 ≤ x9 ∧ x9 < (zao1v.length : Int)) ∧
        (∀ qd8_0, zao1v[x9.toNat]? = some qd8_0 →
        ((0 ≤ w64 (x9 - 1) ∧ w64 (x9 - 1) < (zao1v.length : Int)) ∧
        (∀ qd13_0, zao1v[(w64 (x9 - 1)).toNat]? = some qd13_0 →
        (((decide ((u3 qd8_0 qd13_0) < 0)) = true →
          ((0 ≤ w64 (x9 - 1) ∧ w64 (x9 - 1) < (zao1v.length : Int)) ∧
          (∀ qd9_0, zao1v[(w64 (x9 - 1)).toNat]? = some qd9_0 →
          ((0 ≤ x9 ∧ x9 < (zao1v.length : Int)) ∧
          (∀ qd13_0, zao1v[x9.toNat]? = some qd13_0 →
          ((0 ≤ x9 ∧ x9 < (zao1v.length : Int)) ∧
          ((0 ≤ w64 (x9 - 1) ∧ w64 (x9 - 1) < (zao1v.length : Int)) ∧
          (inv44 (w64 (x9 - 1)) ((zao1v.set x9.toNat qd9_0).set (w64 (x9 - 1)).toNat qd13_0) ∧ mu44 (w64 (x9 - 1)) ((zao1v.set x9.toNat qd9_0).set (w64 (x9 - 1)).toNat qd13_0) < mu44 x9 zao1v)))))))) ∧
        ((decide ((u3 qd8_0 qd13_0) < 0)) = false →
          (inv16 (w64 (x8 + 1)) zao1v ∧ mu16 (w64 (x8 + 1)) zao1v < mu16 x8 zao1)))))))) ∧
      ((decide (x9 > u1)) = false →
        (inv16 (w64 (x8 + 1)) zao1v ∧ mu16 (w64 (x8 + 1)) zao1v < mu16 x8 zao1)))))) ∧
    ((decide (x8 < u2)) = false →
      ((zao1.length = u0.length) ∧
      (K zao1)))))))
theorem sins_mono {u0 : List Job} {u1 : Int} {u2 : Int} {u3 : Job → Job → Int} {K K1 : (List Job) → Prop} (hK : ∀ r, K r → K1 r) (h : sins_vc u0 u1 u2 u3 K) : sins_vc u0 u1 u2 u3 K1 :=
  fun z0 => (Exists.elim (h z0) fun i1 e1 => Exists.elim e1 fun m1 g1 => ⟨i1, m1, g1.1, fun x8 zao1 z1 => ⟨fun c2 => (Exists.elim ((g1.2 x8 zao1 z1).1 c2) fun i3 e3 => Exists.elim e3 fun m3 g3 => ⟨i3, m3, g3.1, fun x9 zao1v z3 => ⟨fun c4 => ⟨((g3.2 x9 zao1v z3).1 c4).1, fun y6 z6 => ⟨(((g3.2 x9 zao1v z3).1 c4).2 y6 z6).1, fun y8 z8 => ⟨fun c9 => ⟨(((((g3.2 x9 zao1v z3).1 c4).2 y6 z6).2 y8 z8).1 c9).1, fun y11 z11 => ⟨((((((g3.2 x9 zao1v z3).1 c4).2 y6 z6).2 y8 z8).1 c9).2 y11 z11).1, fun y13 z13 => ⟨(((((((g3.2 x9 zao1v z3).1 c4).2 y6 z6).2 y8 z8).1 c9).2 y11 z11).2 y13 z13).1, ⟨(((((((g3.2 x9 zao1v z3).1 c4).2 y6 z6).2 y8 z8).1 c9).2 y11 z11).2 y13 z13).2.1, (((((((g3.2 x9 zao1v z3).1 c4).2 y6 z6).2 y8 z8).1 c9).2 y11 z11).2 y13 z13).2.2⟩⟩⟩⟩, fun c9 => (((((g3.2 x9 zao1v z3).1 c4).2 y6 z6).2 y8 z8).2 c9)⟩⟩⟩, fun c4 => ((g3.2 x9 zao1v z3).2 c4)⟩⟩), fun c2 => ⟨((g1.2 x8 zao1 z1).2 c2).1, hK _ ((g1.2 x8 zao1 z1).2 c2).2⟩⟩⟩)

def sswap_vc (u0 : List Job) (u1 : Int) (u2 : Int) (u3 : Int) (u4 : Job → Job → Int) (K : (List Job) → Prop) : Prop :=
  (u0.length ≤ 140737488355328 →
    (∃ inv12 : Int → (List Job) → Prop, ∃ mu12 : Int → (List Job) → Nat, inv12 0 u0 ∧
    (∀ (x10 : Int) (zao1 : List Job), inv12 x10 zao1 →
    (((decide (x10 < u3)) = true →
      ((0 ≤ w64 (u2 + x10) ∧ w64 (u2 + x10) < (zao1.length : Int)) ∧
      (∀ qd13_0, zao1[(w64 (u2 + x10)).toNat]? = some qd13_0 →
      ((0 ≤ w64 (u1 + x10) ∧ w64 (u1 + x10) < (zao1.length : Int)) ∧
      (∀ qd19_0, zao1[(w64 (u1 + x10)).toNat]? = some qd19_0 →
      ((0 ≤ w64 (u1 + x10) ∧ w64 (u1 + x10) < (zao1.length : Int)) ∧
      ((0 ≤ w64 (u2 + x10) ∧ w64 (u2 + x10) < (zao1.length : Int)) ∧
      (inv12 (w64 (x10 + 1)) ((zao1.set (w64 (u1 + x10)).toNat qd13_0).set (w64 (u2 + x10)).toNat qd19_0) ∧ mu12 (w64 (x10 + 1)) ((zao1.set (w64 (u1 + x10)).toNat qd13_0).set (w64 (u2 + x10)).toNat qd19_0) < mu12 x10 zao1)))))))) ∧
    ((decide (x10 < u3)) = false →
      ((zao1.length = u0.length) ∧
      (K zao1)))))))
theorem sswap_mono {u0 : List Job} {u1 : Int} {u2 : Int} {u3 : Int} {u4 : Job → Job → Int} {K K1 : (List Job) → Prop} (hK : ∀ r, K r → K1 r) (h : sswap_vc u0 u1 u2 u3 u4 K) : sswap_vc u0 u1 u2 u3 u4 K1 :=
  fun z0 => (Exists.elim (h z0) fun i1 e1 => Exists.elim e1 fun m1 g1 => ⟨i1, m1, g1.1, fun x10 zao1 z1 => ⟨fun c2 => ⟨((g1.2 x10 zao1 z1).1 c2).1, fun y4 z4 => ⟨(((g1.2 x10 zao1 z1).1 c2).2 y4 z4).1, fun y6 z6 => ⟨((((g1.2 x10 zao1 z1).1 c2).2 y4 z4).2 y6 z6).1, ⟨((((g1.2 x10 zao1 z1).1 c2).2 y4 z4).2 y6 z6).2.1, ((((g1.2 x10 zao1 z1).1 c2).2 y4 z4).2 y6 z6).2.2⟩⟩⟩⟩, fun c2 => ⟨((g1.2 x10 zao1 z1).2 c2).1, hK _ ((g1.2 x10 zao1 z1).2 c2).2⟩⟩⟩)

def srot_vc (u0 : List Job) (u1 : Int) (u2 : Int) (u3 : Int) (u4 : Job → Job → Int) (K : (List Job) → Prop) : Prop :=
  (u0.length ≤ 140737488355328 →
    (∃ inv27 : Int → Int → (List Job) → Prop, ∃ mu27 : Int → Int → (List Job) → Nat, inv27 (w64 (u2 - u1)) (w64 (u3 - u2)) u0 ∧
    (∀ (x10 : Int) (x11 : Int) (zao1 : List Job), inv27 x10 x11 zao1 →
    (((x10 != x11) = true →
      (((decide (x10 > x11)) = true →
        (sswap_vc zao1 (w64 (u2 - x10)) u2 x11 u4 fun r73 =>
        (r73.length ≤ 140737488355328 →
        (inv27 (w64 (x10 - x11)) x11 r73 ∧ mu27 (w64 (x10 - x11)) x11 r73 < mu27 x10 x11 zao1)))) ∧
      ((decide (x10 > x11)) = false →
        (sswap_vc zao1 (w64 (u2 - x10)) (w64 ((w64 (u2 + x11)) - x10)) x10 u4 fun r118 =>
        (r118.length ≤ 140737488355328 →
        (inv27 x10 (w64 (x11 - x10)) r118 ∧ mu27 x10 (w64 (x11 - x10)) r118 < mu27 x10 x11 zao1)))))) ∧
    ((x10 != x11) = false →
      (sswap_vc zao1 (w64 (u2 - x10)) u2 x10 u4 fun r155 =>
      (r155.length ≤ 140737488355328 →
      ((r155.length = u0.length) ∧
      (K r155)))))))))
theorem srot_mono {u0 : List Job} {u1 : Int} {u2 : Int} {u3 : Int} {u4 : Job → Job → Int} {K K1 : (List Job) → Prop} (hK : ∀ r, K r → K1 r) (h : srot_vc u0 u1 u2 u3 u4 K) : srot_vc u0 u1 u2 u3 u4 K1 :=
  fun z0 => (Exists.elim (h z0) fun i1 e1 => Exists.elim e1 fun m1 g1 => ⟨i1, m1, g1.1, fun x10 x11 zao1 z1 => ⟨fun c2 => ⟨fun c3 => sswap_mono (fun r73 h4 => fun z5 => (h4 z5)) (((g1.2 x10 x11 zao1 z1).1 c2).1 c3), fun c3 => sswap_mono (fun r118 h4 => fun z5 => (h4 z5)) (((g1.2 x10 x11 zao1 z1).1 c2).2 c3)⟩, fun c2 => sswap_mono (fun r155 h3 => fun z4 => ⟨(h3 z4).1, hK _ (h3 z4).2⟩) ((g1.2 x10 x11 zao1 z1).2 c2)⟩⟩)

/-! Pure proofs: no program in sight. -/
/-! Stable sorting by a key, of lists. -/
def insC {α : Type} (cmp : α → α → Int) (x : α) : List α → List α
  | [] => [x]
  | y :: r => if cmp x y < 0 then x :: y :: r else y :: insC cmp x r
/-- The stable sort: each goes behind all that aren't greater. -/
def sortC {α : Type} (cmp : α → α → Int) (l : List α) : List α := l.foldl (fun s x => insC cmp x s) []
/-- As much of each key, in the same order. -/
def Fe {α : Type} (key : α → Int) (x y : List α) : Prop := ∀ k : Int, x.filter (fun a => key a == k) = y.filter (fun a => key a == k)
def Srt {α : Type} (key : α → Int) (l : List α) : Prop := l.Pairwise fun a b => key a ≤ key b
section stab
variable {α : Type} {key : α → Int} {x y z u v : List α}
theorem Fe.refl (x : List α) : Fe key x x := fun _ => rfl
theorem Fe.symm (h : Fe key x y) : Fe key y x := fun k => (h k).symm
theorem Fe.trans (h : Fe key x y) (h' : Fe key y z) : Fe key x z := fun k => (h k).trans (h' k)
theorem Fe.app (h : Fe key x y) (h' : Fe key u v) : Fe key (x ++ u) (y ++ v) := fun k => by rw [List.filter_append, List.filter_append, h k, h' k]
theorem Fe.mem (h : Fe key x y) (a : α) : a ∈ x ↔ a ∈ y := by
  have := h (key a)
  constructor
  · intro ha
    have h1 : a ∈ x.filter (fun b => key b == key a) := List.mem_filter.2 ⟨ha, by simp⟩
    rw [this] at h1
    exact (List.mem_filter.1 h1).1
  · intro ha
    have h1 : a ∈ y.filter (fun b => key b == key a) := List.mem_filter.2 ⟨ha, by simp⟩
    rw [← this] at h1
    exact (List.mem_filter.1 h1).1
theorem Fe.swap (h : ∀ a ∈ x, ∀ b ∈ y, key a ≠ key b) : Fe key (x ++ y) (y ++ x) := fun k => by
  rw [List.filter_append, List.filter_append]
  by_cases hx : x.filter (fun a => key a == k) = []
  · rw [hx]; simp
  · have hy : y.filter (fun a => key a == k) = [] := by
      obtain ⟨a, ha⟩ := List.exists_mem_of_ne_nil _ hx
      have ha := List.mem_filter.1 ha
      refine List.filter_eq_nil_iff.2 fun b hb => ?_
      have h1 := h a ha.1 b hb
      have h2 : key a = k := by simpa using ha.2
      simp; omega
    rw [hy]; simp
theorem Fe.len (h : Fe key x y) : x.length = y.length := by
  suffices H : ∀ (n : Nat) (x y : List α), x.length ≤ n → Fe key x y → x.length = y.length from H x.length x y (Nat.le_refl _) h
  intro n
  induction n with
  | zero =>
    intro x y hn h
    have : x = [] := by cases x <;> simp_all
    subst this
    cases y with
    | nil => rfl
    | cons b t => exact absurd ((h.mem b).2 (by simp)) (by simp)
  | succ n ih =>
    intro x y hn h
    cases x with
    | nil =>
      cases y with
      | nil => rfl
      | cons b t => exact absurd ((h.mem b).2 (by simp)) (by simp)
    | cons a r =>
      have hsp : ∀ z : List α, z.length = (z.filter (fun b => key b == key a)).length + (z.filter (fun b => !(key b == key a))).length := by
        intro z
        induction z with
        | nil => rfl
        | cons c t ih =>
          by_cases hc : key c = key a
          · simp [List.filter_cons, hc] at ih ⊢; omega
          · simp [List.filter_cons, hc] at ih ⊢; omega
      rw [hsp (a :: r), hsp y, h (key a)]
      congr 1
      refine ih _ _ ?_ ?_
      · simp [List.filter_cons]
        have := List.length_filter_le (fun b => !(key b == key a)) r
        simp at hn this
        omega
      · intro k
        rw [List.filter_filter, List.filter_filter]
        by_cases hk : k = key a
        · subst hk
          rw [List.filter_eq_nil_iff.2 (by simp), List.filter_eq_nil_iff.2 (by simp)]
        · have e : ∀ z : List α, z.filter (fun b => (key b == k) && !(key b == key a)) = z.filter (fun b => key b == k) := by
            intro z
            refine List.filter_congr fun b _ => ?_
            by_cases hb : key b = k
            · have : key b ≠ key a := by omega
              simp [hb]; omega
            · simp [hb]
          rw [e, e, h k]
/-- Sorted, with as much of each key: the same. -/
theorem stab_unique : ∀ {x y : List α}, Srt key x → Srt key y → Fe key x y → x = y := by
  intro x
  induction x with
  | nil =>
    intro y _ _ h
    cases y with
    | nil => rfl
    | cons b t => exact absurd ((h.mem b).2 (by simp)) (by simp)
  | cons a r ih =>
    intro y hx hy h
    cases y with
    | nil => exact absurd ((h.mem a).1 (by simp)) (by simp)
    | cons b t =>
      have h1 := List.pairwise_cons.1 hx
      have h2 := List.pairwise_cons.1 hy
      have hk : key a = key b := by
        have hab : key b ≤ key a := by
          rcases List.mem_cons.1 ((h.mem a).1 (by simp)) with e | e
          · rw [e]; exact Int.le_refl _
          · exact h2.1 a e
        have hba : key a ≤ key b := by
          rcases List.mem_cons.1 ((h.mem b).2 (by simp)) with e | e
          · rw [e]; exact Int.le_refl _
          · exact h1.1 b e
        omega
      have h3 := h (key a)
      simp [List.filter_cons, hk] at h3
      obtain ⟨rfl, h4⟩ := h3
      have : r = t := by
        refine ih h1.2 h2.2 fun k => ?_
        have h5 := h k
        by_cases hka : key a = k
        · subst hka; simpa [List.filter_cons] using h5
        · simpa [List.filter_cons, hka] using h5
      rw [this]
theorem Srt.app (hx : Srt key x) (hy : Srt key y) (h : ∀ a ∈ x, ∀ b ∈ y, key a ≤ key b) : Srt key (x ++ y) := List.pairwise_append.2 ⟨hx, hy, h⟩
theorem Srt.left (h : Srt key (x ++ y)) : Srt key x := (List.pairwise_append.1 h).1
theorem Srt.right (h : Srt key (x ++ y)) : Srt key y := (List.pairwise_append.1 h).2.1
theorem Srt.rel (h : Srt key (x ++ y)) : ∀ a ∈ x, ∀ b ∈ y, key a ≤ key b := (List.pairwise_append.1 h).2.2
theorem Srt.at_ {l : List α} (h : Srt key l) {i j : Nat} {a b : α} (hij : i ≤ j) (ha : l[i]? = some a) (hb : l[j]? = some b) : key a ≤ key b := by
  rcases Nat.lt_or_ge i j with hlt | hge
  · obtain ⟨hi, ei⟩ := List.getElem?_eq_some_iff.1 ha
    obtain ⟨hj, ej⟩ := List.getElem?_eq_some_iff.1 hb
    have := List.pairwise_iff_getElem.1 h i j hi hj hlt
    rw [ei, ej] at this
    exact this
  · have : i = j := by omega
    subst this
    rw [ha] at hb
    cases hb
    exact Int.le_refl _
/-- A comparison that goes by a key, on some elements. -/
def Keyed {α : Type} (cmp : α → α → Int) (key : α → Int) (l : List α) : Prop := ∀ a ∈ l, ∀ b ∈ l, (cmp a b < 0 ↔ key a < key b)
theorem Keyed.sub {cmp : α → α → Int} (h : Keyed cmp key x) (hs : ∀ a ∈ y, a ∈ x) : Keyed cmp key y := fun a ha b hb => h a (hs a ha) b (hs b hb)
theorem insC_spec {cmp : α → α → Int} {a : α} (h : Keyed cmp key (a :: x)) (hs : Srt key x) : Srt key (insC cmp a x) ∧ Fe key (insC cmp a x) (x ++ [a]) := by
  induction x with
  | nil => exact ⟨by simp [insC, Srt], fun _ => rfl⟩
  | cons b r ih =>
    rw [insC]
    have hk := h a (by simp) b (by simp)
    have hp := List.pairwise_cons.1 hs
    by_cases hc : cmp a b < 0
    · rw [if_pos hc]
      have hab := hk.1 hc
      have hall : ∀ c ∈ b :: r, key a < key c := fun c hc => by
        rcases List.mem_cons.1 hc with rfl | e
        · exact hab
        · have := hp.1 c e; omega
      refine ⟨List.pairwise_cons.2 ⟨fun c hc => by have := hall c hc; omega, hs⟩, ?_⟩
      exact (Fe.swap (x := [a]) (y := b :: r) fun c hc d hd => by
        have : c = a := by simpa using hc
        subst this
        have := hall d hd
        omega)
    · rw [if_neg hc]
      obtain ⟨i1, i2⟩ := ih (h.sub fun c hc => by rcases List.mem_cons.1 hc with rfl | e <;> simp [*]) hp.2
      refine ⟨List.pairwise_cons.2 ⟨fun c hc => ?_, i1⟩, (Fe.refl [b]).app i2⟩
      have hm := (i2.mem c).1 hc
      rcases List.mem_append.1 hm with e | e
      · exact hp.1 c e
      · have : c = a := by simpa using e
        subst this
        omega
theorem sortC_go {cmp : α → α → Int} : ∀ {x s p : List α}, Keyed cmp key (p ++ x) → Srt key s → Fe key s p → Srt key (x.foldl (fun s a => insC cmp a s) s) ∧ Fe key (x.foldl (fun s a => insC cmp a s) s) (p ++ x) := by
  intro x
  induction x with
  | nil => intro s p _ hs hf; exact ⟨hs, by simpa using hf⟩
  | cons a r ih =>
    intro s p hk hs hf
    obtain ⟨h1, h2⟩ := insC_spec (cmp := cmp) (a := a) (x := s) (hk.sub fun c hc => by
      rcases List.mem_cons.1 hc with rfl | e
      · simp
      · exact List.mem_append.2 (.inl ((hf.mem c).1 e))) hs
    have := ih (s := insC cmp a s) (p := p ++ [a]) (by simpa using hk) h1 (h2.trans (hf.app (Fe.refl [a])))
    simpa using this
theorem sortC_spec {cmp : α → α → Int} (h : Keyed cmp key x) : Srt key (sortC cmp x) ∧ Fe key (sortC cmp x) x := by
  have := sortC_go (x := x) (s := []) (p := []) (by simpa using h) (by simp [Srt]) (Fe.refl [])
  simpa [sortC] using this
theorem sortC_eq {cmp : α → α → Int} (h : Keyed cmp key x) (hs : Srt key y) (hf : Fe key y x) : y = sortC cmp x := by
  obtain ⟨h1, h2⟩ := sortC_spec h
  exact stab_unique hs h1 (hf.trans h2.symm)
theorem sortC_len {cmp : α → α → Int} (x : List α) : (sortC cmp x).length = x.length := by
  have h1 : ∀ (a : α) (s : List α), (insC cmp a s).length = s.length + 1 := by
    intro a s
    induction s with
    | nil => rfl
    | cons b r ih => rw [insC]; split <;> simp [ih]
  have h2 : ∀ (x s : List α), (x.foldl (fun s a => insC cmp a s) s).length = s.length + x.length := by
    intro x
    induction x with
    | nil => intro s; rfl
    | cons a r ih => intro s; rw [List.foldl_cons, ih, h1, List.length_cons]; omega
  have := h2 x []
  simpa [sortC] using this
theorem sortC_sorted {cmp : α → α → Int} (h : Keyed cmp key x) (hs : Srt key x) : sortC cmp x = x := (sortC_eq h hs (Fe.refl x)).symm
/-- One element is set. -/
theorem set_mid (p : List α) (a b : α) (q : List α) : (p ++ a :: q).set p.length b = p ++ b :: q := by simp
theorem get_mid (p : List α) (a : α) (q : List α) : (p ++ a :: q)[p.length]? = some a := by simp
/-- What lies between two places is another. -/
def segC {α : Type} (cmp : α → α → Int) (l : List α) (a b : Int) : List α := l.take a.toNat ++ (sortC cmp ((l.drop a.toNat).take (b - a).toNat) ++ l.drop b.toNat)
theorem segC_eq {cmp : α → α → Int} {p q : List α} {a b : Int} (ha : a = p.length) (hb : b = a + x.length) (h : Keyed cmp key x) (hs : Srt key y) (hf : Fe key y x) : segC cmp (p ++ (x ++ q)) a b = p ++ (y ++ q) := by
  subst ha
  unfold segC
  have e1 : (p.length : Int).toNat = p.length := by omega
  have e2 : (b - p.length).toNat = x.length := by omega
  have e3 : b.toNat = p.length + x.length := by omega
  rw [e1, e2, e3, List.take_left' rfl, List.drop_left' rfl, List.take_left' rfl, ← sortC_eq h hs hf]
  congr 2
  rw [← List.append_assoc, List.drop_left' (by simp)]
theorem segC_len {cmp : α → α → Int} {l : List α} {a b : Int} (h : 0 ≤ a ∧ a ≤ b ∧ b ≤ (l.length : Int)) : (segC cmp l a b).length = l.length := by
  unfold segC
  simp [sortC_len]
  omega
end stab
theorem swap2 {α : Type} (P M Q : List α) (c d : α) {i j : Nat} (hi : i = P.length) (hj : j = P.length + 1 + M.length) : (P ++ c :: (M ++ d :: Q))[i]? = some c ∧ (P ++ c :: (M ++ d :: Q))[j]? = some d ∧ ((P ++ c :: (M ++ d :: Q)).set i d).set j c = P ++ d :: (M ++ c :: Q) ∧ ((P ++ c :: (M ++ d :: Q)).set j c).set i d = P ++ d :: (M ++ c :: Q) := by
  subst hi
  subst hj
  have e : ∀ (a b : α), P ++ a :: (M ++ b :: Q) = (P ++ a :: M) ++ b :: Q := fun a b => by simp
  have l : ∀ a : α, (P ++ a :: M).length = P.length + 1 + M.length := fun a => by simp; omega
  refine ⟨get_mid P c _, ?_, ?_, ?_⟩
  · rw [e, ← l c]; exact get_mid _ d Q
  · rw [set_mid, e, ← l d, set_mid, ← e]
  · rw [e, ← l c, set_mid, ← e, set_mid]
theorem sswap_ok (l : List Job) (a b n : Int) (cmp : Job → Job → Int) (p u m v q : List Job) (hl : l = p ++ (u ++ (m ++ (v ++ q)))) (ha : a = p.length) (hb : b = p.length + u.length + m.length) (hn : n = u.length) (hv : v.length = u.length) (hs : l.length ≤ 10000000) : sswap_vc l a b n cmp (fun r => r = p ++ (v ++ (m ++ (u ++ q)))) := by
  intro _
  have hlen : l.length = p.length + u.length + m.length + v.length + q.length := by rw [hl]; simp; omega
  refine ⟨fun x z => ∃ k : Nat, x = k ∧ k ≤ u.length ∧ z = p ++ (v.take k ++ (u.drop k ++ (m ++ (u.take k ++ (v.drop k ++ q))))), fun x _ => u.length - x.toNat, ⟨0, rfl, by omega, by rw [hl]; simp⟩, ?_⟩
  rintro _ _ ⟨k, rfl, hk, rfl⟩
  have hzl : (p ++ (v.take k ++ (u.drop k ++ (m ++ (u.take k ++ (v.drop k ++ q)))))).length = l.length := by rw [hlen]; simp; omega
  refine ⟨fun h => ?_, fun h => ?_⟩
  · have hk : k < u.length := by have := of_decide_eq_true h; omega
    have e1 : w64 (b + (k : Int)) = b + k := w64_eq _ (by omega)
    have e2 : w64 (a + (k : Int)) = a + k := w64_eq _ (by omega)
    rw [e1, e2, w64_succ k (by omega)]
    obtain ⟨c, hc⟩ : ∃ c, u[k]? = some c := ⟨_, List.getElem?_eq_getElem hk⟩
    obtain ⟨d, hd⟩ : ∃ d, v[k]? = some d := ⟨_, List.getElem?_eq_getElem (by omega)⟩
    have eu : u.drop k = c :: u.drop (k + 1) := by rw [List.drop_eq_getElem_cons hk]; congr 1; rw [List.getElem?_eq_getElem hk] at hc; exact Option.some.inj hc
    have ev : v.drop k = d :: v.drop (k + 1) := by have hk' : k < v.length := by omega
                                                   rw [List.drop_eq_getElem_cons hk']; congr 1; rw [List.getElem?_eq_getElem hk'] at hd; exact Option.some.inj hd
    have tu : u.take (k + 1) = u.take k ++ [c] := by rw [List.take_add_one, hc]; rfl
    have tv : v.take (k + 1) = v.take k ++ [d] := by rw [List.take_add_one, hd]; rfl
    have ez : p ++ (v.take k ++ (u.drop k ++ (m ++ (u.take k ++ (v.drop k ++ q))))) = (p ++ v.take k) ++ c :: ((u.drop (k + 1) ++ (m ++ u.take k)) ++ d :: (v.drop (k + 1) ++ q)) := by rw [eu, ev]; simp
    have ez2 : p ++ (v.take (k + 1) ++ (u.drop (k + 1) ++ (m ++ (u.take (k + 1) ++ (v.drop (k + 1) ++ q))))) = (p ++ v.take k) ++ d :: ((u.drop (k + 1) ++ (m ++ u.take k)) ++ c :: (v.drop (k + 1) ++ q)) := by rw [tu, tv]; simp
    obtain ⟨g1, g2, g3, _⟩ := swap2 (p ++ v.take k) (u.drop (k + 1) ++ (m ++ u.take k)) (v.drop (k + 1) ++ q) c d (i := (a + (k : Int)).toNat) (j := (b + (k : Int)).toNat) (by simp; omega) (by simp; omega)
    rw [hzl]
    rw [ez]
    refine ⟨by omega, fun y hy => ⟨by omega, fun y' hy' => ⟨by omega, by omega, ?_⟩⟩⟩
    rw [g2] at hy
    rw [g1] at hy'
    cases hy
    cases hy'
    rw [g3, ← ez2]
    exact ⟨⟨k + 1, rfl, by omega, rfl⟩, by (try dsimp only); omega⟩
  · have hk : k = u.length := by have := of_decide_eq_false h; omega
    subst hk
    refine ⟨hzl, ?_⟩
    rw [List.take_of_length_le (by omega), List.drop_of_length_le (by omega), List.take_of_length_le (by omega), List.drop_of_length_le (by omega)]
    simp
theorem sins_ok (l : List Job) (a b : Int) (cmp : Job → Job → Int) (key : Job → Int) (p x q : List Job) (hl : l = p ++ (x ++ q)) (ha : a = p.length) (hb : b = p.length + x.length) (hk : Keyed cmp key x) (hs : l.length ≤ 10000000) : sins_vc l a b cmp (fun r => r = p ++ (sortC cmp x ++ q)) := by
  intro _
  have hlen : l.length = p.length + x.length + q.length := by rw [hl]; simp; omega
  have e0 : w64 (a + 1) = a + 1 := w64_eq _ (by omega)
  rw [e0]
  by_cases h0 : x = []
  · subst h0
    simp at hb hl
    refine ⟨fun i z => i = a + 1 ∧ z = l, fun _ _ => 0, ⟨rfl, rfl⟩, ?_⟩
    rintro _ _ ⟨rfl, rfl⟩
    refine ⟨fun h => ?_, fun h => ⟨rfl, ?_⟩⟩
    · have := of_decide_eq_true h; omega
    · rw [hl]; simp [sortC]
  refine ⟨fun i z => ∃ (k : Nat) (s : List Job), i = a + k ∧ 1 ≤ k ∧ k ≤ x.length ∧ z = p ++ (s ++ (x.drop k ++ q)) ∧ Srt key s ∧ Fe key s (x.take k), fun i _ => (a + x.length - i).toNat, ⟨1, x.take 1, rfl, by omega, ?_, ?_, ?_, Fe.refl _⟩, ?_⟩
  · cases x with
    | nil => exact absurd rfl h0
    | cons c r => simp
  · rw [hl]
    congr 1
    rw [← List.append_assoc, List.take_append_drop]
  · cases x with
    | nil => exact absurd rfl h0
    | cons c r => simp [Srt]
  rintro _ _ ⟨k, s, rfl, hk1, hkx, rfl, hs1, hs2⟩
  have hsl : s.length = k := by rw [hs2.len]; simp; omega
  refine ⟨fun h => ?_, fun h => ?_⟩
  · have hkx : k < x.length := by have := of_decide_eq_true h; omega
    have en : w64 (a + (k : Int) + 1) = a + ((k + 1 : Nat) : Int) := by rw [w64_eq _ (by omega)]; omega
    rw [en]
    obtain ⟨c, hc⟩ : ∃ c, x[k]? = some c := ⟨_, List.getElem?_eq_getElem hkx⟩
    have ex : x.drop k = c :: x.drop (k + 1) := by rw [List.drop_eq_getElem_cons hkx]; congr 1; rw [List.getElem?_eq_getElem hkx] at hc; exact Option.some.inj hc
    have tx : x.take (k + 1) = x.take k ++ [c] := by rw [List.take_add_one, hc]; rfl
    have hcx : c ∈ x := List.mem_of_getElem? hc
    have hsx : ∀ d ∈ s, d ∈ x := fun d hd => List.mem_of_mem_take ((hs2.mem d).1 hd)
    -- what is done: s1 ahead, then c, then s2, all of which are greater
    refine ⟨fun j z => ∃ (s1 s2 : List Job), s = s1 ++ s2 ∧ j = a + s1.length ∧ z = p ++ (s1 ++ c :: (s2 ++ (x.drop (k + 1) ++ q))) ∧ ∀ d ∈ s2, key c < key d, fun j _ => (j - a).toNat, ⟨s, [], by simp, by omega, by rw [ex]; simp, by simp⟩, ?_⟩
    rintro _ _ ⟨s1, s2, hss, rfl, rfl, h2⟩
    have hfin : ∀ (hle : ∀ d ∈ s1, key d ≤ key c), ∃ (k' : Nat) (s' : List Job), a + ((k + 1 : Nat) : Int) = a + k' ∧ 1 ≤ k' ∧ k' ≤ x.length ∧ p ++ (s1 ++ c :: (s2 ++ (x.drop (k + 1) ++ q))) = p ++ (s' ++ (x.drop k' ++ q)) ∧ Srt key s' ∧ Fe key s' (x.take k') := by
      intro hle
      refine ⟨k + 1, s1 ++ c :: s2, rfl, by omega, by omega, by simp, ?_, ?_⟩
      · rw [hss] at hs1
        refine hs1.left.app (List.pairwise_cons.2 ⟨fun d hd => by have := h2 d hd; omega, hs1.right⟩) fun d hd e he => ?_
        rcases List.mem_cons.1 he with rfl | he
        · exact hle d hd
        · exact hs1.rel d hd e he
      · rw [tx]
        refine Fe.trans ?_ (hs2.app (Fe.refl [c]))
        rw [hss, List.append_assoc]
        exact (Fe.refl s1).app (Fe.swap (x := [c]) (y := s2) fun d hd e he => by
          have : d = c := by simpa using hd
          subst this
          have := h2 e he
          omega)
    have hmu : (a + (x.length : Int) - (a + ((k + 1 : Nat) : Int))).toNat < (a + (x.length : Int) - (a + (k : Int))).toNat := by omega
    have hs12 : s1.length + s2.length = k := by rw [← hsl, hss]; simp
    have hzl : (p ++ (s1 ++ c :: (s2 ++ (x.drop (k + 1) ++ q)))).length = l.length := by rw [hlen]; simp; omega
    refine ⟨fun h3 => ?_, fun h3 => ?_⟩
    · have h3 : 0 < s1.length := by have := of_decide_eq_true h3; omega
      have ed : w64 (a + (s1.length : Int) - 1) = a + (s1.length : Int) - 1 := w64_eq _ (by omega)
      rw [ed, hzl]
      obtain ⟨s0, d, rfl⟩ : ∃ s0 d, s1 = s0 ++ [d] := ⟨s1.dropLast, s1.getLast (by intro e; rw [e] at h3; simp at h3), (List.dropLast_concat_getLast _).symm⟩
      have ez : p ++ ((s0 ++ [d]) ++ c :: (s2 ++ (x.drop (k + 1) ++ q))) = (p ++ s0) ++ d :: ([] ++ c :: (s2 ++ (x.drop (k + 1) ++ q))) := by simp
      obtain ⟨g1, g2, _, g4⟩ := swap2 (p ++ s0) [] (s2 ++ (x.drop (k + 1) ++ q)) d c (i := (a + (((s0 ++ [d]).length : Nat) : Int) - 1).toNat) (j := (a + (((s0 ++ [d]).length : Nat) : Int)).toNat) (by simp; omega) (by simp; omega)
      simp only [List.length_append, List.length_cons, List.length_nil] at *
      rw [ez]
      refine ⟨by omega, fun y hy => ⟨by omega, fun y' hy' => ?_⟩⟩
      rw [g2] at hy
      rw [g1] at hy'
      cases hy
      cases hy'
      have hkd := hk c hcx d (hsx d (by rw [hss]; simp))
      refine ⟨fun h4 => ?_, fun h4 => ?_⟩
      · have hlt := hkd.1 (of_decide_eq_true h4)
        refine ⟨by omega, fun y hy => ⟨by omega, fun y' hy' => ⟨by omega, by omega, ?_⟩⟩⟩
        rw [g1] at hy
        rw [g2] at hy'
        cases hy
        cases hy'
        rw [g4]
        refine ⟨⟨s0, d :: s2, by rw [hss]; simp, by omega, by simp, fun e he => ?_⟩, by omega⟩
        rcases List.mem_cons.1 he with rfl | he
        · exact hlt
        · exact h2 e he
      · have hge : key d ≤ key c := by
          have h5 : ¬ cmp c d < 0 := of_decide_eq_false h4
          rw [hkd] at h5
          omega
        rw [← ez]
        refine ⟨hfin fun e he => ?_, hmu⟩
        rcases List.mem_append.1 he with he | he
        · rw [hss] at hs1
          have := hs1.left.rel e he d (by simp)
          omega
        · have : e = d := by simpa using he
          rw [this]; exact hge
    · have h3 : s1 = [] := by
        have := of_decide_eq_false h3
        exact List.eq_nil_of_length_eq_zero (by omega)
      exact ⟨hfin (fun d hd => by rw [h3] at hd; cases hd), hmu⟩
  · have hkx : k = x.length := by have := of_decide_eq_false h; omega
    subst hkx
    rw [List.take_of_length_le (by omega)] at hs2
    refine ⟨by rw [hlen]; simp; omega, ?_⟩
    rw [sortC_eq hk hs1 hs2, List.drop_of_length_le (by omega)]
    simp
def segC2 (l : List Job) (a m b : Int) (cmp : Job → Job → Int) : List Job := segC cmp l a b
def symMu (l : List Job) (a m b : Int) (cmp : Job → Job → Int) : Nat := (b - a).toNat
def symPre (l : List Job) (a m b : Int) (cmp : Job → Job → Int) : Prop := ∃ (key : Job → Int) (p x y q : List Job), l = p ++ (x ++ (y ++ q)) ∧ a = p.length ∧ m = a + x.length ∧ b = m + y.length ∧ x ≠ [] ∧ y ≠ [] ∧ Keyed cmp key (x ++ y) ∧ Srt key x ∧ Srt key y ∧ l.length ≤ 10000000

end Go.Proofs.Ytginlmgkimfjmaa
set_option linter.unusedVariables false
set_option linter.unusedSimpArgs false
namespace Go.Proofs.Ytginlmgkimfjmaa
open Go.Sy Go.RowKit
def ssym_vc (u0 : List Job) (u1 : Int) (u2 : Int) (u3 : Int) (u4 : Job → Job → Int) (K : (List Job) → Prop) : Prop :=
  (u0.length ≤ 140737488355328 →
    ((((w64 (u2 - u1)) == 1) = true →
      (∃ inv30 : Int → Prop,
      (∃ inv254 : Int → Int → Prop, ∃ mu254 : Int → Int → Nat, inv254 u2 u3 ∧
      (∀ (x10v : Int) (x11 : Int), inv254 x10v x11 →
      (((decide (x10v < x11)) = true →
        ((0 ≤ w64 (bShr .u64 (wu64 (w64 (x10v + x11))) 1) ∧ w64 (bShr .u64 (wu64 (w64 (x10v + x11))) 1) < (u0.length : Int)) ∧
        (∀ qd4_0, u0[(w64 (bShr .u64 (wu64 (w64 (x10v + x11))) 1)).toNat]? = some qd4_0 →
        ((0 ≤ u1 ∧ u1 < (u0.length : Int)) ∧
        (∀ qd8_0, u0[u1.toNat]? = some qd8_0 →
        (((decide ((u4 qd4_0 qd8_0) < 0)) = true →
          (inv254 (w64 ((w64 (bShr .u64 (wu64 (w64 (x10v + x11))) 1)) + 1)) x11 ∧ mu254 (w64 ((w64 (bShr .u64 (wu64 (w64 (x10v + x11))) 1)) + 1)) x11 < mu254 x10v x11)) ∧
        ((decide ((u4 qd4_0 qd8_0) < 0)) = false →
          (inv254 x10v (w64 (bShr .u64 (wu64 (w64 (x10v + x11))) 1)) ∧ mu254 x10v (w64 (bShr .u64 (wu64 (w64 (x10v + x11))) 1)) < mu254 x10v x11)))))))) ∧
      ((decide (x10v < x11)) = false →
        (inv30 x10v))))) ∧
      (∀ (x10 : Int), inv30 x10 →
        (∃ inv49 : Int → (List Job) → Prop, ∃ mu49 : Int → (List Job) → Nat, inv49 u1 u0 ∧
        (∀ (x13 : Int) (zao1 : List Job), inv49 x13 zao1 →
        (((decide (x13 < (w64 (x10 - 1)))) = true →
          ((0 ≤ w64 (x13 + 1) ∧ w64 (x13 + 1) < (zao1.length : Int)) ∧
          (∀ qd9_0, zao1[(w64 (x13 + 1)).toNat]? = some qd9_0 →
          ((0 ≤ x13 ∧ x13 < (zao1.length : Int)) ∧
          (∀ qd13_0, zao1[x13.toNat]? = some qd13_0 →
          ((0 ≤ x13 ∧ x13 < (zao1.length : Int)) ∧
          ((0 ≤ w64 (x13 + 1) ∧ w64 (x13 + 1) < (zao1.length : Int)) ∧
          (inv49 (w64 (x13 + 1)) ((zao1.set x13.toNat qd9_0).set (w64 (x13 + 1)).toNat qd13_0) ∧ mu49 (w64 (x13 + 1)) ((zao1.set x13.toNat qd9_0).set (w64 (x13 + 1)).toNat qd13_0) < mu49 x13 zao1)))))))) ∧
        ((decide (x13 < (w64 (x10 - 1)))) = false →
          ((zao1.length = u0.length) ∧
          (K zao1))))))))) ∧
    (((w64 (u2 - u1)) == 1) = false →
      ((((w64 (u3 - u2)) == 1) = true →
        (∃ inv441 : Int → Prop,
        (∃ inv663 : Int → Int → Prop, ∃ mu663 : Int → Int → Nat, inv663 u1 u2 ∧
        (∀ (x14v : Int) (x15 : Int), inv663 x14v x15 →
        (((decide (x14v < x15)) = true →
          ((0 ≤ u2 ∧ u2 < (u0.length : Int)) ∧
          (∀ qd4_0, u0[u2.toNat]? = some qd4_0 →
          ((0 ≤ w64 (bShr .u64 (wu64 (w64 (x14v + x15))) 1) ∧ w64 (bShr .u64 (wu64 (w64 (x14v + x15))) 1) < (u0.length : Int)) ∧
          (∀ qd8_0, u0[(w64 (bShr .u64 (wu64 (w64 (x14v + x15))) 1)).toNat]? = some qd8_0 →
          (((!(decide ((u4 qd4_0 qd8_0) < 0))) = true →
            (inv663 (w64 ((w64 (bShr .u64 (wu64 (w64 (x14v + x15))) 1)) + 1)) x15 ∧ mu663 (w64 ((w64 (bShr .u64 (wu64 (w64 (x14v + x15))) 1)) + 1)) x15 < mu663 x14v x15)) ∧
          ((!(decide ((u4 qd4_0 qd8_0) < 0))) = false →
            (inv663 x14v (w64 (bShr .u64 (wu64 (w64 (x14v + x15))) 1)) ∧ mu663 x14v (w64 (bShr .u64 (wu64 (w64 (x14v + x15))) 1)) < mu663 x14v x15)))))))) ∧
        ((decide (x14v < x15)) = false →
          (inv441 x14v))))) ∧
        (∀ (x14 : Int), inv441 x14 →
          (∃ inv460 : Int → (List Job) → Prop, ∃ mu460 : Int → (List Job) → Nat, inv460 u2 u0 ∧
          (∀ (x17 : Int) (zao1 : List Job), inv460 x17 zao1 →
          (((decide (x17 > x14)) = true →
            ((0 ≤ w64 (x17 - 1) ∧ w64 (x17 - 1) < (zao1.length : Int)) ∧
            (∀ qd9_0, zao1[(w64 (x17 - 1)).toNat]? = some qd9_0 →
            ((0 ≤ x17 ∧ x17 < (zao1.length : Int)) ∧
            (∀ qd13_0, zao1[x17.toNat]? = some qd13_0 →
            ((0 ≤ x17 ∧ x17 < (zao1.length : Int)) ∧
            ((0 ≤ w64 (x17 - 1) ∧ w64 (x17 - 1) < (zao1.length : Int)) ∧
            (inv460 (w64 (x17 - 1)) ((zao1.set x17.toNat qd9_0).set (w64 (x17 - 1)).toNat qd13_0) ∧ mu460 (w64 (x17 - 1)) ((zao1.set x17.toNat qd9_0).set (w64 (x17 - 1)).toNat qd13_0) < mu460 x17 zao1)))))))) ∧
          ((decide (x17 > x14)) = false →
            ((zao1.length = u0.length) ∧
            (K zao1))))))))) ∧
      (((w64 (u3 - u2)) == 1) = false →
        (((decide (u2 > (w64 (bShr .u64 (wu64 (w64 (u1 + u3))) 1)))) = true →
          (∃ inv896 : Int → Prop,
          (∃ inv1243 : Int → Int → Prop, ∃ mu1243 : Int → Int → Nat, inv1243 (w64 ((w64 ((w64 (bShr .u64 (wu64 (w64 (u1 + u3))) 1)) + u2)) - u3)) (w64 (bShr .u64 (wu64 (w64 (u1 + u3))) 1)) ∧
          (∀ (x20v : Int) (x21 : Int), inv1243 x20v x21 →
          (((decide (x20v < x21)) = true →
            ((0 ≤ w64 ((w64 ((w64 ((w64 (bShr .u64 (wu64 (w64 (u1 + u3))) 1)) + u2)) - 1)) - (w64 (bShr .u64 (wu64 (w64 (x20v + x21))) 1))) ∧ w64 ((w64 ((w64 ((w64 (bShr .u64 (wu64 (w64 (u1 + u3))) 1)) + u2)) - 1)) - (w64 (bShr .u64 (wu64 (w64 (x20v + x21))) 1))) < (u0.length : Int)) ∧
            (∀ qd6_0, u0[(w64 ((w64 ((w64 ((w64 (bShr .u64 (wu64 (w64 (u1 + u3))) 1)) + u2)) - 1)) - (w64 (bShr .u64 (wu64 (w64 (x20v + x21))) 1)))).toNat]? = some qd6_0 →
            ((0 ≤ w64 (bShr .u64 (wu64 (w64 (x20v + x21))) 1) ∧ w64 (bShr .u64 (wu64 (w64 (x20v + x21))) 1) < (u0.length : Int)) ∧
            (∀ qd10_0, u0[(w64 (bShr .u64 (wu64 (w64 (x20v + x21))) 1)).toNat]? = some qd10_0 →
            (((!(decide ((u4 qd6_0 qd10_0) < 0))) = true →
              (inv1243 (w64 ((w64 (bShr .u64 (wu64 (w64 (x20v + x21))) 1)) + 1)) x21 ∧ mu1243 (w64 ((w64 (bShr .u64 (wu64 (w64 (x20v + x21))) 1)) + 1)) x21 < mu1243 x20v x21)) ∧
            ((!(decide ((u4 qd6_0 qd10_0) < 0))) = false →
              (inv1243 x20v (w64 (bShr .u64 (wu64 (w64 (x20v + x21))) 1)) ∧ mu1243 x20v (w64 (bShr .u64 (wu64 (w64 (x20v + x21))) 1)) < mu1243 x20v x21)))))))) ∧
          ((decide (x20v < x21)) = false →
            (inv896 x20v))))) ∧
          (∀ (x20 : Int), inv896 x20 →
            ((((decide (x20 < u2)) && (decide (u2 < (w64 ((w64 ((w64 (bShr .u64 (wu64 (w64 (u1 + u3))) 1)) + u2)) - x20))))) = true →
              (srot_vc u0 x20 u2 (w64 ((w64 ((w64 (bShr .u64 (wu64 (w64 (u1 + u3))) 1)) + u2)) - x20)) u4 fun r949 =>
              (r949.length ≤ 140737488355328 →
              ((((decide (u1 < x20)) && (decide (x20 < (w64 (bShr .u64 (wu64 (w64 (u1 + u3))) 1))))) = true →
                ((symMu r949 u1 x20 (w64 (bShr .u64 (wu64 (w64 (u1 + u3))) 1)) u4 < symMu u0 u1 u2 u3 u4 ∧ symPre r949 u1 x20 (w64 (bShr .u64 (wu64 (w64 (u1 + u3))) 1)) u4) ∧
                ((segC2 r949 u1 x20 (w64 (bShr .u64 (wu64 (w64 (u1 + u3))) 1)) u4).length ≤ 140737488355328 →
                ((((decide ((w64 (bShr .u64 (wu64 (w64 (u1 + u3))) 1)) < (w64 ((w64 ((w64 (bShr .u64 (wu64 (w64 (u1 + u3))) 1)) + u2)) - x20)))) && (decide ((w64 ((w64 ((w64 (bShr .u64 (wu64 (w64 (u1 + u3))) 1)) + u2)) - x20)) < u3))) = true →
                  ((symMu (segC2 r949 u1 x20 (w64 (bShr .u64 (wu64 (w64 (u1 + u3))) 1)) u4) (w64 (bShr .u64 (wu64 (w64 (u1 + u3))) 1)) (w64 ((w64 ((w64 (bShr .u64 (wu64 (w64 (u1 + u3))) 1)) + u2)) - x20)) u3 u4 < symMu u0 u1 u2 u3 u4 ∧ symPre (segC2 r949 u1 x20 (w64 (bShr .u64 (wu64 (w64 (u1 + u3))) 1)) u4) (w64 (bShr .u64 (wu64 (w64 (u1 + u3))) 1)) (w64 ((w64 ((w64 (bShr .u64 (wu64 (w64 (u1 + u3))) 1)) + u2)) - x20)) u3 u4) ∧
                  ((segC2 (segC2 r949 u1 x20 (w64 (bShr .u64 (wu64 (w64 (u1 + u3))) 1)) u4) (w64 (bShr .u64 (wu64 (w64 (u1 + u3))) 1)) (w64 ((w64 ((w64 (bShr .u64 (wu64 (w64 (u1 + u3))) 1)) + u2)) - x20)) u3 u4).length ≤ 140737488355328 →
                  (((segC2 (segC2 r949 u1 x20 (w64 (bShr .u64 (wu64 (w64 (u1 + u3))) 1)) u4) (w64 (bShr .u64 (wu64 (w64 (u1 + u3))) 1)) (w64 ((w64 ((w64 (bShr .u64 (wu64 (w64 (u1 + u3))) 1)) + u2)) - x20)) u3 u4).length = u0.length) ∧
                  (K (segC2 (segC2 r949 u1 x20 (w64 (bShr .u64 (wu64 (w64 (u1 + u3))) 1)) u4) (w64 (bShr .u64 (wu64 (w64 (u1 + u3))) 1)) (w64 ((w64 ((w64 (bShr .u64 (wu64 (w64 (u1 + u3))) 1)) + u2)) - x20)) u3 u4)))))) ∧
                (((decide ((w64 (bShr .u64 (wu64 (w64 (u1 + u3))) 1)) < (w64 ((w64 ((w64 (bShr .u64 (wu64 (w64 (u1 + u3))) 1)) + u2)) - x20)))) && (decide ((w64 ((w64 ((w64 (bShr .u64 (wu64 (w64 (u1 + u3))) 1)) + u2)) - x20)) < u3))) = false →
                  (((segC2 r949 u1 x20 (w64 (bShr .u64 (wu64 (w64 (u1 + u3))) 1)) u4).length = u0.length) ∧
                  (K (segC2 r949 u1 x20 (w64 (bShr .u64 (wu64 (w64 (u1 + u3))) 1)) u4)))))))) ∧
              (((decide (u1 < x20)) && (decide (x20 < (w64 (bShr .u64 (wu64 (w64 (u1 + u3))) 1))))) = false →
                ((((decide ((w64 (bShr .u64 (wu64 (w64 (u1 + u3))) 1)) < (w64 ((w64 ((w64 (bShr .u64 (wu64 (w64 (u1 + u3))) 1)) + u2)) - x20)))) && (decide ((w64 ((w64 ((w64 (bShr .u64 (wu64 (w64 (u1 + u3))) 1)) + u2)) - x20)) < u3))) = true →
                  ((symMu r949 (w64 (bShr .u64 (wu64 (w64 (u1 + u3))) 1)) (w64 ((w64 ((w64 (bShr .u64 (wu64 (w64 (u1 + u3))) 1)) + u2)) - x20)) u3 u4 < symMu u0 u1 u2 u3 u4 ∧ symPre r949 (w64 (bShr .u64 (wu64 (w64 (u1 + u3))) 1)) (w64 ((w64 ((w64 (bShr .u64 (wu64 (w64 (u1 + u3))) 1)) + u2)) - x20)) u3 u4) ∧
                  ((segC2 r949 (w64 (bShr .u64 (wu64 (w64 (u1 + u3))) 1)) (w64 ((w64 ((w64 (bShr .u64 (wu64 (w64 (u1 + u3))) 1)) + u2)) - x20)) u3 u4).length ≤ 140737488355328 →
                  (((segC2 r949 (w64 (bShr .u64 (wu64 (w64 (u1 + u3))) 1)) (w64 ((w64 ((w64 (bShr .u64 (wu64 (w64 (u1 + u3))) 1)) + u2)) - x20)) u3 u4).length = u0.length) ∧
                  (K (segC2 r949 (w64 (bShr .u64 (wu64 (w64 (u1 + u3))) 1)) (w64 ((w64 ((w64 (bShr .u64 (wu64 (w64 (u1 + u3))) 1)) + u2)) - x20)) u3 u4)))))) ∧
                (((decide ((w64 (bShr .u64 (wu64 (w64 (u1 + u3))) 1)) < (w64 ((w64 ((w64 (bShr .u64 (wu64 (w64 (u1 + u3))) 1)) + u2)) - x20)))) && (decide ((w64 ((w64 ((w64 (bShr .u64 (wu64 (w64 (u1 + u3))) 1)) + u2)) - x20)) < u3))) = false →
                  ((r949.length = u0.length) ∧
                  (K r949))))))))) ∧
            (((decide (x20 < u2)) && (decide (u2 < (w64 ((w64 ((w64 (bShr .u64 (wu64 (w64 (u1 + u3))) 1)) + u2)) - x20))))) = false →
              ((((decide (u1 < x20)) && (decide (x20 < (w64 (bShr .u64 (wu64 (w64 (u1 + u3))) 1))))) = true →
                ((symMu u0 u1 x20 (w64 (bShr .u64 (wu64 (w64 (u1 + u3))) 1)) u4 < symMu u0 u1 u2 u3 u4 ∧ symPre u0 u1 x20 (w64 (bShr .u64 (wu64 (w64 (u1 + u3))) 1)) u4) ∧
                ((segC2 u0 u1 x20 (w64 (bShr .u64 (wu64 (w64 (u1 + u3))) 1)) u4).length ≤ 140737488355328 →
                ((((decide ((w64 (bShr .u64 (wu64 (w64 (u1 + u3))) 1)) < (w64 ((w64 ((w64 (bShr .u64 (wu64 (w64 (u1 + u3))) 1)) + u2)) - x20)))) && (decide ((w64 ((w64 ((w64 (bShr .u64 (wu64 (w64 (u1 + u3))) 1)) + u2)) - x20)) < u3))) = true →
                  ((symMu (segC2 u0 u1 x20 (w64 (bShr .u64 (wu64 (w64 (u1 + u3))) 1)) u4) (w64 (bShr .u64 (wu64 (w64 (u1 + u3))) 1)) (w64 ((w64 ((w64 (bShr .u64 (wu64 (w64 (u1 + u3))) 1)) + u2)) - x20)) u3 u4 < symMu u0 u1 u2 u3 u4 ∧ symPre (segC2 u0 u1 x20 (w64 (bShr .u64 (wu64 (w64 (u1 + u3))) 1)) u4) (w64 (bShr .u64 (wu64 (w64 (u1 + u3))) 1)) (w64 ((w64 ((w64 (bShr .u64 (wu64 (w64 (u1 + u3))) 1)) + u2)) - x20)) u3 u4) ∧
                  ((segC2 (segC2 u0 u1 x20 (w64 (bShr .u64 (wu64 (w64 (u1 + u3))) 1)) u4) (w64 (bShr .u64 (wu64 (w64 (u1 + u3))) 1)) (w64 ((w64 ((w64 (bShr .u64 (wu64 (w64 (u1 + u3))) 1)) + u2)) - x20)) u3 u4).length ≤ 140737488355328 →
                  (((segC2 (segC2 u0 u1 x20 (w64 (bShr .u64 (wu64 (w64 (u1 + u3))) 1)) u4) (w64 (bShr .u64 (wu64 (w64 (u1 + u3))) 1)) (w64 ((w64 ((w64 (bShr .u64 (wu64 (w64 (u1 + u3))) 1)) + u2)) - x20)) u3 u4).length = u0.length) ∧
                  (K (segC2 (segC2 u0 u1 x20 (w64 (bShr .u64 (wu64 (w64 (u1 + u3))) 1)) u4) (w64 (bShr .u64 (wu64 (w64 (u1 + u3))) 1)) (w64 ((w64 ((w64 (bShr .u64 (wu64 (w64 (u1 + u3))) 1)) + u2)) - x20)) u3 u4)))))) ∧
                (((decide ((w64 (bShr .u64 (wu64 (w64 (u1 + u3))) 1)) < (w64 ((w64 ((w64 (bShr .u64 (wu64 (w64 (u1 + u3))) 1)) + u2)) - x20)))) && (decide ((w64 ((w64 ((w64 (bShr .u64 (wu64 (w64 (u1 + u3))) 1)) + u2)) - x20)) < u3))) = false →
                  (((segC2 u0 u1 x20 (w64 (bShr .u64 (wu64 (w64 (u1 + u3))) 1)) u4).length = u0.length) ∧
                  (K (segC2 u0 u1 x20 (w64 (bShr .u64 (wu64 (w64 (u1 + u3))) 1)) u4)))))))) ∧
              (((decide (u1 < x20)) && (decide (x20 < (w64 (bShr .u64 (wu64 (w64 (u1 + u3))) 1))))) = false →
                ((((decide ((w64 (bShr .u64 (wu64 (w64 (u1 + u3))) 1)) < (w64 ((w64 ((w64 (bShr .u64 (wu64 (w64 (u1 + u3))) 1)) + u2)) - x20)))) && (decide ((w64 ((w64 ((w64 (bShr .u64 (wu64 (w64 (u1 + u3))) 1)) + u2)) - x20)) < u3))) = true →
                  ((symMu u0 (w64 (bShr .u64 (wu64 (w64 (u1 + u3))) 1)) (w64 ((w64 ((w64 (bShr .u64 (wu64 (w64 (u1 + u3))) 1)) + u2)) - x20)) u3 u4 < symMu u0 u1 u2 u3 u4 ∧ symPre u0 (w64 (bShr .u64 (wu64 (w64 (u1 + u3))) 1)) (w64 ((w64 ((w64 (bShr .u64 (wu64 (w64 (u1 + u3))) 1)) + u2)) - x20)) u3 u4) ∧
                  ((segC2 u0 (w64 (bShr .u64 (wu64 (w64 (u1 + u3))) 1)) (w64 ((w64 ((w64 (bShr .u64 (wu64 (w64 (u1 + u3))) 1)) + u2)) - x20)) u3 u4).length ≤ 140737488355328 →
                  (((segC2 u0 (w64 (bShr .u64 (wu64 (w64 (u1 + u3))) 1)) (w64 ((w64 ((w64 (bShr .u64 (wu64 (w64 (u1 + u3))) 1)) + u2)) - x20)) u3 u4).length = u0.length) ∧
                  (K (segC2 u0 (w64 (bShr .u64 (wu64 (w64 (u1 + u3))) 1)) (w64 ((w64 ((w64 (bShr .u64 (wu64 (w64 (u1 + u3))) 1)) + u2)) - x20)) u3 u4)))))) ∧
                (((decide ((w64 (bShr .u64 (wu64 (w64 (u1 + u3))) 1)) < (w64 ((w64 ((w64 (bShr .u64 (wu64 (w64 (u1 + u3))) 1)) + u2)) - x20)))) && (decide ((w64 ((w64 ((w64 (bShr .u64 (wu64 (w64 (u1 + u3))) 1)) + u2)) - x20)) < u3))) = false →
                  ((u0.length = u0.length) ∧
                  (K u0))))))))))) ∧
        ((decide (u2 > (w64 (bShr .u64 (wu64 (w64 (u1 + u3))) 1)))) = false →
          (∃ inv1446 : Int → Prop,
          (∃ inv1793 : Int → Int → Prop, ∃ mu1793 : Int → Int → Nat, inv1793 u1 u2 ∧
          (∀ (x20v : Int) (x21 : Int), inv1793 x20v x21 →
          (((decide (x20v < x21)) = true →
            ((0 ≤ w64 ((w64 ((w64 ((w64 (bShr .u64 (wu64 (w64 (u1 + u3))) 1)) + u2)) - 1)) - (w64 (bShr .u64 (wu64 (w64 (x20v + x21))) 1))) ∧ w64 ((w64 ((w64 ((w64 (bShr .u64 (wu64 (w64 (u1 + u3))) 1)) + u2)) - 1)) - (w64 (bShr .u64 (wu64 (w64 (x20v + x21))) 1))) < (u0.length : Int)) ∧
            (∀ qd6_0, u0[(w64 ((w64 ((w64 ((w64 (bShr .u64 (wu64 (w64 (u1 + u3))) 1)) + u2)) - 1)) - (w64 (bShr .u64 (wu64 (w64 (x20v + x21))) 1)))).toNat]? = some qd6_0 →
            ((0 ≤ w64 (bShr .u64 (wu64 (w64 (x20v + x21))) 1) ∧ w64 (bShr .u64 (wu64 (w64 (x20v + x21))) 1) < (u0.length : Int)) ∧
            (∀ qd10_0, u0[(w64 (bShr .u64 (wu64 (w64 (x20v + x21))) 1)).toNat]? = some qd10_0 →
            (((!(decide ((u4 qd6_0 qd10_0) < 0))) = true →
              (inv1793 (w64 ((w64 (bShr .u64 (wu64 (w64 (x20v + x21))) 1)) + 1)) x21 ∧ mu1793 (w64 ((w64 (bShr .u64 (wu64 (w64 (x20v + x21))) 1)) + 1)) x21 < mu1793 x20v x21)) ∧
            ((!(decide ((u4 qd6_0 qd10_0) < 0))) = false →
              (inv1793 x20v (w64 (bShr .u64 (wu64 (w64 (x20v + x21))) 1)) ∧ mu1793 x20v (w64 (bShr .u64 (wu64 (w64 (x20v + x21))) 1)) < mu1793 x20v x21)))))))) ∧
          ((decide (x20v < x21)) = false →
            (inv1446 x20v))))) ∧
          (∀ (x20 : Int), inv1446 x20 →
            ((((decide (x20 < u2)) && (decide (u2 < (w64 ((w64 ((w64 (bShr .u64 (wu64 (w64 (u1 + u3))) 1)) + u2)) - x20))))) = true →
              (srot_vc u0 x20 u2 (w64 ((w64 ((w64 (bShr .u64 (wu64 (w64 (u1 + u3))) 1)) + u2)) - x20)) u4 fun r1499 =>
              (r1499.length ≤ 140737488355328 →
              ((((decide (u1 < x20)) && (decide (x20 < (w64 (bShr .u64 (wu64 (w64 (u1 + u3))) 1))))) = true →
                ((symMu r1499 u1 x20 (w64 (bShr .u64 (wu64 (w64 (u1 + u3))) 1)) u4 < symMu u0 u1 u2 u3 u4 ∧ symPre r1499 u1 x20 (w64 (bShr .u64 (wu64 (w64 (u1 + u3))) 1)) u4) ∧
                ((segC2 r1499 u1 x20 (w64 (bShr .u64 (wu64 (w64 (u1 + u3))) 1)) u4).length ≤ 140737488355328 →
                ((((decide ((w64 (bShr .u64 (wu64 (w64 (u1 + u3))) 1)) < (w64 ((w64 ((w64 (bShr .u64 (wu64 (w64 (u1 + u3))) 1)) + u2)) - x20)))) && (decide ((w64 ((w64 ((w64 (bShr .u64 (wu64 (w64 (u1 + u3))) 1)) + u2)) - x20)) < u3))) = true →
                  ((symMu (segC2 r1499 u1 x20 (w64 (bShr .u64 (wu64 (w64 (u1 + u3))) 1)) u4) (w64 (bShr .u64 (wu64 (w64 (u1 + u3))) 1)) (w64 ((w64 ((w64 (bShr .u64 (wu64 (w64 (u1 + u3))) 1)) + u2)) - x20)) u3 u4 < symMu u0 u1 u2 u3 u4 ∧ symPre (segC2 r1499 u1 x20 (w64 (bShr .u64 (wu64 (w64 (u1 + u3))) 1)) u4) (w64 (bShr .u64 (wu64 (w64 (u1 + u3))) 1)) (w64 ((w64 ((w64 (bShr .u64 (wu64 (w64 (u1 + u3))) 1)) + u2)) - x20)) u3 u4) ∧
                  ((segC2 (segC2 r1499 u1 x20 (w64 (bShr .u64 (wu64 (w64 (u1 + u3))) 1)) u4) (w64 (bShr .u64 (wu64 (w64 (u1 + u3))) 1)) (w64 ((w64 ((w64 (bShr .u64 (wu64 (w64 (u1 + u3))) 1)) + u2)) - x20)) u3 u4).length ≤ 140737488355328 →
                  (((segC2 (segC2 r1499 u1 x20 (w64 (bShr .u64 (wu64 (w64 (u1 + u3))) 1)) u4) (w64 (bShr .u64 (wu64 (w64 (u1 + u3))) 1)) (w64 ((w64 ((w64 (bShr .u64 (wu64 (w64 (u1 + u3))) 1)) + u2)) - x20)) u3 u4).length = u0.length) ∧
                  (K (segC2 (segC2 r1499 u1 x20 (w64 (bShr .u64 (wu64 (w64 (u1 + u3))) 1)) u4) (w64 (bShr .u64 (wu64 (w64 (u1 + u3))) 1)) (w64 ((w64 ((w64 (bShr .u64 (wu64 (w64 (u1 + u3))) 1)) + u2)) - x20)) u3 u4)))))) ∧
                (((decide ((w64 (bShr .u64 (wu64 (w64 (u1 + u3))) 1)) < (w64 ((w64 ((w64 (bShr .u64 (wu64 (w64 (u1 + u3))) 1)) + u2)) - x20)))) && (decide ((w64 ((w64 ((w64 (bShr .u64 (wu64 (w64 (u1 + u3))) 1)) + u2)) - x20)) < u3))) = false →
                  (((segC2 r1499 u1 x20 (w64 (bShr .u64 (wu64 (w64 (u1 + u3))) 1)) u4).length = u0.length) ∧
                  (K (segC2 r1499 u1 x20 (w64 (bShr .u64 (wu64 (w64 (u1 + u3))) 1)) u4)))))))) ∧
              (((decide (u1 < x20)) && (decide (x20 < (w64 (bShr .u64 (wu64 (w64 (u1 + u3))) 1))))) = false →
                ((((decide ((w64 (bShr .u64 (wu64 (w64 (u1 + u3))) 1)) < (w64 ((w64 ((w64 (bShr .u64 (wu64 (w64 (u1 + u3))) 1)) + u2)) - x20)))) && (decide ((w64 ((w64 ((w64 (bShr .u64 (wu64 (w64 (u1 + u3))) 1)) + u2)) - x20)) < u3))) = true →
                  ((symMu r1499 (w64 (bShr .u64 (wu64 (w64 (u1 + u3))) 1)) (w64 ((w64 ((w64 (bShr .u64 (wu64 (w64 (u1 + u3))) 1)) + u2)) - x20)) u3 u4 < symMu u0 u1 u2 u3 u4 ∧ symPre r1499 (w64 (bShr .u64 (wu64 (w64 (u1 + u3))) 1)) (w64 ((w64 ((w64 (bShr .u64 (wu64 (w64 (u1 + u3))) 1)) + u2)) - x20)) u3 u4) ∧
                  ((segC2 r1499 (w64 (bShr .u64 (wu64 (w64 (u1 + u3))) 1)) (w64 ((w64 ((w64 (bShr .u64 (wu64 (w64 (u1 + u3))) 1)) + u2)) - x20)) u3 u4).length ≤ 140737488355328 →
                  (((segC2 r1499 (w64 (bShr .u64 (wu64 (w64 (u1 + u3))) 1)) (w64 ((w64 ((w64 (bShr .u64 (wu64 (w64 (u1 + u3))) 1)) + u2)) - x20)) u3 u4).length = u0.length) ∧
                  (K (segC2 r1499 (w64 (bShr .u64 (wu64 (w64 (u1 + u3))) 1)) (w64 ((w64 ((w64 (bShr .u64 (wu64 (w64 (u1 + u3))) 1)) + u2)) - x20)) u3 u4)))))) ∧
                (((decide ((w64 (bShr .u64 (wu64 (w64 (u1 + u3))) 1)) < (w64 ((w64 ((w64 (bShr .u64 (wu64 (w64 (u1 + u3))) 1)) + u2)) - x20)))) && (decide ((w64 ((w64 ((w64 (bShr .u64 (wu64 (w64 (u1 + u3))) 1)) + u2)) - x20)) < u3))) = false →
                  ((r1499.length = u0.length) ∧
                  (K r1499))))))))) ∧
            (((decide (x20 < u2)) && (decide (u2 < (w64 ((w64 ((w64 (bShr .u64 (wu64 (w64 (u1 + u3))) 1)) + u2)) - x20))))) = false →
              ((((decide (u1 < x20)) && (decide (x20 < (w64 (bShr .u64 (wu64 (w64 (u1 + u3))) 1))))) = true →
                ((symMu u0 u1 x20 (w64 (bShr .u64 (wu64 (w64 (u1 + u3))) 1)) u4 < symMu u0 u1 u2 u3 u4 ∧ symPre u0 u1 x20 (w64 (bShr .u64 (wu64 (w64 (u1 + u3))) 1)) u4) ∧
                ((segC2 u0 u1 x20 (w64 (bShr .u64 (wu64 (w64 (u1 + u3))) 1)) u4).length ≤ 140737488355328 →
                ((((decide ((w64 (bShr .u64 (wu64 (w64 (u1 + u3))) 1)) < (w64 ((w64 ((w64 (bShr .u64 (wu64 (w64 (u1 + u3))) 1)) + u2)) - x20)))) && (decide ((w64 ((w64 ((w64 (bShr .u64 (wu64 (w64 (u1 + u3))) 1)) + u2)) - x20)) < u3))) = true →
                  ((symMu (segC2 u0 u1 x20 (w64 (bShr .u64 (wu64 (w64 (u1 + u3))) 1)) u4) (w64 (bShr .u64 (wu64 (w64 (u1 + u3))) 1)) (w64 ((w64 ((w64 (bShr .u64 (wu64 (w64 (u1 + u3))) 1)) + u2)) - x20)) u3 u4 < symMu u0 u1 u2 u3 u4 ∧ symPre (segC2 u0 u1 x20 (w64 (bShr .u64 (wu64 (w64 (u1 + u3))) 1)) u4) (w64 (bShr .u64 (wu64 (w64 (u1 + u3))) 1)) (w64 ((w64 ((w64 (bShr .u64 (wu64 (w64 (u1 + u3))) 1)) + u2)) - x20)) u3 u4) ∧
                  ((segC2 (segC2 u0 u1 x20 (w64 (bShr .u64 (wu64 (w64 (u1 + u3))) 1)) u4) (w64 (bShr .u64 (wu64 (w64 (u1 + u3))) 1)) (w64 ((w64 ((w64 (bShr .u64 (wu64 (w64 (u1 + u3))) 1)) + u2)) - x20)) u3 u4).length ≤ 140737488355328 →
                  (((segC2 (segC2 u0 u1 x20 (w64 (bShr .u64 (wu64 (w64 (u1 + u3))) 1)) u4) (w64 (bShr .u64 (wu64 (w64 (u1 + u3))) 1)) (w64 ((w64 ((w64 (bShr .u64 (wu64 (w64 (u1 + u3))) 1)) + u2)) - x20)) u3 u4).length = u0.length) ∧
                  (K (segC2 (segC2 u0 u1 x20 (w64 (bShr .u64 (wu64 (w64 (u1 + u3))) 1)) u4) (w64 (bShr .u64 (wu64 (w64 (u1 + u3))) 1)) (w64 ((w64 ((w64 (bShr .u64 (wu64 (w64 (u1 + u3))) 1)) + u2)) - x20)) u3 u4)))))) ∧
                (((decide ((w64 (bShr .u64 (wu64 (w64 (u1 + u3))) 1)) < (w64 ((w64 ((w64 (bShr .u64 (wu64 (w64 (u1 + u3))) 1)) + u2)) - x20)))) && (decide ((w64 ((w64 ((w64 (bShr .u64 (wu64 (w64 (u1 + u3))) 1)) + u2)) - x20)) < u3))) = false →
                  (((segC2 u0 u1 x20 (w64 (bShr .u64 (wu64 (w64 (u1 + u3))) 1)) u4).length = u0.length) ∧
                  (K (segC2 u0 u1 x20 (w64 (bShr .u64 (wu64 (w64 (u1 + u3))) 1)) u4)))))))) ∧
              (((decide (u1 < x20)) && (decide (x20 < (w64 (bShr .u64 (wu64 (w64 (u1 + u3))) 1))))) = false →
                ((((decide ((w64 (bShr .u64 (wu64 (w64 (u1 + u3))) 1)) < (w64 ((w64 ((w64 (bShr .u64 (wu64 (w64 (u1 + u3))) 1)) + u2)) - x20)))) && (decide ((w64 ((w64 ((w64 (bShr .u64 (wu64 (w64 (u1 + u3))) 1)) + u2)) - x20)) < u3))) = true →
                  ((symMu u0 (w64 (bShr .u64 (wu64 (w64 (u1 + u3))) 1)) (w64 ((w64 ((w64 (bShr .u64 (wu64 (w64 (u1 + u3))) 1)) + u2)) - x20)) u3 u4 < symMu u0 u1 u2 u3 u4 ∧ symPre u0 (w64 (bShr .u64 (wu64 (w64 (u1 + u3))) 1)) (w64 ((w64 ((w64 (bShr .u64 (wu64 (w64 (u1 + u3))) 1)) + u2)) - x20)) u3 u4) ∧
                  ((segC2 u0 (w64 (bShr .u64 (wu64 (w64 (u1 + u3))) 1)) (w64 ((w64 ((w64 (bShr .u64 (wu64 (w64 (u1 + u3))) 1)) + u2)) - x20)) u3 u4).length ≤ 140737488355328 →
                  (((segC2 u0 (w64 (bShr .u64 (wu64 (w64 (u1 + u3))) 1)) (w64 ((w64 ((w64 (bShr .u64 (wu64 (w64 (u1 + u3))) 1)) + u2)) - x20)) u3 u4).length = u0.length) ∧
                  (K (segC2 u0 (w64 (bShr .u64 (wu64 (w64 (u1 + u3))) 1)) (w64 ((w64 ((w64 (bShr .u64 (wu64 (w64 (u1 + u3))) 1)) + u2)) - x20)) u3 u4)))))) ∧
                (((decide ((w64 (bShr .u64 (wu64 (w64 (u1 + u3))) 1)) < (w64 ((w64 ((w64 (bShr .u64 (wu64 (w64 (u1 + u3))) 1)) + u2)) - x20)))) && (decide ((w64 ((w64 ((w64 (bShr .u64 (wu64 (w64 (u1 + u3))) 1)) + u2)) - x20)) < u3))) = false →
                  ((u0.length = u0.length) ∧
                  (K u0)))))))))))))))))

/-! Pure proofs: no program in sight. -/
theorem srot_ok (l : List Job) (a m b : Int) (cmp : Job → Job → Int) (p u v q : List Job) (hl : l = p ++ (u ++ (v ++ q))) (ha : a = p.length) (hm : m = a + u.length) (hb : b = m + v.length) (hu : u ≠ []) (hv : v ≠ []) (hs : l.length ≤ 10000000) : srot_vc l a m b cmp (fun r => r = p ++ (v ++ (u ++ q))) := by
  intro _
  have hlen : l.length = p.length + u.length + v.length + q.length := by rw [hl]; simp; omega
  have pos : ∀ {x : List Job}, x ≠ [] → 0 < x.length := fun h => List.length_pos_iff.2 h
  have ne : ∀ {x : List Job}, 0 < x.length → x ≠ [] := fun h => List.length_pos_iff.1 h
  have e1 : w64 (m - a) = u.length := by rw [w64_eq _ (by omega)]; omega
  have e2 : w64 (b - m) = v.length := by rw [w64_eq _ (by omega)]; omega
  rw [e1, e2]
  refine ⟨fun i j z => ∃ (p' u' v' q' : List Job), i = u'.length ∧ j = v'.length ∧ u' ≠ [] ∧ v' ≠ [] ∧ z = p' ++ (u' ++ (v' ++ q')) ∧ m = p'.length + u'.length ∧ z.length = l.length ∧ p' ++ (v' ++ (u' ++ q')) = p ++ (v ++ (u ++ q)), fun i j _ => (i + j).toNat, ⟨p, u, v, q, rfl, rfl, hu, hv, hl, by omega, rfl, rfl⟩, ?_⟩
  rintro _ _ _ ⟨p', u', v', q', rfl, rfl, hu', hv', rfl, hm', hz, hf⟩
  have h1 := pos hu'
  have h2 := pos hv'
  have hzl : (p' ++ (u' ++ (v' ++ q'))).length = p'.length + u'.length + v'.length + q'.length := by simp; omega
  refine ⟨fun h3 => ⟨fun h4 => ?_, fun h4 => ?_⟩, fun h3 => ?_⟩
  · have h4 := of_decide_eq_true h4
    have e3 : w64 (m - (u'.length : Int)) = p'.length := by rw [w64_eq _ (by omega)]; omega
    rw [e3]
    obtain ⟨u1, u2, rfl, l1⟩ : ∃ u1 u2, u' = u1 ++ u2 ∧ u1.length = v'.length := ⟨_, _, (List.take_append_drop v'.length u').symm, by simp; omega⟩
    have l2 : (u1 ++ u2).length = u1.length + u2.length := List.length_append
    refine sswap_mono ?_ (sswap_ok _ _ _ _ cmp p' u1 u2 v' q' (by simp) rfl (by omega) (by rw [l1]) l1.symm (by omega))
    rintro _ rfl _
    have e4 : w64 (((u1 ++ u2).length : Int) - (v'.length : Int)) = u2.length := by rw [w64_eq _ (by omega), l2]; omega
    rw [e4]
    refine ⟨⟨p' ++ v', u2, u1, q', rfl, by rw [l1], ne (by omega), ne (by omega), by simp, by simp; omega, by simp; omega, ?_⟩, by (try dsimp only); omega⟩
    rw [← hf]
    simp
  · have h3 : (u'.length : Int) ≠ (v'.length : Int) := by simpa using h3
    have h4 : ¬ (u'.length : Int) > (v'.length : Int) := of_decide_eq_false h4
    have e3 : w64 (m - (u'.length : Int)) = p'.length := by rw [w64_eq _ (by omega)]; omega
    have e5 : w64 (w64 (m + (v'.length : Int)) - (u'.length : Int)) = p'.length + v'.length := by rw [w64_eq (m + _) (by omega), w64_eq _ (by omega)]; omega
    rw [e3, e5]
    obtain ⟨v1, v2, rfl, l1⟩ : ∃ v1 v2, v' = v1 ++ v2 ∧ v2.length = u'.length := ⟨_, _, (List.take_append_drop (v'.length - u'.length) v').symm, by simp; omega⟩
    have l2 : (v1 ++ v2).length = v1.length + v2.length := List.length_append
    refine sswap_mono ?_ (sswap_ok _ _ _ _ cmp p' u' v1 v2 q' (by simp) rfl (by omega) rfl l1 (by omega))
    rintro _ rfl _
    have e4 : w64 (((v1 ++ v2).length : Int) - (u'.length : Int)) = v1.length := by rw [w64_eq _ (by omega), l2]; omega
    rw [e4]
    refine ⟨⟨p', v2, v1, u' ++ q', by rw [l1], rfl, ne (by omega), ne (by omega), by simp, by omega, by simp; omega, ?_⟩, by (try dsimp only); omega⟩
    rw [← hf]
    simp
  · have h3 : (u'.length : Int) = (v'.length : Int) := by simpa using h3
    have e3 : w64 (m - (u'.length : Int)) = p'.length := by rw [w64_eq _ (by omega)]; omega
    rw [e3]
    refine sswap_mono ?_ (sswap_ok _ _ _ _ cmp p' u' [] v' q' (by simp) rfl (by simp; omega) rfl (by omega) (by omega))
    rintro _ rfl _
    exact ⟨by simp; omega, by rw [← hf]; simp⟩
theorem half_eq (x : Int) (h : 0 ≤ x ∧ x ≤ 1000000000) : w64 (bShr .u64 (wu64 (w64 x)) 1) = x / 2 := by
  have e1 : wu64 (w64 x) = x := by rw [w64_eq x (by omega)]; exact IntWalk.u64_in x (by omega)
  have e2 : bShr .u64 x 1 = x / 2 := by
    unfold bShr
    rw [Int.fdiv_eq_ediv_of_nonneg _ (by decide)]
    rfl
  rw [e1, e2, w64_eq _ (by omega)]
theorem Srt.take_le {key : Job → Int} {x : List Job} (h : Srt key x) {i : Nat} {d : Job} (hd : x[i]? = some d) : ∀ e ∈ x.take (i + 1), key e ≤ key d := by
  intro e he
  obtain ⟨j, hj⟩ := List.getElem?_of_mem he
  rw [List.getElem?_take] at hj
  split at hj
  · exact h.at_ (by omega) hj hd
  · cases hj
theorem Srt.drop_ge {key : Job → Int} {x : List Job} (h : Srt key x) {i : Nat} {d : Job} (hd : x[i]? = some d) : ∀ e ∈ x.drop i, key d ≤ key e := by
  intro e he
  obtain ⟨j, hj⟩ := List.getElem?_of_mem he
  rw [List.getElem?_drop] at hj
  exact h.at_ (by omega) hd hj
theorem Srt.take {key : Job → Int} {x : List Job} (h : Srt key x) (n : Nat) : Srt key (x.take n) := h.sublist (List.take_sublist _ _)
theorem Srt.drop {key : Job → Int} {x : List Job} (h : Srt key x) (n : Nat) : Srt key (x.drop n) := h.sublist (List.drop_sublist _ _)
theorem take_drop_cons {x : List Job} {k : Nat} {c : Job} (h : x[k]? = some c) : x.drop k = c :: x.drop (k + 1) ∧ x.take (k + 1) = x.take k ++ [c] := by
  have hk := (List.getElem?_eq_some_iff.1 h).1
  refine ⟨?_, by rw [List.take_add_one, h]; rfl⟩
  rw [List.drop_eq_getElem_cons hk]
  congr 1
  rw [List.getElem?_eq_getElem hk] at h
  exact Option.some.inj h
theorem and_dec {a b c d : Int} : (decide (a < b) && decide (c < d)) = true ↔ a < b ∧ c < d := by simp
theorem and_decF {a b c d : Int} : (decide (a < b) && decide (c < d)) = false ↔ ¬ (a < b ∧ c < d) := by simp
theorem ssym_right (l z : List Job) (a m b mi en : Int) (cmp : Job → Job → Int) (key : Job → Int) (p s1 u v q : List Job) (ha : a = p.length) (hmi : mi = a + s1.length) (hen : en = mi + u.length) (hb : b = en + v.length) (hz : z = p ++ (s1 ++ (u ++ (v ++ q)))) (h0 : 0 < s1.length) (hlen : z.length = l.length) (hlim : l.length ≤ 10000000)
    (hk : Keyed cmp key (u ++ v)) (hu : Srt key u) (hv : Srt key v) (hend : p ++ (s1 ++ (sortC cmp (u ++ v) ++ q)) = segC2 l a m b cmp) :
    ((((decide (mi < en)) && (decide (en < b))) = true → ((symMu z mi en b cmp < symMu l a m b cmp ∧ symPre z mi en b cmp) ∧ ((segC2 z mi en b cmp).length ≤ 140737488355328 → (((segC2 z mi en b cmp).length = l.length) ∧ (segC2 z mi en b cmp = segC2 l a m b cmp))))) ∧
      (((decide (mi < en)) && (decide (en < b))) = false → ((z.length = l.length) ∧ (z = segC2 l a m b cmp)))) := by
  have hzl : z.length = p.length + s1.length + u.length + v.length + q.length := by rw [hz]; simp; omega
  refine ⟨fun h => ?_, fun h => ⟨hlen, ?_⟩⟩
  · have h := and_dec.1 h
    refine ⟨⟨by unfold symMu; omega, key, p ++ s1, u, v, q, by rw [hz]; simp, by simp; omega, by omega, by omega, List.length_pos_iff.1 (by omega), List.length_pos_iff.1 (by omega), hk, hu, hv, by omega⟩, fun _ => ?_⟩
    have e : segC2 z mi en b cmp = segC2 l a m b cmp := by
      rw [← hend]
      have e1 : z = (p ++ s1) ++ ((u ++ v) ++ q) := by rw [hz]; simp
      obtain ⟨k1, k2⟩ := sortC_spec hk
      unfold segC2
      rw [e1, segC_eq (y := sortC cmp (u ++ v)) (by simp; omega) (by simp; omega) hk k1 k2]
      simp
    refine ⟨?_, e⟩
    unfold segC2
    rw [segC_len (by omega)]
    exact hlen
  · have h := and_decF.1 h
    have hs : Srt key (u ++ v) := by
      by_cases hu0 : u.length = 0
      · rw [List.eq_nil_of_length_eq_zero hu0]; exact hv
      · have : v.length = 0 := by omega
        rw [List.eq_nil_of_length_eq_zero this]; simpa using hu
    rw [← hend, sortC_sorted hk hs, hz]
    simp
theorem ssym_left (l z : List Job) (a m b s mi en : Int) (cmp : Job → Job → Int) (key : Job → Int) (p a1 b1 u v q : List Job) (ha : a = p.length) (hs : s = a + a1.length) (hmi : mi = s + b1.length) (hen : en = mi + u.length) (hb : b = en + v.length) (hz : z = p ++ (a1 ++ (b1 ++ (u ++ (v ++ q))))) (h0 : 0 < a1.length + b1.length) (h9 : 0 < u.length + v.length) (hlen : z.length = l.length) (hlim : l.length ≤ 10000000)
    (hk1 : Keyed cmp key (a1 ++ b1)) (ha1 : Srt key a1) (hb1 : Srt key b1) (hk : Keyed cmp key (u ++ v)) (hu : Srt key u) (hv : Srt key v) (hend : p ++ ((sortC cmp (a1 ++ b1) ++ sortC cmp (u ++ v)) ++ q) = segC2 l a m b cmp) :
    ((((decide (a < s)) && (decide (s < mi))) = true → ((symMu z a s mi cmp < symMu l a m b cmp ∧ symPre z a s mi cmp) ∧ ((segC2 z a s mi cmp).length ≤ 140737488355328 →
      ((((decide (mi < en)) && (decide (en < b))) = true → ((symMu (segC2 z a s mi cmp) mi en b cmp < symMu l a m b cmp ∧ symPre (segC2 z a s mi cmp) mi en b cmp) ∧ ((segC2 (segC2 z a s mi cmp) mi en b cmp).length ≤ 140737488355328 → (((segC2 (segC2 z a s mi cmp) mi en b cmp).length = l.length) ∧ (segC2 (segC2 z a s mi cmp) mi en b cmp = segC2 l a m b cmp))))) ∧
      (((decide (mi < en)) && (decide (en < b))) = false → (((segC2 z a s mi cmp).length = l.length) ∧ (segC2 z a s mi cmp = segC2 l a m b cmp))))))) ∧
     (((decide (a < s)) && (decide (s < mi))) = false →
      ((((decide (mi < en)) && (decide (en < b))) = true → ((symMu z mi en b cmp < symMu l a m b cmp ∧ symPre z mi en b cmp) ∧ ((segC2 z mi en b cmp).length ≤ 140737488355328 → (((segC2 z mi en b cmp).length = l.length) ∧ (segC2 z mi en b cmp = segC2 l a m b cmp))))) ∧
      (((decide (mi < en)) && (decide (en < b))) = false → ((z.length = l.length) ∧ (z = segC2 l a m b cmp)))))) := by
  have hzl : z.length = p.length + a1.length + b1.length + u.length + v.length + q.length := by rw [hz]; simp; omega
  have hsl : (sortC cmp (a1 ++ b1)).length = a1.length + b1.length := by rw [sortC_len]; simp
  refine ⟨fun h => ?_, fun h => ?_⟩
  · have h := and_dec.1 h
    refine ⟨⟨by unfold symMu; omega, key, p, a1, b1, u ++ (v ++ q), hz, ha, by omega, by omega, List.length_pos_iff.1 (by omega), List.length_pos_iff.1 (by omega), hk1, ha1, hb1, by omega⟩, fun _ => ?_⟩
    have e : segC2 z a s mi cmp = p ++ (sortC cmp (a1 ++ b1) ++ (u ++ (v ++ q))) := by
      have e1 : z = p ++ ((a1 ++ b1) ++ (u ++ (v ++ q))) := by rw [hz]; simp
      obtain ⟨k1, k2⟩ := sortC_spec hk1
      unfold segC2
      rw [e1, segC_eq (y := sortC cmp (a1 ++ b1)) ha (by simp; omega) hk1 k1 k2]
    exact ssym_right l _ a m b mi en cmp key p (sortC cmp (a1 ++ b1)) u v q ha (by omega) hen hb e (by omega) (by unfold segC2; rw [segC_len (by omega)]; exact hlen) hlim hk hu hv (by rw [← hend]; simp)
  · have h := and_decF.1 h
    have hs1 : Srt key (a1 ++ b1) := by
      by_cases hu0 : a1.length = 0
      · rw [List.eq_nil_of_length_eq_zero hu0]; exact hb1
      · have : b1.length = 0 := by omega
        rw [List.eq_nil_of_length_eq_zero this]; simpa using ha1
    rw [sortC_sorted hk1 hs1] at hend
    exact ssym_right l _ a m b mi en cmp key p (a1 ++ b1) u v q ha (by simp; omega) hen hb (by rw [hz]; simp) (by simp; omega) hlen hlim hk hu hv (by rw [← hend]; simp)
theorem ssym_ok (l : List Job) (a m b : Int) (cmp : Job → Job → Int) (hpre : symPre l a m b cmp) : ssym_vc l a m b cmp (fun r => r = segC2 l a m b cmp) := by
  obtain ⟨key, p, x, y, q, rfl, rfl, rfl, rfl, hx0, hy0, hk, hsx, hsy, hlim⟩ := hpre
  have hx1 : 0 < x.length := List.length_pos_iff.2 hx0
  have hy1 : 0 < y.length := List.length_pos_iff.2 hy0
  have hkc : ∀ c ∈ x ++ y, ∀ d ∈ x ++ y, (cmp c d < 0 ↔ key c < key d) := hk
  have hlen : (p ++ (x ++ (y ++ q))).length = p.length + x.length + y.length + q.length := by simp; omega
  have hat : ∀ (i : Nat), (p ++ (x ++ (y ++ q)))[p.length + i]? = (x ++ (y ++ q))[i]? := fun i => by rw [List.getElem?_append_right (by omega)]; congr 1; omega
  have hatx : ∀ (i : Nat), i < x.length → (p ++ (x ++ (y ++ q)))[p.length + i]? = x[i]? := fun i hi => by rw [hat, List.getElem?_append_left hi]
  have haty : ∀ (i : Nat), i < y.length → (p ++ (x ++ (y ++ q)))[p.length + x.length + i]? = y[i]? := fun i hi => by rw [show p.length + x.length + i = p.length + (x.length + i) by omega, hat, List.getElem?_append_right (by omega), List.getElem?_append_left (by omega)]; congr 1; omega
  have hfin : ∀ z : List Job, Srt key z → Fe key z (x ++ y) → p ++ (z ++ q) = segC2 (p ++ (x ++ (y ++ q))) (p.length : Int) ((p.length : Int) + x.length) ((p.length : Int) + x.length + y.length) cmp := fun z h1 h2 => by
    have := (segC_eq (cmp := cmp) (key := key) (p := p) (q := q) (x := x ++ y) (y := z) (a := p.length) (b := (p.length : Int) + x.length + y.length) rfl (by simp; omega) hk h1 h2)
    rw [← this]
    unfold segC2
    simp
  intro _
  rw [w64_eq ((p.length : Int) + x.length - p.length) (by omega), w64_eq ((p.length : Int) + x.length + y.length - ((p.length : Int) + x.length)) (by omega)]
  refine ⟨fun h1 => ?_, fun h1 => ⟨fun h2 => ?_, fun h2 => ?_⟩⟩
  · -- one ahead
    have h1 : x.length = 1 := by simp at h1; omega
    obtain ⟨c, rfl⟩ : ∃ c, x = [c] := List.length_eq_one_iff.1 h1
    have hL : (p ++ ([c] ++ (y ++ q))).length = p.length + 1 + y.length + q.length := hlen
    refine ⟨fun i => ∃ k : Nat, i = (p.length : Int) + 1 + k ∧ k ≤ y.length ∧ (∀ d ∈ y.take k, key d < key c) ∧ ∀ d ∈ y.drop k, key c ≤ key d, ?_, ?_⟩
    · refine ⟨fun i j => ∃ k t : Nat, i = (p.length : Int) + 1 + k ∧ j = (p.length : Int) + 1 + t ∧ k ≤ t ∧ t ≤ y.length ∧ (∀ d ∈ y.take k, key d < key c) ∧ ∀ d ∈ y.drop t, key c ≤ key d, fun i j => (j - i).toNat, ⟨0, y.length, by simp, by simp, by omega, by omega, by simp, by simp⟩, ?_⟩
      rintro _ _ ⟨k, t, rfl, rfl, hkt, hty, h3, h4⟩
      refine ⟨fun h5 => ?_, fun h5 => ⟨k, rfl, by omega, h3, ?_⟩⟩
      · have h5 := of_decide_eq_true h5
        rw [half_eq _ (by omega)]
        obtain ⟨e, he, hek, het⟩ : ∃ e : Nat, ((p.length : Int) + 1 + k + ((p.length : Int) + 1 + t)) / 2 = (p.length : Int) + 1 + e ∧ k ≤ e ∧ e < t := ⟨(((p.length : Int) + 1 + k + ((p.length : Int) + 1 + t)) / 2 - p.length - 1).toNat, by omega, by omega, by omega⟩
        rw [he]
        obtain ⟨d, hd⟩ : ∃ d, y[e]? = some d := ⟨_, List.getElem?_eq_getElem (by omega)⟩
        have hdy : d ∈ y := List.mem_of_getElem? hd
        refine ⟨by omega, fun d' hd' => ⟨by omega, fun c' hc' => ?_⟩⟩
        have e1 : ((p.length : Int) + 1 + e).toNat = p.length + [c].length + e := by simp; omega
        have e2 : ((p.length : Int)).toNat = p.length + 0 := by omega
        rw [e1, haty e (by omega), hd] at hd'
        rw [e2, hatx 0 (by simp)] at hc'
        cases hd'
        cases hc'
        have hkk := hkc d (by simp [hdy]) c (by simp)
        refine ⟨fun h6 => ?_, fun h6 => ?_⟩
        · have h6 := hkk.1 (of_decide_eq_true h6)
          rw [w64_eq _ (by omega)]
          exact ⟨⟨e + 1, t, by omega, rfl, by omega, hty, fun d' hd' => by have := hsy.take_le hd d' hd'; omega, h4⟩, by (try dsimp only); omega⟩
        · have h6 : ¬ key d < key c := by rw [← hkk]; exact of_decide_eq_false h6
          exact ⟨⟨k, e, rfl, rfl, by omega, by omega, h3, fun d' hd' => by have := hsy.drop_ge hd d' hd'; omega⟩, by (try dsimp only); omega⟩
      · have : k = t := by have := of_decide_eq_false h5; omega
        subst this
        exact h4
    · rintro _ ⟨k, rfl, hky, h3, h4⟩
      rw [w64_eq ((p.length : Int) + 1 + k - 1) (by omega)]
      refine ⟨fun i z => ∃ t : Nat, i = (p.length : Int) + t ∧ t ≤ k ∧ z = p ++ (y.take t ++ c :: (y.drop t ++ q)), fun i _ => ((p.length : Int) + k - i).toNat, ⟨0, by simp, by omega, by simp⟩, ?_⟩
      rintro _ _ ⟨t, rfl, htk, rfl⟩
      have hzl : (p ++ (y.take t ++ c :: (y.drop t ++ q))).length = (p ++ ([c] ++ (y ++ q))).length := by simp; omega
      refine ⟨fun h5 => ?_, fun h5 => ?_⟩
      · have h5 : t < k := by have := of_decide_eq_true h5; omega
        rw [w64_eq ((p.length : Int) + t + 1) (by omega), hzl]
        obtain ⟨d, hd⟩ : ∃ d, y[t]? = some d := ⟨_, List.getElem?_eq_getElem (by omega)⟩
        obtain ⟨e1, e2⟩ := take_drop_cons hd
        have ez : p ++ (y.take t ++ c :: (y.drop t ++ q)) = (p ++ y.take t) ++ c :: ([] ++ d :: (y.drop (t + 1) ++ q)) := by rw [e1]; simp
        obtain ⟨g1, g2, g3, _⟩ := swap2 (p ++ y.take t) [] (y.drop (t + 1) ++ q) c d (i := ((p.length : Int) + t).toNat) (j := ((p.length : Int) + t + 1).toNat) (by simp; omega) (by simp; omega)
        rw [ez]
        refine ⟨by omega, fun d' hd' => ⟨by omega, fun c' hc' => ⟨by omega, by omega, ?_⟩⟩⟩
        rw [g2] at hd'
        rw [g1] at hc'
        cases hd'
        cases hc'
        rw [g3]
        exact ⟨⟨t + 1, by omega, by omega, by rw [e2]; simp⟩, by (try dsimp only); omega⟩
      · have h5 : t = k := by have := of_decide_eq_false h5; omega
        subst h5
        refine ⟨hzl, ?_⟩
        have := hfin (y.take t ++ c :: y.drop t) ((hsy.take t).app (List.pairwise_cons.2 ⟨h4, hsy.drop t⟩) fun d hd e he => by
          have := h3 d hd
          rcases List.mem_cons.1 he with rfl | he
          · omega
          · have := h4 e he; omega) (by
          have h6 : Fe key (y.take t ++ [c]) ([c] ++ y.take t) := Fe.swap fun d hd e he => by
            have : e = c := by simpa using he
            subst this
            have := h3 d hd
            omega
          have := h6.app (Fe.refl (y.drop t))
          simpa using this)
        rw [← this]
        simp
  · -- one behind
    have h2 : y.length = 1 := by simp at h2; omega
    obtain ⟨c, rfl⟩ : ∃ c, y = [c] := List.length_eq_one_iff.1 h2
    have hL : (p ++ (x ++ ([c] ++ q))).length = p.length + x.length + 1 + q.length := hlen
    refine ⟨fun i => ∃ k : Nat, i = (p.length : Int) + k ∧ k ≤ x.length ∧ (∀ d ∈ x.take k, key d ≤ key c) ∧ ∀ d ∈ x.drop k, key c < key d, ?_, ?_⟩
    · refine ⟨fun i j => ∃ k t : Nat, i = (p.length : Int) + k ∧ j = (p.length : Int) + t ∧ k ≤ t ∧ t ≤ x.length ∧ (∀ d ∈ x.take k, key d ≤ key c) ∧ ∀ d ∈ x.drop t, key c < key d, fun i j => (j - i).toNat, ⟨0, x.length, by simp, by simp, by omega, by omega, by simp, by simp⟩, ?_⟩
      rintro _ _ ⟨k, t, rfl, rfl, hkt, hty, h3, h4⟩
      refine ⟨fun h5 => ?_, fun h5 => ⟨k, rfl, by omega, h3, ?_⟩⟩
      · have h5 := of_decide_eq_true h5
        rw [half_eq _ (by omega)]
        obtain ⟨e, he, hek, het⟩ : ∃ e : Nat, ((p.length : Int) + k + ((p.length : Int) + t)) / 2 = (p.length : Int) + e ∧ k ≤ e ∧ e < t := ⟨(((p.length : Int) + k + ((p.length : Int) + t)) / 2 - p.length).toNat, by omega, by omega, by omega⟩
        rw [he]
        obtain ⟨d, hd⟩ : ∃ d, x[e]? = some d := ⟨_, List.getElem?_eq_getElem (by omega)⟩
        have hdx : d ∈ x := List.mem_of_getElem? hd
        refine ⟨by omega, fun c' hc' => ⟨by omega, fun d' hd' => ?_⟩⟩
        have e1 : ((p.length : Int) + e).toNat = p.length + e := by omega
        have e2 : ((p.length : Int) + x.length).toNat = p.length + x.length + 0 := by omega
        rw [e1, hatx e (by omega), hd] at hd'
        rw [e2, haty 0 (by simp)] at hc'
        cases hd'
        cases hc'
        have hkk := hkc c (by simp) d (by simp [hdx])
        refine ⟨fun h6 => ?_, fun h6 => ?_⟩
        · have h6 : ¬ key c < key d := by rw [← hkk]; simpa using h6
          rw [w64_eq _ (by omega)]
          exact ⟨⟨e + 1, t, by omega, rfl, by omega, hty, fun d' hd' => by have := hsx.take_le hd d' hd'; omega, h4⟩, by (try dsimp only); omega⟩
        · have h6 : key c < key d := by rw [← hkk]; simpa using h6
          exact ⟨⟨k, e, rfl, rfl, by omega, by omega, h3, fun d' hd' => by have := hsx.drop_ge hd d' hd'; omega⟩, by (try dsimp only); omega⟩
      · have : k = t := by have := of_decide_eq_false h5; omega
        subst this
        exact h4
    · rintro _ ⟨k, rfl, hky, h3, h4⟩
      refine ⟨fun i z => ∃ t : Nat, i = (p.length : Int) + t ∧ k ≤ t ∧ t ≤ x.length ∧ z = p ++ (x.take t ++ c :: (x.drop t ++ q)), fun i _ => (i - ((p.length : Int) + k)).toNat, ⟨x.length, rfl, by omega, by omega, by simp⟩, ?_⟩
      rintro _ _ ⟨t, rfl, htk, htx, rfl⟩
      have hzl : (p ++ (x.take t ++ c :: (x.drop t ++ q))).length = (p ++ (x ++ ([c] ++ q))).length := by simp; omega
      refine ⟨fun h5 => ?_, fun h5 => ?_⟩
      · have h5 : k < t := by have := of_decide_eq_true h5; omega
        rw [w64_eq ((p.length : Int) + t - 1) (by omega), hzl]
        obtain ⟨s, rfl⟩ : ∃ s, t = s + 1 := ⟨t - 1, by omega⟩
        obtain ⟨d, hd⟩ : ∃ d, x[s]? = some d := ⟨_, List.getElem?_eq_getElem (by omega)⟩
        obtain ⟨e1, e2⟩ := take_drop_cons hd
        have ez : p ++ (x.take (s + 1) ++ c :: (x.drop (s + 1) ++ q)) = (p ++ x.take s) ++ d :: ([] ++ c :: (x.drop (s + 1) ++ q)) := by rw [e2]; simp
        obtain ⟨g1, g2, _, g4⟩ := swap2 (p ++ x.take s) [] (x.drop (s + 1) ++ q) d c (i := ((p.length : Int) + ((s + 1 : Nat) : Int) - 1).toNat) (j := ((p.length : Int) + ((s + 1 : Nat) : Int)).toNat) (by simp; omega) (by simp; omega)
        rw [ez]
        refine ⟨by omega, fun d' hd' => ⟨by omega, fun c' hc' => ⟨by omega, by omega, ?_⟩⟩⟩
        rw [g1] at hd'
        rw [g2] at hc'
        cases hd'
        cases hc'
        rw [g4]
        exact ⟨⟨s, by omega, by omega, by omega, by rw [e1]; simp⟩, by (try dsimp only); omega⟩
      · have h5 : t = k := by have := of_decide_eq_false h5; omega
        subst h5
        refine ⟨hzl, ?_⟩
        have := hfin (x.take t ++ c :: x.drop t) ((hsx.take t).app (List.pairwise_cons.2 ⟨fun d hd => by have := h4 d hd; omega, hsx.drop t⟩) fun d hd e he => by
          have := h3 d hd
          rcases List.mem_cons.1 he with rfl | he
          · omega
          · have := h4 e he; omega) (by
          have h6 : Fe key ([c] ++ x.drop t) (x.drop t ++ [c]) := Fe.swap fun e he d hd => by
            have : e = c := by simpa using he
            subst this
            have := h4 d hd
            omega
          have := (Fe.refl (x.take t)).app h6
          rw [← List.append_assoc, ← List.append_assoc, List.take_append_drop] at this
          simpa using this)
        rw [← this]
        simp
  · -- both longer
    have h1 : x.length ≠ 1 := by
      intro e
      have : ((p.length : Int) + x.length - p.length) = 1 := by omega
      rw [this] at h1
      cases h1
    obtain ⟨g, hg⟩ : ∃ g : Nat, ((p.length : Int) + ((p.length : Int) + x.length + y.length)) / 2 = (p.length : Int) + g := ⟨(x.length + y.length) / 2, by omega⟩
    have hg2 : 2 * g ≤ x.length + y.length ∧ x.length + y.length ≤ 2 * g + 1 := by omega
    rw [half_eq ((p.length : Int) + ((p.length : Int) + x.length + y.length)) (by omega), hg, w64_eq ((p.length : Int) + g + ((p.length : Int) + x.length)) (by omega), w64_eq ((p.length : Int) + g + ((p.length : Int) + x.length) - ((p.length : Int) + x.length + y.length)) (by omega), w64_eq ((p.length : Int) + g + ((p.length : Int) + x.length) - 1) (by omega)]
    refine ⟨fun h3 => ⟨fun i => ∃ s : Nat, i = (p.length : Int) + s ∧ s ≤ x.length ∧ s ≤ g ∧ g - s ≤ y.length ∧ (∀ d ∈ x.take s, ∀ e ∈ y.drop (g - s), key d ≤ key e) ∧ ∀ e ∈ y.take (g - s), ∀ d ∈ x.drop s, key e < key d, ⟨fun i j => ∃ s r : Nat, i = (p.length : Int) + s ∧ j = (p.length : Int) + r ∧ s ≤ r ∧ r ≤ x.length ∧ r ≤ g ∧ g - s ≤ y.length ∧ (∀ d ∈ x.take s, ∀ e ∈ y.drop (g - s), key d ≤ key e) ∧ ∀ e ∈ y.take (g - r), ∀ d ∈ x.drop r, key e < key d, fun i j => (j - i).toNat, ?i1, ?st1⟩, ?tl1⟩,
      fun h3 => ⟨fun i => ∃ s : Nat, i = (p.length : Int) + s ∧ s ≤ x.length ∧ s ≤ g ∧ g - s ≤ y.length ∧ (∀ d ∈ x.take s, ∀ e ∈ y.drop (g - s), key d ≤ key e) ∧ ∀ e ∈ y.take (g - s), ∀ d ∈ x.drop s, key e < key d, ⟨fun i j => ∃ s r : Nat, i = (p.length : Int) + s ∧ j = (p.length : Int) + r ∧ s ≤ r ∧ r ≤ x.length ∧ r ≤ g ∧ g - s ≤ y.length ∧ (∀ d ∈ x.take s, ∀ e ∈ y.drop (g - s), key d ≤ key e) ∧ ∀ e ∈ y.take (g - r), ∀ d ∈ x.drop r, key e < key d, fun i j => (j - i).toNat, ?i2, ?st2⟩, ?tl2⟩⟩
    case i1 =>
      have h3 := of_decide_eq_true h3
      have h4 : y.drop (g - (g - y.length)) = [] := List.drop_of_length_le (by omega)
      have h5 : y.take (g - g) = [] := by rw [Nat.sub_self]; rfl
      exact ⟨g - y.length, g, by omega, rfl, by omega, by omega, by omega, by omega, (fun d _ e he => by rw [h4] at he; cases he), (fun e he => by rw [h5] at he; cases he)⟩
    case i2 =>
      have h3 := of_decide_eq_false h3
      have h5 : x.drop x.length = [] := List.drop_of_length_le (by omega)
      exact ⟨0, x.length, by simp, rfl, by omega, by omega, by omega, by omega, (fun d hd => by simp at hd), (fun e he d hd => by rw [h5] at hd; cases hd)⟩
    case st1 | st2 =>
      rintro _ _ ⟨s, r, rfl, rfl, hsr, hrx, hrg, hgs, hp1, hp2⟩
      refine ⟨fun h5 => ?_, fun h5 => ?_⟩
      · have h5 := of_decide_eq_true h5
        rw [half_eq _ (by omega)]
        obtain ⟨t, ht, hst, htr⟩ : ∃ t : Nat, ((p.length : Int) + s + ((p.length : Int) + r)) / 2 = (p.length : Int) + t ∧ s ≤ t ∧ t < r := ⟨(s + r) / 2, by omega, by omega, by omega⟩
        rw [ht, w64_eq ((p.length : Int) + g + ((p.length : Int) + x.length) - 1 - ((p.length : Int) + t)) (by omega)]
        obtain ⟨d, hd⟩ : ∃ d, x[t]? = some d := ⟨_, List.getElem?_eq_getElem (by omega)⟩
        obtain ⟨e, he⟩ : ∃ e, y[g - 1 - t]? = some e := ⟨_, List.getElem?_eq_getElem (by omega)⟩
        have hdx : d ∈ x := List.mem_of_getElem? hd
        have hey : e ∈ y := List.mem_of_getElem? he
        refine ⟨by omega, fun e' he' => ⟨by omega, fun d' hd' => ?_⟩⟩
        have e1 : ((p.length : Int) + g + ((p.length : Int) + x.length) - 1 - ((p.length : Int) + t)).toNat = p.length + x.length + (g - 1 - t) := by omega
        have e2 : ((p.length : Int) + t).toNat = p.length + t := by omega
        rw [e1, haty _ (by omega), he] at he'
        rw [e2, hatx _ (by omega), hd] at hd'
        cases hd'
        cases he'
        have hkk := hkc e (by simp [hey]) d (by simp [hdx])
        refine ⟨fun h6 => ?_, fun h6 => ?_⟩
        · have h6 : ¬ key e < key d := by rw [← hkk]; simpa using h6
          rw [w64_eq ((p.length : Int) + t + 1) (by omega)]
          refine ⟨⟨t + 1, r, by omega, rfl, by omega, hrx, hrg, by omega, fun d' hd' e' he' => ?_, hp2⟩, by (try dsimp only); omega⟩
          have k1 := hsx.take_le hd d' hd'
          rw [show g - (t + 1) = g - 1 - t by omega] at he'
          have k2 := hsy.drop_ge he e' he'
          omega
        · have h6 : key e < key d := by rw [← hkk]; simpa using h6
          refine ⟨⟨s, t, rfl, rfl, by omega, by omega, by omega, hgs, hp1, fun e' he' d' hd' => ?_⟩, by (try dsimp only); omega⟩
          have k1 := hsx.drop_ge hd d' hd'
          rw [show g - t = g - 1 - t + 1 by omega] at he'
          have k2 := hsy.take_le he e' he'
          omega
      · have : s = r := by have := of_decide_eq_false h5; omega
        subst this
        exact ⟨s, rfl, hrx, hrg, hgs, hp1, hp2⟩
    case tl1 | tl2 =>
      rintro _ ⟨s, rfl, hsx1, hsg, hgs, hp1, hp2⟩
      have hen : w64 ((p.length : Int) + g + ((p.length : Int) + x.length) - ((p.length : Int) + s)) = (p.length : Int) + x.length + ((g - s : Nat) : Int) := by rw [w64_eq _ (by omega)]; omega
      rw [hen]
      have ex : x = x.take s ++ x.drop s := (List.take_append_drop _ _).symm
      have ey : y = y.take (g - s) ++ y.drop (g - s) := (List.take_append_drop _ _).symm
      have l1 : (x.take s).length = s := by simp; omega
      have l2 : (x.drop s).length = x.length - s := by simp
      have l3 : (y.take (g - s)).length = g - s := by simp; omega
      have l4 : (y.drop (g - s)).length = y.length - (g - s) := by simp
      have hend : p ++ ((sortC cmp (x.take s ++ y.take (g - s)) ++ sortC cmp (x.drop s ++ y.drop (g - s))) ++ q) = segC2 (p ++ (x ++ (y ++ q))) (p.length : Int) ((p.length : Int) + x.length) ((p.length : Int) + x.length + y.length) cmp := by
        have m1 : ∀ c ∈ x.take s ++ y.take (g - s), c ∈ x ++ y := fun c hc => by
          rcases List.mem_append.1 hc with h | h
          · exact List.mem_append.2 (.inl (List.mem_of_mem_take h))
          · exact List.mem_append.2 (.inr (List.mem_of_mem_take h))
        have m2 : ∀ c ∈ x.drop s ++ y.drop (g - s), c ∈ x ++ y := fun c hc => by
          rcases List.mem_append.1 hc with h | h
          · exact List.mem_append.2 (.inl (List.mem_of_mem_drop h))
          · exact List.mem_append.2 (.inr (List.mem_of_mem_drop h))
        obtain ⟨k1, k2⟩ := sortC_spec (hk.sub m1)
        obtain ⟨k3, k4⟩ := sortC_spec (hk.sub m2)
        refine hfin _ (k1.app k3 fun c hc d hd => ?_) ((k2.app k4).trans ?_)
        · have hc := (k2.mem c).1 hc
          have hd := (k4.mem d).1 hd
          rcases List.mem_append.1 hc with h | h <;> rcases List.mem_append.1 hd with h' | h'
          · rw [ex] at hsx; exact hsx.rel c h d h'
          · exact hp1 c h d h'
          · have := hp2 c h d h'; omega
          · rw [ey] at hsy; exact hsy.rel c h d h'
        · have h7 : Fe key (y.take (g - s) ++ x.drop s) (x.drop s ++ y.take (g - s)) := Fe.swap fun c hc d hd => by have := hp2 c hc d hd; omega
          have h8 := (Fe.refl (x.take s)).app (h7.app (Fe.refl (y.drop (g - s))))
          have e3 : x.take s ++ (x.drop s ++ y.take (g - s) ++ y.drop (g - s)) = x ++ y := by rw [List.append_assoc, ← ey, ← List.append_assoc, ← ex]
          rw [e3] at h8
          simpa using h8
      have kk1 : Keyed cmp key (x.take s ++ y.take (g - s)) := hk.sub fun c hc => by
        rcases List.mem_append.1 hc with h | h
        · exact List.mem_append.2 (.inl (List.mem_of_mem_take h))
        · exact List.mem_append.2 (.inr (List.mem_of_mem_take h))
      have kk2 : Keyed cmp key (x.drop s ++ y.drop (g - s)) := hk.sub fun c hc => by
        rcases List.mem_append.1 hc with h | h
        · exact List.mem_append.2 (.inl (List.mem_of_mem_drop h))
        · exact List.mem_append.2 (.inr (List.mem_of_mem_drop h))
      have left : ∀ z, z = p ++ (x.take s ++ (y.take (g - s) ++ (x.drop s ++ (y.drop (g - s) ++ q)))) → _ := fun z hz => ssym_left (p ++ (x ++ (y ++ q))) z (p.length : Int) ((p.length : Int) + x.length) ((p.length : Int) + x.length + y.length) ((p.length : Int) + s) ((p.length : Int) + g) ((p.length : Int) + x.length + ((g - s : Nat) : Int)) cmp key p (x.take s) (y.take (g - s)) (x.drop s) (y.drop (g - s)) q rfl (by omega) (by omega) (by omega) (by omega) hz (by omega) (by omega) (by rw [hz, hlen]; simp; omega) hlim kk1 (hsx.take s) (hsy.take _) kk2 (hsx.drop s) (hsy.drop _) hend
      refine ⟨fun h5 => ?_, fun h5 => ?_⟩
      · have h5 := and_dec.1 h5
        refine srot_mono ?_ (srot_ok _ _ _ _ cmp (p ++ x.take s) (x.drop s) (y.take (g - s)) (y.drop (g - s) ++ q) ?_ (by simp; omega) (by omega) (by omega) (List.length_pos_iff.1 (by omega)) (List.length_pos_iff.1 (by omega)) (by omega))
        · intro z hz _
          exact left z (by rw [hz]; simp)
        · conv => lhs; rw [ex, ey]
          simp only [List.append_assoc]
      · have h5 := and_decF.1 h5
        refine left _ ?_
        by_cases h6 : x.length ≤ s
        · have e1 : x.drop s = [] := List.drop_of_length_le h6
          have e2 : x.take s = x := List.take_of_length_le h6
          rw [e1, e2]
          conv => lhs; rw [ey]
          simp only [List.append_assoc, List.nil_append]
        · have h7 : g - s = 0 := by omega
          rw [h7]
          conv => lhs; rw [ex]
          simp only [List.append_assoc, List.take_zero, List.drop_zero, List.nil_append]
def sinsS (l : List Job) (a b : Int) (cmp : Job → Job → Int) : List Job := segC cmp l a b
def sinsPre (l : List Job) (a b : Int) (cmp : Job → Job → Int) : Prop := ∃ (key : Job → Int) (p x q : List Job), l = p ++ (x ++ q) ∧ a = p.length ∧ b = p.length + x.length ∧ Keyed cmp key x ∧ l.length ≤ 10000000
theorem sins_ok2 (l : List Job) (a b : Int) (cmp : Job → Job → Int) (h : sinsPre l a b cmp) : sins_vc l a b cmp (fun r => r = sinsS l a b cmp) := by
  obtain ⟨key, p, x, q, hl, ha, hb, hk, hs⟩ := h
  refine sins_mono ?_ (sins_ok l a b cmp key p x q hl ha hb hk hs)
  rintro _ rfl
  obtain ⟨k1, k2⟩ := sortC_spec hk
  unfold sinsS
  rw [hl, segC_eq (y := sortC cmp x) ha (by omega) hk k1 k2]

end Go.Proofs.Ytginlmgkimfjmaa
set_option linter.unusedVariables false
set_option linter.unusedSimpArgs false
namespace Go.Proofs.Ytginlmgkimfjmaa
open Go.Sy Go.RowKit
def sstab_vc (u0 : List Job) (u1 : Int) (u2 : Job → Job → Int) (K : (List Job) → Prop) : Prop :=
  (u0.length ≤ 140737488355328 →
    (∃ inv19 : Int → Int → (List Job) → Prop, ∃ mu19 : Int → Int → (List Job) → Nat, inv19 0 20 u0 ∧
    (∀ (x7 : Int) (x8 : Int) (zao1 : List Job), inv19 x7 x8 zao1 →
    (((decide (x8 ≤ u1)) = true →
      ((sinsPre zao1 x7 x8 u2) ∧
      ((sinsS zao1 x7 x8 u2).length ≤ 140737488355328 →
      (inv19 x8 (w64 (x8 + 20)) (sinsS zao1 x7 x8 u2) ∧ mu19 x8 (w64 (x8 + 20)) (sinsS zao1 x7 x8 u2) < mu19 x7 x8 zao1)))) ∧
    ((decide (x8 ≤ u1)) = false →
      ((sinsPre zao1 x7 u1 u2) ∧
      ((sinsS zao1 x7 u1 u2).length ≤ 140737488355328 →
      (∃ inv99 : Int → (List Job) → Prop, ∃ mu99 : Int → (List Job) → Nat, inv99 20 (sinsS zao1 x7 u1 u2) ∧
      (∀ (x6 : Int) (zao1v : List Job), inv99 x6 zao1v →
      (((decide (x6 < u1)) = true →
        (∃ inv132 : Int → Int → (List Job) → Prop, ∃ mu132 : Int → Int → (List Job) → Nat, inv132 0 (w64 (2 * x6)) zao1v ∧
        (∀ (x7v : Int) (x8v : Int) (zao1vv : List Job), inv132 x7v x8v zao1vv →
        (((decide (x8v ≤ u1)) = true →
          ((symPre zao1vv x7v (w64 (x7v + x6)) x8v u2) ∧
          ((segC2 zao1vv x7v (w64 (x7v + x6)) x8v u2).length ≤ 140737488355328 →
          (inv132 x8v (w64 (x8v + (w64 (2 * x6)))) (segC2 zao1vv x7v (w64 (x7v + x6)) x8v u2) ∧ mu132 x8v (w64 (x8v + (w64 (2 * x6)))) (segC2 zao1vv x7v (w64 (x7v + x6)) x8v u2) < mu132 x7v x8v zao1vv)))) ∧
        ((decide (x8v ≤ u1)) = false →
          (((decide ((w64 (x7v + x6)) < u1)) = true →
            ((symPre zao1vv x7v (w64 (x7v + x6)) u1 u2) ∧
            ((segC2 zao1vv x7v (w64 (x7v + x6)) u1 u2).length ≤ 140737488355328 →
            (inv99 (w64 (x6 * 2)) (segC2 zao1vv x7v (w64 (x7v + x6)) u1 u2) ∧ mu99 (w64 (x6 * 2)) (segC2 zao1vv x7v (w64 (x7v + x6)) u1 u2) < mu99 x6 zao1v)))) ∧
          ((decide ((w64 (x7v + x6)) < u1)) = false →
            (inv99 (w64 (x6 * 2)) zao1vv ∧ mu99 (w64 (x6 * 2)) zao1vv < mu99 x6 zao1v)))))))) ∧
      ((decide (x6 < u1)) = false →
        ((zao1v.length = u0.length) ∧
        (K zao1v)))))))))))))

/-! Pure proofs: no program in sight. -/
def BlkS {α : Type} (key : α → Int) (B : Nat) (z : List α) : Prop := ∀ i, Srt key ((z.drop (i * B)).take B)
section blk
variable {α : Type} {key : α → Int} {B : Nat} {x r z z1 z2 : List α}
theorem blk_cons (hx : x.length = B) : BlkS key B (x ++ r) ↔ Srt key x ∧ BlkS key B r := by
  have e : ∀ i, (x ++ r).drop ((i + 1) * B) = r.drop (i * B) := fun i => by
    rw [List.drop_append]
    have h1 : x.drop ((i + 1) * B) = [] := List.drop_of_length_le (by rw [Nat.add_mul]; omega)
    have h2 : (i + 1) * B - x.length = i * B := by rw [Nat.add_mul]; omega
    rw [h1, h2]; rfl
  have e0 : ((x ++ r).drop (0 * B)).take B = x := by rw [Nat.zero_mul, List.drop_zero, List.take_left' hx]
  constructor
  · intro h
    refine ⟨by have := h 0; rw [e0] at this; exact this, fun i => ?_⟩
    have := h (i + 1)
    rw [e] at this
    exact this
  · rintro ⟨h1, h2⟩ i
    cases i with
    | zero => rw [e0]; exact h1
    | succ i => rw [e]; exact h2 i
theorem blk_app : ∀ (k : Nat) (z1 : List α), z1.length = k * B → BlkS key B z1 → BlkS key B z2 → BlkS key B (z1 ++ z2) := by
  intro k
  induction k with
  | zero =>
    intro z1 h _ h2
    have : z1 = [] := List.eq_nil_of_length_eq_zero (by omega)
    rw [this]; exact h2
  | succ k ih =>
    intro z1 h h1 h2
    obtain ⟨x, y, rfl, hx⟩ : ∃ x y, z1 = x ++ y ∧ x.length = B := ⟨z1.take B, z1.drop B, (List.take_append_drop _ _).symm, by rw [Nat.add_mul] at h; simp; omega⟩
    rw [blk_cons hx] at h1
    rw [List.append_assoc, blk_cons hx]
    exact ⟨h1.1, ih y (by rw [Nat.add_mul] at h; simp at h; omega) h1.2 h2⟩
theorem blk_short (hz : z.length ≤ B) (h : Srt key z) : BlkS key B z := by
  intro i
  cases i with
  | zero => rw [Nat.zero_mul, List.drop_zero, List.take_of_length_le hz]; exact h
  | succ i => rw [List.drop_of_length_le (by rw [Nat.add_mul]; omega)]; simp [Srt]
theorem blk_one (hz : z.length ≤ B) (h : BlkS key B z) : Srt key z := by
  have := h 0
  rw [Nat.zero_mul, List.drop_zero, List.take_of_length_le hz] at this
  exact this
end blk
theorem sstab_ok (l : List Job) (n : Int) (cmp : Job → Job → Int) (key : Job → Int) (hn : n = l.length) (hk : Keyed cmp key l) (hs : l.length ≤ 1000000) : sstab_vc l n cmp (fun r => r = sortC cmp l) := by
  intro _
  have hsub : ∀ {z x : List Job}, Fe key z l → (∀ c ∈ x, c ∈ z) → Keyed cmp key x := fun h1 h2 => hk.sub fun c hc => (h1.mem c).1 (h2 c hc)
  refine ⟨fun a b z => ∃ (k : Nat) (z1 z2 : List Job), a = 20 * k ∧ b = 20 * k + 20 ∧ z = z1 ++ z2 ∧ z1.length = k * 20 ∧ BlkS key 20 z1 ∧ Fe key z l, fun a _ _ => (n + 20 - a).toNat, ⟨0, [], l, rfl, rfl, rfl, rfl, fun i => by simp [Srt], Fe.refl l⟩, ?_⟩
  rintro _ _ _ ⟨k, z1, z2, rfl, rfl, rfl, h1, h2, h3⟩
  have hzl : z1.length + z2.length = l.length := by rw [← h3.len]; simp
  refine ⟨fun h4 => ?_, fun h4 => ?_⟩
  · have h4 := of_decide_eq_true h4
    obtain ⟨x, q, rfl, hx⟩ : ∃ x q, z2 = x ++ q ∧ x.length = 20 := ⟨z2.take 20, z2.drop 20, (List.take_append_drop _ _).symm, by simp; omega⟩
    have hkx : Keyed cmp key x := hsub h3 fun c hc => by simp [hc]
    have e1 : (20 * (k : Int)) = z1.length := by omega
    have hpre : sinsPre (z1 ++ (x ++ q)) (20 * (k : Int)) (20 * (k : Int) + 20) cmp := ⟨key, z1, x, q, rfl, e1, by omega, hkx, by simp at hzl ⊢; omega⟩
    refine ⟨hpre, ?_⟩
    obtain ⟨k1, k2⟩ := sortC_spec hkx
    have e2 : sinsS (z1 ++ (x ++ q)) (20 * (k : Int)) (20 * (k : Int) + 20) cmp = z1 ++ (sortC cmp x ++ q) := by
      unfold sinsS
      rw [segC_eq (y := sortC cmp x) e1 (by omega) hkx k1 k2]
    rw [e2, w64_eq _ (by simp at hzl; omega)]
    intro _
    refine ⟨⟨k + 1, z1 ++ sortC cmp x, q, by omega, by omega, by simp, by simp [sortC_len]; omega, blk_app k z1 h1 h2 (blk_short (by rw [sortC_len]; omega) k1), ?_⟩, by (try dsimp only); omega⟩
    exact ((Fe.refl z1).app (k2.app (Fe.refl q))).trans h3
  · have h4 := of_decide_eq_false h4
    by_cases h5 : (20 * (k : Int)) ≤ n
    · have hkx : Keyed cmp key z2 := hsub h3 fun c hc => by simp [hc]
      have e1 : (20 * (k : Int)) = z1.length := by omega
      have hpre : sinsPre (z1 ++ z2) (20 * (k : Int)) n cmp := ⟨key, z1, z2, [], by simp, e1, by omega, hkx, by simp; omega⟩
      refine ⟨hpre, ?_⟩
      obtain ⟨k1, k2⟩ := sortC_spec hkx
      have e2 : sinsS (z1 ++ z2) (20 * (k : Int)) n cmp = z1 ++ sortC cmp z2 := by
        have := (segC_eq (cmp := cmp) (p := z1) (x := z2) (q := []) (y := sortC cmp z2) e1 (show n = _ by omega) hkx k1 k2)
        unfold sinsS
        simpa using this
      rw [e2]
      intro _
      refine ⟨fun b z => ∃ B : Nat, b = B ∧ 20 ≤ B ∧ BlkS key B z ∧ Fe key z l, fun b _ => (n - b).toNat, ⟨20, rfl, by omega, blk_app k z1 h1 h2 (blk_short (by rw [sortC_len]; omega) k1), ((Fe.refl z1).app k2).trans h3⟩, ?_⟩
      rintro _ z ⟨B, rfl, hB, h6, h7⟩
      have hz := h7.len
      refine ⟨fun h8 => ?_, fun h8 => ?_⟩
      · have h8 := of_decide_eq_true h8
        rw [w64_eq (2 * (B : Int)) (by omega), w64_eq ((B : Int) * 2) (by omega)]
        refine ⟨fun a b w => ∃ (j : Nat) (w1 w2 : List Job), a = 2 * B * j ∧ b = 2 * B * j + 2 * B ∧ w = w1 ++ w2 ∧ w1.length = j * (2 * B) ∧ BlkS key (2 * B) w1 ∧ BlkS key B w2 ∧ Fe key w l, fun a _ _ => (n + 2 * B - a).toNat, ⟨0, [], z, by simp, by simp, rfl, by simp, fun i => by simp [Srt], h6, h7⟩, ?_⟩
        rintro _ _ _ ⟨j, w1, w2, rfl, rfl, rfl, g1, g2, g3, g4⟩
        have hwl : w1.length + w2.length = l.length := by rw [← g4.len]; simp
        have ej : (2 * (B : Int) * j) = w1.length := by rw [g1]; push_cast; rw [Int.mul_comm]
        rw [ej]
        have hb9 : (B : Int) ≤ 1000000 := by omega
        refine ⟨fun h9 => ?_, fun h9 => ?_⟩
        · have h9 := of_decide_eq_true h9
          obtain ⟨x, r, rfl, hx⟩ : ∃ x r, w2 = x ++ r ∧ x.length = B := ⟨w2.take B, w2.drop B, (List.take_append_drop _ _).symm, by simp; omega⟩
          obtain ⟨y, q, rfl, hy⟩ : ∃ y q, r = y ++ q ∧ y.length = B := ⟨r.take B, r.drop B, (List.take_append_drop _ _).symm, by simp at hwl ⊢; omega⟩
          rw [blk_cons hx, blk_cons hy] at g3
          have hkx : Keyed cmp key (x ++ y) := hsub g4 fun c hc => by rcases List.mem_append.1 hc with h | h <;> simp [h]
          simp at hwl
          rw [w64_eq ((w1.length : Int) + B) (by omega), w64_eq ((w1.length : Int) + 2 * B + 2 * B) (by omega)]
          have hpre : symPre (w1 ++ (x ++ (y ++ q))) (w1.length : Int) ((w1.length : Int) + B) ((w1.length : Int) + 2 * B) cmp := ⟨key, w1, x, y, q, rfl, rfl, by omega, by omega, List.length_pos_iff.1 (by omega), List.length_pos_iff.1 (by omega), hkx, g3.1, g3.2.1, by simp; omega⟩
          refine ⟨hpre, ?_⟩
          obtain ⟨k1, k2⟩ := sortC_spec hkx
          have e3 : segC2 (w1 ++ (x ++ (y ++ q))) (w1.length : Int) ((w1.length : Int) + B) ((w1.length : Int) + 2 * B) cmp = w1 ++ (sortC cmp (x ++ y) ++ q) := by
            have := (segC_eq (cmp := cmp) (p := w1) (x := x ++ y) (q := q) (y := sortC cmp (x ++ y)) rfl (show (w1.length : Int) + 2 * B = _ by simp; omega) hkx k1 k2)
            unfold segC2
            rw [← this]
            simp
          rw [e3]
          intro _
          refine ⟨⟨j + 1, w1 ++ sortC cmp (x ++ y), q, by rw [← ej]; push_cast; rw [Int.mul_add]; omega, by rw [← ej]; push_cast; rw [Int.mul_add]; omega, by simp, by rw [List.length_append, sortC_len, g1, Nat.add_mul]; simp; omega, blk_app j w1 g1 g2 (blk_short (by rw [sortC_len]; simp; omega) k1), g3.2.2, ?_⟩, by (try dsimp only); omega⟩
          refine Fe.trans ?_ g4
          have := (Fe.refl (key := key) w1).app (k2.app (Fe.refl q))
          simpa using this
        · have h9 := of_decide_eq_false h9
          rw [w64_eq ((w1.length : Int) + B) (by omega)]
          refine ⟨fun h10 => ?_, fun h10 => ?_⟩
          · have h10 := of_decide_eq_true h10
            obtain ⟨x, y, rfl, hx⟩ : ∃ x r, w2 = x ++ r ∧ x.length = B := ⟨w2.take B, w2.drop B, (List.take_append_drop _ _).symm, by simp; omega⟩
            rw [blk_cons hx] at g3
            have hkx : Keyed cmp key (x ++ y) := hsub g4 fun c hc => by simpa using .inr (by simpa using hc)
            simp at hwl
            have hpre : symPre (w1 ++ (x ++ y)) (w1.length : Int) ((w1.length : Int) + B) n cmp := ⟨key, w1, x, y, [], by simp, rfl, by omega, by omega, List.length_pos_iff.1 (by omega), List.length_pos_iff.1 (by omega), hkx, g3.1, blk_one (by omega) g3.2, by simp; omega⟩
            refine ⟨hpre, ?_⟩
            obtain ⟨k1, k2⟩ := sortC_spec hkx
            have e3 : segC2 (w1 ++ (x ++ y)) (w1.length : Int) ((w1.length : Int) + B) n cmp = w1 ++ sortC cmp (x ++ y) := by
              have := (segC_eq (cmp := cmp) (p := w1) (x := x ++ y) (q := []) (y := sortC cmp (x ++ y)) rfl (show n = _ by simp; omega) hkx k1 k2)
              unfold segC2
              simpa using this
            rw [e3]
            intro _
            refine ⟨⟨B * 2, by push_cast; rfl, by omega, ?_, ?_⟩, by (try dsimp only); omega⟩
            · rw [Nat.mul_comm]; exact blk_app j w1 g1 g2 (blk_short (by rw [sortC_len]; simp; omega) k1)
            · exact ((Fe.refl (key := key) w1).app k2).trans g4
          · have h10 := of_decide_eq_false h10
            refine ⟨⟨B * 2, by push_cast; rfl, by omega, ?_, g4⟩, by (try dsimp only); omega⟩
            rw [Nat.mul_comm]; exact blk_app j w1 g1 g2 (blk_short (by omega) (blk_one (by omega) g3))
      · have h8 := of_decide_eq_false h8
        exact ⟨hz, sortC_eq hk (blk_one (by omega) h6) h7⟩
    · exfalso
      omega

end Go.Proofs.Ytginlmgkimfjmaa
set_option linter.unusedVariables false
set_option linter.unusedSimpArgs false
namespace Go.Proofs.Ytginlmgkimfjmaa
open Go.Sy Go.RowKit
def sdel_vc (u0 : List Job) (u1 : Int) (u2 : Int) (K : (List Job) → Prop) : Prop :=
  (u0.length ≤ 140737488355328 →
    ((0 ≤ u1 ∧ u1 ≤ u2 ∧ u2 ≤ (u0.length : Int) ∧ (u0.length : Int) ≤ (u0.length : Int)) ∧
    (((u1 == u2) = true →
      (K u0)) ∧
    ((u1 == u2) = false →
      ((0 ≤ u1 ∧ u1 ≤ (u0.length : Int)) ∧
      ((0 ≤ u2 ∧ u2 ≤ (u0.length : Int)) ∧
      ((u1.toNat ≤ u2.toNat) ∧
      (K (u0.take u1.toNat ++ u0.drop u2.toNat)))))))))

/-! Pure proofs: no program in sight. -/
def sdelS (l : List Job) (i j : Int) : List Job := l.take i.toNat ++ l.drop j.toNat
theorem sdel_ok (l : List Job) (i j : Int) (h : 0 ≤ i ∧ i ≤ j ∧ j ≤ (l.length : Int)) : sdel_vc l i j (fun r => r = sdelS l i j) := by
  intro _
  refine ⟨by omega, fun h1 => ?_, fun _ => ⟨by omega, by omega, by omega, rfl⟩⟩
  have h1 : i = j := by simpa using h1
  subst h1
  unfold sdelS
  rw [List.take_append_drop]
def sstabS (l : List Job) (n : Int) (cmp : Job → Job → Int) : List Job := sortC cmp l
def sstabPre (l : List Job) (n : Int) (cmp : Job → Job → Int) : Prop := n = (l.length : Int) ∧ (∃ key, Keyed cmp key l) ∧ l.length ≤ 1000000
theorem sstab_ok2 (l : List Job) (n : Int) (cmp : Job → Job → Int) (h : sstabPre l n cmp) : sstab_vc l n cmp (fun r => r = sstabS l n cmp) := by
  obtain ⟨h1, ⟨key, h2⟩, h3⟩ := h
  exact sstab_ok l n cmp key h1 h2 h3

end Go.Proofs.Ytginlmgkimfjmaa
set_option linter.unusedVariables false
set_option linter.unusedSimpArgs false
namespace Go.Proofs.Ytginlmgkimfjmaa
open Go.Sy Go.RowKit
def ssort_vc (u0 : List Job) (u1 : Job → Job → Int) (K : (List Job) → Prop) : Prop :=
  (u0.length ≤ 140737488355328 →
    ((sstabPre u0 (u0.length : Int) u1) ∧
    ((sstabS u0 (u0.length : Int) u1).length ≤ 140737488355328 →
    (((sstabS u0 (u0.length : Int) u1).length = u0.length) ∧
    (K (sstabS u0 (u0.length : Int) u1))))))

def cmpj_vc (u0 : Job) (u1 : Job) (K : Int → Prop) : Prop :=
  (K (w64 (u0.asked - u1.asked)))
def cmpj (u0 : Job) (u1 : Job) : Int :=
  w64 (u0.asked - u1.asked)
theorem cmpj_ok (u0 : Job) (u1 : Job) : cmpj_vc u0 u1 (fun r => r = cmpj u0 u1) := (by rfl)

def ahead_vc (u0 : Job) (u1 : Job) (u2 : Int) (K : Bool → Prop) : Prop :=
  (K ((decide (u0.asked ≤ u2)) && ((decide (u0.task < u1.task)) || ((u0.task == u1.task) && (decide (u0.from_ < u1.from_))))))
def ahead (u0 : Job) (u1 : Job) (u2 : Int) : Bool :=
  (decide (u0.asked ≤ u2)) && ((decide (u0.task < u1.task)) || ((u0.task == u1.task) && (decide (u0.from_ < u1.from_))))
theorem ahead_ok (u0 : Job) (u1 : Job) (u2 : Int) : ahead_vc u0 u1 u2 (fun r => r = ahead u0 u1 u2) := (by rfl)

/-! Pure proofs: no program in sight. -/
def ssortS (l : List Job) (cmp : Job → Job → Int) : List Job := sortC cmp l
def ssortPre (l : List Job) (cmp : Job → Job → Int) : Prop := (∃ key, Keyed cmp key l) ∧ l.length ≤ 1000000
theorem ssort_ok (l : List Job) (cmp : Job → Job → Int) (h : ssortPre l cmp) : ssort_vc l cmp (fun r => r = ssortS l cmp) := by
  intro _
  obtain ⟨⟨key, h1⟩, h2⟩ := h
  refine ⟨⟨rfl, ⟨key, h1⟩, h2⟩, fun _ => ⟨?_, rfl⟩⟩
  exact (sortC_spec h1).2.len

end Go.Proofs.Ytginlmgkimfjmaa
set_option linter.unusedVariables false
set_option linter.unusedSimpArgs false
namespace Go.Proofs.Ytginlmgkimfjmaa
open Go.Sy Go.RowKit
def splay_vc (u0 : List Task) (u1 : List Int) (u2 : List Int) (u3 : Int) (K : ((List Slot) × Int) → Prop) : Prop :=
  (u0.length ≤ 140737488355328 →
    (u1.length ≤ 140737488355328 →
    (u2.length ≤ 140737488355328 →
    ((((dcheckS u0) != 0) = true →
      (K (([] : List Slot), (dcheckS u0)))) ∧
    (((dcheckS u0) != 0) = false →
      (((((((u1.length : Int) != (u0.length : Int)) || (decide ((u2.length : Int) > 1000))) || (decide (u3 < 0))) || (decide (u3 > 1000000))) = true →
        (K (([] : List Slot), 2))) ∧
      ((((((u1.length : Int) != (u0.length : Int)) || (decide ((u2.length : Int) > 1000))) || (decide (u3 < 0))) || (decide (u3 > 1000000))) = false →
        (∃ inv106 : (List Job) → Int → Int → Prop, ∃ mu106 : (List Job) → Int → Int → Nat, inv106 ([] : List Job) 0 0 ∧
        (∀ (x11 : List Job) (x12 : Int) (x53 : Int), inv106 x11 x12 x53 →
        (((decide (x53 < (u0.length : Int))) = true →
          (∃ inv126 : (List Job) → Int → Prop,
          ((0 ≤ x53 ∧ x53 < (u0.length : Int)) ∧
          (∀ q152, u0[x53.toNat]? = some q152 →
          ((0 ≤ x53 ∧ x53 < (u1.length : Int)) ∧
          (∀ q181, u1[x53.toNat]? = some q181 →
          (((decide (q181 < 0)) = true →
            (K (([] : List Slot), 3))) ∧
          ((decide (q181 < 0)) = false →
            ((0 ≤ x53 ∧ x53 < (u1.length : Int)) ∧
            (∀ q226, u1[x53.toNat]? = some q226 →
            (((decide (q226 > 1000000)) = true →
              (K (([] : List Slot), 3))) ∧
            ((decide (q226 > 1000000)) = false →
              ((0 ≤ x53 ∧ x53 < (u1.length : Int)) ∧
              (∀ q258, u1[x53.toNat]? = some q258 →
              (∃ inv270 : (List Job) → Int → Int → Prop, ∃ mu270 : (List Job) → Int → Int → Nat, inv270 x11 x12 q258 ∧
              (∀ (x11vv : List Job) (x12vv : Int) (x15 : Int), inv270 x11vv x12vv x15 →
              (((decide (x15 < u3)) = true →
                (∃ inv293 : (List Job) → Int → Prop,
                ((((decide ((u2.length : Int) > 0)) && (decide (q152.Jitter > 0))) = true →
                  (((u2.length : Int) ≠ 0) ∧
                  ((0 ≤ x12vv.tmod (u2.length : Int) ∧ x12vv.tmod (u2.length : Int) < (u2.length : Int)) ∧
                  (∀ q372, u2[(x12vv.tmod (u2.length : Int)).toNat]? = some q372 →
                  (((decide (q372 < 0)) = true →
                    (K (([] : List Slot), 3))) ∧
                  ((decide (q372 < 0)) = false →
                    ((w64 (q152.Jitter + 1) ≠ 0) ∧
                    (((x11vv.length + 1) * 24 ≤ 140737488355328) ∧
                    (((decide (((x11vv ++ [(⟨x53, x15, w64 (x15 + (q372.tmod (w64 (q152.Jitter + 1))))⟩ : Job)]).length : Int) > 1000)) = true →
                      (K (([] : List Slot), 2))) ∧
                    ((decide (((x11vv ++ [(⟨x53, x15, w64 (x15 + (q372.tmod (w64 (q152.Jitter + 1))))⟩ : Job)]).length : Int) > 1000)) = false →
                      (inv293 (x11vv ++ [(⟨x53, x15, w64 (x15 + (q372.tmod (w64 (q152.Jitter + 1))))⟩ : Job)]) (w64 (x12vv + 1))))))))))))) ∧
                (((decide ((u2.length : Int) > 0)) && (decide (q152.Jitter > 0))) = false →
                  (((x11vv.length + 1) * 24 ≤ 140737488355328) ∧
                  (((decide (((x11vv ++ [(⟨x53, x15, x15⟩ : Job)]).length : Int) > 1000)) = true →
                    (K (([] : List Slot), 2))) ∧
                  ((decide (((x11vv ++ [(⟨x53, x15, x15⟩ : Job)]).length : Int) > 1000)) = false →
                    (inv293 (x11vv ++ [(⟨x53, x15, x15⟩ : Job)]) x12vv)))))) ∧
                (∀ (x11vvv : List Job) (x12vvv : Int), inv293 x11vvv x12vvv →
                  (inv270 x11vvv x12vvv (w64 (x15 + q152.Every)) ∧ mu270 x11vvv x12vvv (w64 (x15 + q152.Every)) < mu270 x11vv x12vv x15)))) ∧
              ((decide (x15 < u3)) = false →
                (inv126 x11vv x12vv))))))))))))))))) ∧
          (∀ (x11v : List Job) (x12v : Int), inv126 x11v x12v →
            (inv106 x11v x12v (w64 (x53 + 1)) ∧ mu106 x11v x12v (w64 (x53 + 1)) < mu106 x11 x12 x53)))) ∧
        ((decide (x53 < (u0.length : Int))) = false →
          ((ssortPre x11 (fun x0 x1 => cmpj x0 x1 )) ∧
          ((ssortS x11 (fun x0 x1 => cmpj x0 x1 )).length ≤ 140737488355328 →
          (∃ inv546 : (List Slot) → Int → Prop,
          (∃ inv571 : (List Job) → (List Slot) → Int → Prop, ∃ mu571 : (List Job) → (List Slot) → Int → Nat, inv571 (ssortS x11 (fun x0 x1 => cmpj x0 x1 )) ([] : List Slot) 0 ∧
          (∀ (x11v : List Job) (x18v : List Slot) (yb532c0v : Int), inv571 x11v x18v yb532c0v →
          (((decide ((x11v.length : Int) > 0)) = true →
            ((0 ≤ (0 : Int) ∧ (0 : Int) < (x11v.length : Int)) ∧
            (∀ q617, x11v[(0 : Int).toNat]? = some q617 →
            (((decide (q617.asked > yb532c0v)) = true →
              ((0 ≤ (0 : Int) ∧ (0 : Int) < (x11v.length : Int)) ∧
              (∀ q640, x11v[(0 : Int).toNat]? = some q640 →
              (∃ inv662 : Int → Int → Prop, ∃ mu662 : Int → Int → Nat, inv662 0 0 ∧
              (∀ (x21 : Int) (x139 : Int), inv662 x21 x139 →
              (((decide (x139 < (x11v.length : Int))) = true →
                (∃ inv681 : Int → Prop,
                ((0 ≤ x139 ∧ x139 < (x11v.length : Int)) ∧
                (∀ q708, x11v[x139.toNat]? = some q708 →
                ((0 ≤ x21 ∧ x21 < (x11v.length : Int)) ∧
                (∀ q747, x11v[x21.toNat]? = some q747 →
                (((ahead q708 q747 q640.asked) = true →
                  (inv681 x139)) ∧
                ((ahead q708 q747 q640.asked) = false →
                  (inv681 x21))))))) ∧
                (∀ (x21v : Int), inv681 x21v →
                  (inv662 x21v (w64 (x139 + 1)) ∧ mu662 x21v (w64 (x139 + 1)) < mu662 x21 x139)))) ∧
              ((decide (x139 < (x11v.length : Int))) = false →
                ((0 ≤ x21 ∧ x21 < (x11v.length : Int)) ∧
                (∀ q781, x11v[x21.toNat]? = some q781 →
                ((0 ≤ x21 ∧ x21 ≤ (w64 (x21 + 1)) ∧ (w64 (x21 + 1)) ≤ (x11v.length : Int)) ∧
                ((sdelS x11v x21 (w64 (x21 + 1))).length ≤ 140737488355328 →
                ((0 ≤ q781.task ∧ q781.task < (u0.length : Int)) ∧
                (∀ q832, u0[q781.task.toNat]? = some q832 →
                (((x18v.length + 1) * 32 ≤ 140737488355328) ∧
                (inv571 (sdelS x11v x21 (w64 (x21 + 1))) (x18v ++ [(⟨q781.task, q781.from_, q640.asked, w64 ((w64 (q640.asked + (flongestS false false q832.Bytes).1)) + 3)⟩ : Slot)]) (w64 ((w64 (q640.asked + (flongestS false false q832.Bytes).1)) + 3)) ∧ mu571 (sdelS x11v x21 (w64 (x21 + 1))) (x18v ++ [(⟨q781.task, q781.from_, q640.asked, w64 ((w64 (q640.asked + (flongestS false false q832.Bytes).1)) + 3)⟩ : Slot)]) (w64 ((w64 (q640.asked + (flongestS false false q832.Bytes).1)) + 3)) < mu571 x11v x18v yb532c0v))))))))))))))) ∧
            ((decide (q617.asked > yb532c0v)) = false →
              (∃ inv929 : Int → Int → Prop, ∃ mu929 : Int → Int → Nat, inv929 0 0 ∧
              (∀ (x21 : Int) (x139 : Int), inv929 x21 x139 →
              (((decide (x139 < (x11v.length : Int))) = true →
                (∃ inv948 : Int → Prop,
                ((0 ≤ x139 ∧ x139 < (x11v.length : Int)) ∧
                (∀ q975, x11v[x139.toNat]? = some q975 →
                ((0 ≤ x21 ∧ x21 < (x11v.length : Int)) ∧
                (∀ q1014, x11v[x21.toNat]? = some q1014 →
                (((ahead q975 q1014 yb532c0v) = true →
                  (inv948 x139)) ∧
                ((ahead q975 q1014 yb532c0v) = false →
                  (inv948 x21))))))) ∧
                (∀ (x21v : Int), inv948 x21v →
                  (inv929 x21v (w64 (x139 + 1)) ∧ mu929 x21v (w64 (x139 + 1)) < mu929 x21 x139)))) ∧
              ((decide (x139 < (x11v.length : Int))) = false →
                ((0 ≤ x21 ∧ x21 < (x11v.length : Int)) ∧
                (∀ q1048, x11v[x21.toNat]? = some q1048 →
                ((0 ≤ x21 ∧ x21 ≤ (w64 (x21 + 1)) ∧ (w64 (x21 + 1)) ≤ (x11v.length : Int)) ∧
                ((sdelS x11v x21 (w64 (x21 + 1))).length ≤ 140737488355328 →
                ((0 ≤ q1048.task ∧ q1048.task < (u0.length : Int)) ∧
                (∀ q1099, u0[q1048.task.toNat]? = some q1099 →
                (((x18v.length + 1) * 32 ≤ 140737488355328) ∧
                (inv571 (sdelS x11v x21 (w64 (x21 + 1))) (x18v ++ [(⟨q1048.task, q1048.from_, yb532c0v, w64 ((w64 (yb532c0v + (flongestS false false q1099.Bytes).1)) + 3)⟩ : Slot)]) (w64 ((w64 (yb532c0v + (flongestS false false q1099.Bytes).1)) + 3)) ∧ mu571 (sdelS x11v x21 (w64 (x21 + 1))) (x18v ++ [(⟨q1048.task, q1048.from_, yb532c0v, w64 ((w64 (yb532c0v + (flongestS false false q1099.Bytes).1)) + 3)⟩ : Slot)]) (w64 ((w64 (yb532c0v + (flongestS false false q1099.Bytes).1)) + 3)) < mu571 x11v x18v yb532c0v))))))))))))))))) ∧
          ((decide ((x11v.length : Int) > 0)) = false →
            (inv546 x18v yb532c0v))))) ∧
          (∀ (x18 : List Slot) (yb532c0 : Int), inv546 x18 yb532c0 →
            (K (x18, 0)))))))))))))))))

/-! Pure proofs: no program in sight. -/
/-- The jobs of one task. -/
def genT (i : Int) (t : Task) (later : List Int) (e : Int) : Nat → Int → List Job → Int → Except Int (List Job × Int)
  | 0, _, jobs, k => .ok (jobs, k)
  | n + 1, at_, jobs, k =>
    if at_ < e then
      (if 0 < later.length ∧ 0 < t.Jitter then
        (match later[(k.tmod (later.length : Int)).toNat]? with
        | none => .error 3
        | some v => if v < 0 then .error 3 else if 1000 < (jobs ++ [(⟨i, at_, at_ + v.tmod (t.Jitter + 1)⟩ : Job)]).length then .error 2 else genT i t later e n (at_ + t.Every) (jobs ++ [⟨i, at_, at_ + v.tmod (t.Jitter + 1)⟩]) (k + 1))
      else if 1000 < (jobs ++ [(⟨i, at_, at_⟩ : Job)]).length then .error 2 else genT i t later e n (at_ + t.Every) (jobs ++ [⟨i, at_, at_⟩]) k)
    else .ok (jobs, k)
def genA (later : List Int) (e : Int) : List (Task × Int) → Int → List Job → Int → Except Int (List Job)
  | [], _, jobs, _ => .ok jobs
  | (t, f) :: r, i, jobs, k => if f < 0 ∨ 1000000 < f then .error 3 else match genT i t later e (1001 - jobs.length) f jobs k with
    | .error x => .error x
    | .ok q => genA later e r (i + 1) q.1 q.2
def bestF (now : Int) (jobs : List Job) : List Job → Nat → Nat → Nat
  | [], _, b => b
  | j :: r, i, b => bestF now jobs r (i + 1) (if ahead j (jobs[b]?.getD default) now = true then i else b)
def longJ (l : List Task) (j : Job) : Int := (flongestS false false (l[j.task.toNat]?.getD default).Bytes).1
def playL (l : List Task) : Nat → List Job → List Slot → Int → List Slot
  | 0, _, out, _ => out
  | _ + 1, [], out, _ => out
  | n + 1, j0 :: r, out, now =>
    (fun now2 => (fun b => (fun j => playL l n ((j0 :: r).take b ++ (j0 :: r).drop (b + 1)) (out ++ [⟨j.task, j.from_, now2, now2 + longJ l j + 3⟩]) (now2 + longJ l j + 3)) ((j0 :: r)[b]?.getD default)) (bestF now2 (j0 :: r) (j0 :: r) 0 0)) (if j0.asked > now then j0.asked else now)
def playS (l : List Task) (first later : List Int) (e : Int) : List Slot × Int :=
  if dcheckS l ≠ 0 then ([], dcheckS l) else if first.length ≠ l.length ∨ 1000 < later.length ∨ e < 0 ∨ 1000000 < e then ([], 2) else
  match genA later e (l.zip first) 0 [] 0 with
  | .error x => ([], x)
  | .ok jobs => (playL l jobs.length (sortC (fun a b => cmpj a b) jobs) [] 0, 0)
theorem long_bound {t : Task} (h : tok t = true) : 0 ≤ (flongestS false false t.Bytes).1 ∧ (flongestS false false t.Bytes).1 ≤ 200 := by
  have hb := tok_spec h
  have key : ∀ m : Fin 9, 0 ≤ (flongestS false false ((m.val : Nat) : Int)).1 ∧ (flongestS false false ((m.val : Nat) : Int)).1 ≤ 200 := by decide +kernel
  have := key ⟨t.Bytes.toNat, by omega⟩
  have e : ((t.Bytes.toNat : Nat) : Int) = t.Bytes := by omega
  dsimp only at this
  rwa [e] at this
/-- A job that is right. -/
def jok (l : List Task) (j : Job) : Prop := 0 ≤ j.task ∧ j.task < (l.length : Int) ∧ 0 ≤ j.asked ∧ j.asked ≤ 3000000
theorem zip_get {α β : Type} {a : List α} {b : List β} {k : Nat} {x : α} {y : β} (ha : a[k]? = some x) (hb : b[k]? = some y) : (a.zip b)[k]? = some (x, y) := by
  rw [List.getElem?_zip_eq_some]
  exact ⟨ha, hb⟩
theorem cmpj_keyed {l : List Job} (h : ∀ j ∈ l, 0 ≤ j.asked ∧ j.asked ≤ 3000000) : Keyed (fun a b => cmpj a b) (fun j => j.asked) l := by
  intro a ha b hb
  have h1 := h a ha
  have h2 := h b hb
  show w64 (a.asked - b.asked) < 0 ↔ a.asked < b.asked
  rw [w64_eq _ (by omega)]
  omega
theorem bestF_lt (now : Int) (jobs : List Job) : ∀ (r : List Job) (i b : Nat), i + r.length ≤ jobs.length → b < jobs.length → bestF now jobs r i b < jobs.length := by
  intro r
  induction r with
  | nil => intro i b _ h; exact h
  | cons j r ih =>
    intro i b h1 h2
    rw [List.length_cons] at h1
    rw [bestF]
    refine ih _ _ (by omega) ?_
    split <;> omega
/-- The choice's loop. -/
theorem pick_loop {jobs : List Job} {now : Int} {Q : Nat → Prop} (hl : jobs.length ≤ 1000) (hpos : 0 < jobs.length) (h : ∀ b : Nat, b = bestF now jobs jobs 0 0 → b < jobs.length → Q b)
    {A : Int → Prop} (hA : ∀ b : Nat, Q b → A (b : Int)) :
    (∃ inv860 : Int → Int → Prop, ∃ mu860 : Int → Int → Nat, inv860 0 0 ∧
              (∀ (x21 : Int) (x139 : Int), inv860 x21 x139 →
              (((decide (x139 < (jobs.length : Int))) = true →
                (∃ inv879 : Int → Prop,
                ((0 ≤ x139 ∧ x139 < (jobs.length : Int)) ∧
                (∀ q908, jobs[x139.toNat]? = some q908 →
                ((0 ≤ x21 ∧ x21 < (jobs.length : Int)) ∧
                (∀ qd5_0, jobs[x21.toNat]? = some qd5_0 →
                (((ahead q908 qd5_0 now) = true →
                  (inv879 x139)) ∧
                ((ahead q908 qd5_0 now) = false →
                  (inv879 x21))))))) ∧
                (∀ (x21v : Int), inv879 x21v →
                  (inv860 x21v (w64 (x139 + 1)) ∧ mu860 x21v (w64 (x139 + 1)) < mu860 x21 x139)))) ∧
              ((decide (x139 < (jobs.length : Int))) = false → A x21)))) := by
  refine ⟨fun b i => ∃ (k m : Nat), i = k ∧ b = m ∧ k ≤ jobs.length ∧ m < jobs.length ∧ bestF now jobs (jobs.drop k) k m = bestF now jobs jobs 0 0, fun _ i => jobs.length - i.toNat, ⟨0, 0, rfl, rfl, by omega, hpos, rfl⟩, ?_⟩
  rintro _ _ ⟨k, m, rfl, rfl, hk, hm, hb⟩
  refine ⟨fun h1 => ?_, fun h1 => ?_⟩
  · have hkl : k < jobs.length := by have := of_decide_eq_true h1; omega
    refine ⟨fun b => ∃ m : Nat, b = m ∧ m < jobs.length ∧ bestF now jobs (jobs.drop (k + 1)) (k + 1) m = bestF now jobs jobs 0 0, ⟨by omega, fun q hq => ⟨by omega, fun p hp => ?_⟩⟩, ?_⟩
    · rw [Int.toNat_natCast] at hq hp
      rw [drop_this jobs k q hq, bestF, hp, Option.getD_some] at hb
      refine ⟨fun h2 => ?_, fun h2 => ?_⟩
      · rw [if_pos h2] at hb
        exact ⟨k, rfl, hkl, hb⟩
      · rw [if_neg (by rw [h2]; simp)] at hb
        exact ⟨m, rfl, hm, hb⟩
    · rintro _ ⟨m2, rfl, h3, h4⟩
      rw [w64_succ k (by omega)]
      exact ⟨⟨k + 1, m2, rfl, rfl, by omega, h3, h4⟩, by (try dsimp only); omega⟩
  · have hkl : k = jobs.length := by have := of_decide_eq_false h1; omega
    subst hkl
    rw [List.drop_eq_nil_of_le (Nat.le_refl _), bestF] at hb
    exact hA m (h m hb hm)
theorem splay_ok (l : List Task) (first later : List Int) (e : Int) : splay_vc l first later e (fun r => r = playS l first later e) := by
  intro _ _ _
  refine ⟨fun h1 => ?_, fun h1 => ⟨fun h2 => ?_, fun h2 => ?_⟩⟩
  · unfold playS
    rw [if_pos (by simpa using h1)]
  all_goals
    have h1' : dcheckS l = 0 := by simpa using h1
  · have h2 : ((first.length ≠ l.length ∨ 1000 < later.length) ∨ e < 0) ∨ 1000000 < e := by
      simp only [Bool.or_eq_true, bne_iff_ne, decide_eq_true_eq] at h2
      omega
    unfold playS
    rw [if_neg (fun h => h h1'), if_pos (by omega)]
  · have h2 : first.length = l.length ∧ later.length ≤ 1000 ∧ 0 ≤ e ∧ e ≤ 1000000 := by
      simp only [Bool.or_eq_false_iff, bne_eq_false_iff_eq, decide_eq_false_iff_not] at h2
      omega
    obtain ⟨g1, g2, g3, g4⟩ := h2
    obtain ⟨hl20, htok⟩ := dcheckS_zero h1'
    have hS : playS l first later e = match genA later e (l.zip first) 0 [] 0 with
        | .error x => ([], x)
        | .ok jobs => (playL l jobs.length (sortC (fun a b => cmpj a b) jobs) [] 0, 0) := by
      unfold playS
      rw [if_neg (fun h => h h1'), if_neg (by omega)]
    rw [hS]
    generalize hR : genA later e (l.zip first) 0 [] 0 = R
    refine ⟨fun js k i => ∃ n : Nat, i = n ∧ n ≤ l.length ∧ js.length ≤ 1000 ∧ (∀ j ∈ js, jok l j) ∧ 0 ≤ k ∧ k ≤ js.length ∧ genA later e ((l.zip first).drop n) n js k = R, fun _ _ i => l.length - i.toNat, ⟨0, rfl, by omega, by simp, by simp, by omega, by simp, hR⟩, ?_⟩
    rintro js k _ ⟨n, rfl, hn, hjl, hjo, hk0, hk1, hgen⟩
    refine ⟨fun h3 => ?_, fun h3 => ?_⟩
    · have hnl : n < l.length := by have := of_decide_eq_true h3; omega
      refine ⟨fun js' k' => js'.length ≤ 1000 ∧ (∀ j ∈ js', jok l j) ∧ 0 ≤ k' ∧ k' ≤ js'.length ∧ genA later e ((l.zip first).drop (n + 1)) ((n : Int) + 1) js' k' = R, ⟨by omega, fun t ht => ⟨by omega, fun f hf => ?_⟩⟩, ?_⟩
      · rw [Int.toNat_natCast] at ht hf ⊢
        have hz := zip_get ht hf
        rw [drop_this _ _ _ hz, genA] at hgen
        have htk := tok_spec (htok t (List.mem_of_getElem? ht))
        refine ⟨fun h4 => ?_, fun h4 => ⟨by omega, fun f2 hf2 => ?_⟩⟩
        · have h4 := of_decide_eq_true h4
          rw [if_pos (.inl h4)] at hgen
          rw [← hgen]
        · rw [hf] at hf2
          cases hf2
          have h4 := of_decide_eq_false h4
          refine ⟨fun h5 => ?_, fun h5 => ⟨by omega, fun f3 hf3 => ?_⟩⟩
          · have h5 := of_decide_eq_true h5
            rw [if_pos (.inr h5)] at hgen
            rw [← hgen]
          · rw [hf] at hf3
            cases hf3
            have h5 := of_decide_eq_false h5
            rw [if_neg (by omega)] at hgen
            -- the task's jobs
            refine ⟨fun js2 k2 a => js2.length ≤ 1000 ∧ (∀ j ∈ js2, jok l j) ∧ 0 ≤ k2 ∧ k2 ≤ js2.length ∧ 0 ≤ a ∧ a ≤ 2000000 ∧ (match genT n t later e (1001 - js2.length) a js2 k2 with
              | .error x => .error x
              | .ok q => genA later e ((l.zip first).drop (n + 1)) (n + 1) q.1 q.2) = R, fun _ _ a => (e - a).toNat, ⟨hjl, hjo, hk0, hk1, by omega, by omega, hgen⟩, ?_⟩
            rintro js2 k2 a ⟨b1, b2, b3, b4, b5, b6, b7⟩
            obtain ⟨q, hq⟩ : ∃ q, 1001 - js2.length = q + 1 := ⟨1000 - js2.length, by omega⟩
            rw [hq, genT] at b7
            refine ⟨fun h6 => ?_, fun h6 => ?_⟩
            · have h6 := of_decide_eq_true h6
              rw [if_pos h6] at b7
              refine ⟨fun js3 k3 => js3.length ≤ 1000 ∧ (∀ j ∈ js3, jok l j) ∧ 0 ≤ k3 ∧ k3 ≤ js3.length ∧ (match genT n t later e (1001 - js3.length) (a + t.Every) js3 k3 with
                | .error x => .error x
                | .ok q => genA later e ((l.zip first).drop (n + 1)) (n + 1) q.1 q.2) = R, ⟨fun h7 => ?_, fun h7 => ?_⟩, ?_⟩
              · rw [Bool.and_eq_true, decide_eq_true_eq, decide_eq_true_eq] at h7
                obtain ⟨h7, h8⟩ := h7
                have h7 : 0 < later.length := by omega
                rw [if_pos ⟨h7, h8⟩] at b7
                have hmod : k2.tmod (later.length : Int) = k2 % (later.length : Int) := Int.tmod_eq_emod_of_nonneg b3
                have hm0 := Int.emod_nonneg k2 (show (later.length : Int) ≠ 0 by omega)
                have hm1 := Int.emod_lt_of_pos k2 (show (0 : Int) < (later.length : Int) by omega)
                refine ⟨by omega, by omega, fun v hv => ?_⟩
                rw [hv] at b7
                dsimp only at b7
                refine ⟨fun h9 => ?_, fun h9 => ?_⟩
                · rw [if_pos (of_decide_eq_true h9)] at b7
                  rw [← b7]
                · have h9 := of_decide_eq_false h9
                  rw [if_neg h9] at b7
                  have ej : w64 (t.Jitter + 1) = t.Jitter + 1 := w64_eq _ (by omega)
                  have hv0 := Int.tmod_eq_emod_of_nonneg (b := t.Jitter + 1) (show 0 ≤ v by omega)
                  have hv1 := Int.emod_nonneg v (show t.Jitter + 1 ≠ 0 by omega)
                  have hv2 := Int.emod_lt_of_pos v (show 0 < t.Jitter + 1 by omega)
                  have ea : w64 (a + v.tmod (t.Jitter + 1)) = a + v.tmod (t.Jitter + 1) := w64_eq _ (by omega)
                  rw [ej, ea, w64_eq (k2 + 1) (by omega)]
                  have hlen : (js2 ++ [(⟨(n : Int), a, a + v.tmod (t.Jitter + 1)⟩ : Job)]).length = js2.length + 1 := by simp
                  rw [hlen] at b7 ⊢
                  refine ⟨by omega, by omega, fun h10 => ?_, fun h10 => ?_⟩
                  · have h10 := of_decide_eq_true h10
                    rw [if_pos (by omega)] at b7
                    rw [← b7]
                  · have h10 := of_decide_eq_false h10
                    rw [if_neg (by omega)] at b7
                    have e9 : 1001 - (js2.length + 1) = q := by omega
                    refine ⟨by rw [hlen]; omega, ?_, by omega, by rw [hlen]; omega, by rw [hlen, e9]; exact b7⟩
                    intro j hj
                    rcases List.mem_append.1 hj with hj | hj
                    · exact b2 j hj
                    · rw [List.mem_singleton.1 hj]
                      exact ⟨by show (0 : Int) ≤ n; omega, by show (n : Int) < _; omega, by show 0 ≤ a + v.tmod (t.Jitter + 1); omega, by show a + v.tmod (t.Jitter + 1) ≤ _; omega⟩
              · have h7 : ¬ (0 < later.length ∧ 0 < t.Jitter) := by
                  intro hc
                  have : ((decide ((later.length : Int) > 0)) && (decide (t.Jitter > 0))) = true := by
                    rw [decide_eq_true (by omega), decide_eq_true hc.2]; rfl
                  rw [this] at h7
                  cases h7
                rw [if_neg h7] at b7
                have hlen : (js2 ++ [(⟨(n : Int), a, a⟩ : Job)]).length = js2.length + 1 := by simp
                rw [hlen] at b7 ⊢
                refine ⟨by omega, fun h10 => ?_, fun h10 => ?_⟩
                · have h10 := of_decide_eq_true h10
                  rw [if_pos (by omega)] at b7
                  rw [← b7]
                · have h10 := of_decide_eq_false h10
                  rw [if_neg (by omega)] at b7
                  have e9 : 1001 - (js2.length + 1) = q := by omega
                  refine ⟨by rw [hlen]; omega, ?_, by omega, by rw [hlen]; omega, by rw [hlen, e9]; exact b7⟩
                  intro j hj
                  rcases List.mem_append.1 hj with hj | hj
                  · exact b2 j hj
                  · rw [List.mem_singleton.1 hj]
                    exact ⟨by show (0 : Int) ≤ n; omega, by show (n : Int) < _; omega, b5, by show a ≤ _; omega⟩
              · rintro js3 k3 ⟨d1, d2, d3, d4, d5⟩
                rw [w64_eq (a + t.Every) (by omega)]
                exact ⟨⟨d1, d2, d3, d4, by omega, by omega, d5⟩, by (try dsimp only); omega⟩
            · have h6 := of_decide_eq_false h6
              rw [if_neg h6] at b7
              exact ⟨b1, b2, b3, b4, b7⟩
      · rintro js' k' ⟨d1, d2, d3, d4, d5⟩
        rw [w64_succ n (by omega)]
        exact ⟨⟨n + 1, rfl, by omega, d1, d2, d3, d4, d5⟩, by (try dsimp only); omega⟩
    · have hnl : n = l.length := by have := of_decide_eq_false h3; omega
      subst hnl
      have hzl : (l.zip first).length = l.length := by rw [List.length_zip, g1]; omega
      rw [List.drop_eq_nil_of_le (by omega), genA] at hgen
      subst hgen
      dsimp only
      have hkey := cmpj_keyed (l := js) fun j hj => ⟨(hjo j hj).2.2.1, (hjo j hj).2.2.2⟩
      have hspec := sortC_spec hkey
      have hlen := sortC_len (cmp := fun a b => cmpj a b) js
      refine ⟨⟨⟨_, hkey⟩, by omega⟩, fun _ => ⟨fun out now => out = playL l js.length (sortC (fun a b => cmpj a b) js) [] 0, ?_, ?_⟩⟩
      · refine ⟨fun js2 out now => ∃ m : Nat, js2.length = m ∧ m ≤ 1000 ∧ (∀ j ∈ js2, jok l j) ∧ out.length + m = js.length ∧ 0 ≤ now ∧ now ≤ 3000000 + 1000 * (out.length : Int) ∧ playL l m js2 out now = playL l js.length (sortC (fun a b => cmpj a b) js) [] 0, fun js2 _ _ => js2.length, ⟨js.length, hlen, hjl, ?_, by simp, by omega, by omega, rfl⟩, ?_⟩
        · intro j hj
          exact hjo j ((hspec.2.mem j).1 hj)
        rintro js2 out now ⟨m, rfl, hm, hjo2, hom, hn0, hn1, hpl⟩
        refine ⟨fun h4 => ?_, fun h4 => ?_⟩
        · have h4 : 0 < js2.length := by have := of_decide_eq_true h4; omega
          refine ⟨by omega, fun j0 hj0 => ?_⟩
          have hj0 : js2[0]? = some j0 := hj0
          obtain ⟨r, hr⟩ : ∃ r, js2 = j0 :: r := by
            cases js2 with
            | nil => simp at h4
            | cons x r => cases hj0; exact ⟨r, rfl⟩
          have hj0o := hjo2 j0 (List.mem_of_getElem? hj0)
          have hstep : ∀ now2 : Int, now2 = (if j0.asked > now then j0.asked else now) → ∀ b : Nat, b = bestF now2 js2 js2 0 0 → b < js2.length → ∀ q, js2[b]? = some q → playL l (js2.length - 1) (js2.take b ++ js2.drop (b + 1)) (out ++ [⟨q.task, q.from_, now2, now2 + longJ l q + 3⟩]) (now2 + longJ l q + 3) = playL l js2.length js2 out now := by
            intro now2 hn2 b hb hbl q hq
            have e : playL l js2.length js2 out now = (fun now2 => (fun b => (fun j => playL l (js2.length - 1) (js2.take b ++ js2.drop (b + 1)) (out ++ [⟨j.task, j.from_, now2, now2 + longJ l j + 3⟩]) (now2 + longJ l j + 3)) (js2[b]?.getD default)) (bestF now2 js2 js2 0 0)) (if j0.asked > now then j0.asked else now) := by
              rw [hr, List.length_cons, playL]
              rfl
            rw [e, ← hn2]
            dsimp only
            rw [← hb, hq, Option.getD_some]
          have fin : ∀ now2 : Int, now2 = (if j0.asked > now then j0.asked else now) → ∀ b : Nat, b = bestF now2 js2 js2 0 0 → b < js2.length →
              ((0 ≤ (b : Int) ∧ (b : Int) < (js2.length : Int)) ∧
                (∀ q1066, js2[((b : Nat) : Int).toNat]? = some q1066 →
                ((0 ≤ (b : Int) ∧ (b : Int) ≤ (w64 ((b : Int) + 1)) ∧ (w64 ((b : Int) + 1)) ≤ (js2.length : Int)) ∧
                ((sdelS js2 (b : Int) (w64 ((b : Int) + 1))).length ≤ 140737488355328 →
                ((0 ≤ q1066.task ∧ q1066.task < (l.length : Int)) ∧
                (∀ q1117, l[q1066.task.toNat]? = some q1117 →
                (((out.length + 1) * 32 ≤ 140737488355328) ∧
                ((∃ m : Nat, (sdelS js2 (b : Int) (w64 ((b : Int) + 1))).length = m ∧ m ≤ 1000 ∧ (∀ j ∈ (sdelS js2 (b : Int) (w64 ((b : Int) + 1))), jok l j) ∧ (out ++ [(⟨q1066.task, q1066.from_, now2, w64 ((w64 (now2 + ((flongestS false false q1117.Bytes).1))) + 3)⟩ : Slot)]).length + m = js.length ∧ 0 ≤ (w64 ((w64 (now2 + ((flongestS false false q1117.Bytes).1))) + 3)) ∧ (w64 ((w64 (now2 + ((flongestS false false q1117.Bytes).1))) + 3)) ≤ 3000000 + 1000 * ((out ++ [(⟨q1066.task, q1066.from_, now2, w64 ((w64 (now2 + ((flongestS false false q1117.Bytes).1))) + 3)⟩ : Slot)]).length : Int) ∧ playL l m (sdelS js2 (b : Int) (w64 ((b : Int) + 1))) (out ++ [(⟨q1066.task, q1066.from_, now2, w64 ((w64 (now2 + ((flongestS false false q1117.Bytes).1))) + 3)⟩ : Slot)]) (w64 ((w64 (now2 + ((flongestS false false q1117.Bytes).1))) + 3)) = playL l js.length (sortC (fun a b => cmpj a b) js) [] 0) ∧ (sdelS js2 (b : Int) (w64 ((b : Int) + 1))).length < js2.length)))))))) := by
            intro now2 hn2 b hb hbl
            have hnow : 0 ≤ now2 ∧ now2 ≤ 3000000 + 1000 * (out.length : Int) := by
              have := hj0o.2.2
              rw [hn2]
              split <;> omega
            refine ⟨by omega, fun q hq => ?_⟩
            rw [Int.toNat_natCast] at hq
            have hqo := hjo2 q (List.mem_of_getElem? hq)
            rw [w64_succ b (by omega)]
            refine ⟨by omega, fun _ => ⟨⟨hqo.1, hqo.2.1⟩, fun t ht => ⟨by omega, ?_⟩⟩⟩
            have hlb := long_bound (htok t (List.mem_of_getElem? ht))
            have hlong : longJ l q = (flongestS false false t.Bytes).1 := by unfold longJ; rw [ht, Option.getD_some]
            rw [w64_eq (now2 + (flongestS false false t.Bytes).1) (by omega), w64_eq _ (by omega)]
            have hdl : (sdelS js2 (b : Int) ((b + 1 : Nat) : Int)) = js2.take b ++ js2.drop (b + 1) := by unfold sdelS; rw [Int.toNat_natCast, Int.toNat_natCast]
            have hdn : (js2.take b ++ js2.drop (b + 1)).length = js2.length - 1 := by rw [List.length_append, List.length_take, List.length_drop]; omega
            rw [hdl, hdn]
            refine ⟨⟨_, rfl, by omega, ?_, by simp; omega, by omega, by simp; omega, ?_⟩, by omega⟩
            · intro j hj
              rcases List.mem_append.1 hj with hj | hj
              · exact hjo2 j (List.mem_of_mem_take hj)
              · exact hjo2 j (List.mem_of_mem_drop hj)
            · rw [← hlong]
              exact (hstep now2 hn2 b hb hbl q hq).trans hpl
          refine ⟨fun h5 => ⟨by omega, fun j1 hj1 => ?_⟩, fun h5 => ?_⟩
          · have hj1 : js2[0]? = some j1 := hj1
            rw [hj0] at hj1
            cases hj1
            have h5 := of_decide_eq_true h5
            exact pick_loop (Q := fun b => b = bestF j0.asked js2 js2 0 0 ∧ b < js2.length) hm h4 (fun b h6 h7 => ⟨h6, h7⟩) fun b hb => fin j0.asked (by rw [if_pos h5]) b hb.1 hb.2
          · have h5 := of_decide_eq_false h5
            exact pick_loop (Q := fun b => b = bestF now js2 js2 0 0 ∧ b < js2.length) hm h4 (fun b h6 h7 => ⟨h6, h7⟩) fun b hb => fin now (by rw [if_neg h5]) b hb.1 hb.2
        · have h4 : js2 = [] := by
            have := of_decide_eq_false h4
            exact List.eq_nil_of_length_eq_zero (by omega)
          subst h4
          rw [← hpl]
          rfl
      · rintro out now rfl
        rfl

end Go.Proofs.Ytginlmgkimfjmaa
set_option linter.unusedVariables false
set_option linter.unusedSimpArgs false
namespace Go.Proofs.Ytginlmgkimfjmaa
open Go.Sy Go.RowKit
def sleq_vc (u0 : List Slot) (u1 : List Slot) (K : Bool → Prop) : Prop :=
  (u0.length ≤ 140737488355328 →
    (u1.length ≤ 140737488355328 →
    ((((u0.length : Int) != (u1.length : Int)) = true →
      (K false)) ∧
    (((u0.length : Int) != (u1.length : Int)) = false →
      (∃ inv37 : Int → Prop, ∃ mu37 : Int → Nat, inv37 0 ∧
      (∀ (x13 : Int), inv37 x13 →
      (((decide (x13 < (u0.length : Int))) = true →
        ((0 ≤ x13 ∧ x13 < (u0.length : Int)) ∧
        (∀ q74, u0[x13.toNat]? = some q74 →
        ((0 ≤ x13 ∧ x13 < (u1.length : Int)) ∧
        (∀ q96, u1[x13.toNat]? = some q96 →
        (((!((q74.Task == q96.Task) && ((q74.Asked == q96.Asked) && ((q74.From == q96.From) && ((q74.End == q96.End) && true))))) = true →
          (K false)) ∧
        ((!((q74.Task == q96.Task) && ((q74.Asked == q96.Asked) && ((q74.From == q96.From) && ((q74.End == q96.End) && true))))) = false →
          (inv37 (w64 (x13 + 1)) ∧ mu37 (w64 (x13 + 1)) < mu37 x13)))))))) ∧
      ((decide (x13 < (u0.length : Int))) = false →
        (K true)))))))))

/-! Pure proofs: no program in sight. -/
theorem eq_loop {α : Type} [DecidableEq α] (a b : List α) (hl : a.length = b.length) : (a = b) ↔ ∀ (k : Nat) (x y : α), a[k]? = some x → b[k]? = some y → x = y := by
  constructor
  · rintro rfl k x y hx hy
    rw [hx] at hy
    exact Option.some.inj hy
  · intro h
    apply List.ext_getElem?
    intro k
    rcases Nat.lt_or_ge k a.length with hk | hk
    · have h1 := List.getElem?_eq_getElem hk
      have h2 := List.getElem?_eq_getElem (l := b) (show k < b.length by omega)
      rw [h1, h2, h k _ _ h1 h2]
    · rw [List.getElem?_eq_none hk, List.getElem?_eq_none (by omega)]
theorem slot_eq (q p : Slot) : ((q.Task == p.Task) && ((q.Asked == p.Asked) && ((q.From == p.From) && ((q.End == p.End) && true)))) = decide (q = p) := by
  obtain ⟨a1, a2, a3, a4⟩ := q
  obtain ⟨b1, b2, b3, b4⟩ := p
  rw [Bool.eq_iff_iff]
  simp
def sleqS (a b : List Slot) : Bool := decide (a = b)
theorem sleq_ok (a b : List Slot) : sleq_vc a b (fun r => r = sleqS a b) := by
  intro ha hb
  refine ⟨fun h => ?_, fun h => ?_⟩
  · have h : ¬ (a.length : Int) = (b.length : Int) := by simpa using h
    unfold sleqS
    rw [decide_eq_false]
    intro e
    rw [e] at h
    exact h rfl
  · have h : a.length = b.length := by
      have h : (a.length : Int) = (b.length : Int) := by simpa only [bne_eq_false_iff_eq] using h
      omega
    refine ⟨fun i => ∃ k : Nat, i = k ∧ k ≤ a.length ∧ ∀ (j : Nat) (x y : Slot), j < k → a[j]? = some x → b[j]? = some y → x = y, fun i => a.length - i.toNat, ⟨0, rfl, by omega, fun j _ _ hj => absurd hj (Nat.not_lt_zero _)⟩, ?_⟩
    rintro _ ⟨k, rfl, hk, hj⟩
    refine ⟨fun h1 => ?_, fun h1 => ?_⟩
    · have hk : k < a.length := by have := of_decide_eq_true h1; omega
      rw [w64_succ k (by omega)]
      refine ⟨by omega, fun q hq => ⟨by omega, fun p hp => ?_⟩⟩
      rw [slot_eq]
      refine ⟨fun h2 => ?_, fun h2 => ?_⟩
      · unfold sleqS
        rw [decide_eq_false]
        rintro rfl
        rw [hq] at hp
        cases hp
        simp at h2
      · have h2 : q = p := by simpa using h2
        rw [Int.toNat_natCast] at hq hp
        refine ⟨⟨k + 1, rfl, by omega, fun j x y hj1 hx hy => ?_⟩, by (try dsimp only); omega⟩
        rcases Nat.lt_or_ge j k with hc | hc
        · exact hj j x y hc hx hy
        · have : j = k := by omega
          subst this
          rw [hq] at hx
          rw [hp] at hy
          cases hx; cases hy; exact h2
    · have : k = a.length := by have := of_decide_eq_false h1; omega
      subst this
      unfold sleqS
      rw [decide_eq_true]
      exact (eq_loop a b h).2 fun k x y hx hy => hj k x y (List.getElem?_eq_some_iff.1 hx).1 hx hy


end Go.Proofs.Ytginlmgkimfjmaa
set_option linter.unusedVariables false
set_option linter.unusedSimpArgs false
namespace Go.Proofs.Ytginlmgkimfjmaa
open Go.Sy Go.RowKit
def played_vc  (K : Bool → Prop) : Prop :=
  (tasksS.length ≤ 140737488355328 →
    ((playS tasksS ([5, 5] : List Int) [] 100).1.length ≤ 140737488355328 →
    ((((playS tasksS ([5, 5] : List Int) [] 100).2 == 0) = true →
      (K (sleqS (playS tasksS ([5, 5] : List Int) [] 100).1 ([(⟨0, 5, 5, 140⟩ : Slot), (⟨1, 5, 140, 275⟩ : Slot)] : List Slot)))) ∧
    (((playS tasksS ([5, 5] : List Int) [] 100).2 == 0) = false →
      (K false)))))

/-! Pure proofs: no program in sight. -/
theorem played_ok : played_vc (fun r => r = true) := by
  intro _ _
  refine ⟨fun _ => ?_, fun h => ?_⟩
  · show sleqS _ _ = true
    decide +kernel
  · have e : ((playS tasksS ([5, 5] : List Int) [] 100).2 == 0) = true := by decide +kernel
    rw [e] at h
    cases h

end Go.Proofs.Ytginlmgkimfjmaa
set_option linter.unusedVariables false
set_option linter.unusedSimpArgs false
namespace Go.Proofs.Ytginlmgkimfjmaa
open Go.Sy Go.RowKit
def LOne_vc (u0 : List Task) (u1 : List Int) (u2 : List Int) (u3 : Int) (K : Bool → Prop) : Prop :=
  (u0.length ≤ 140737488355328 →
    (u1.length ≤ 140737488355328 →
    (u2.length ≤ 140737488355328 →
    ((playS u0 u1 u2 u3).1.length ≤ 140737488355328 →
    ((((playS u0 u1 u2 u3).2 != 0) = true →
      (K true)) ∧
    (((playS u0 u1 u2 u3).2 != 0) = false →
      (∃ inv90 : Int → Int → (List (Int × Int)) → Prop, ∃ mu90 : Int → Int → (List (Int × Int)) → Nat, inv90 0 0 ([] : List (Int × Int)) ∧
      (∀ (x11 : Int) (x39 : Int) (mb74 : List (Int × Int)), inv90 x11 x39 mb74 →
      (((decide (x39 < ((playS u0 u1 u2 u3).1.length : Int))) = true →
        ((0 ≤ x39 ∧ x39 < ((playS u0 u1 u2 u3).1.length : Int)) ∧
        (∀ q115, (playS u0 u1 u2 u3).1[x39.toNat]? = some q115 →
        (((((decide (q115.From < x11)) || (decide (q115.Asked > q115.From))) || (decide (q115.End ≤ q115.From))) = true →
          (K false)) ∧
        ((((decide (q115.From < x11)) || (decide (q115.Asked > q115.From))) || (decide (q115.End ≤ q115.From))) = false →
          ((((mget mb74 q115.Task).isSome && (decide (q115.Asked ≤ ((mget mb74 q115.Task).getD (0 : Int))))) = true →
            (K false)) ∧
          (((mget mb74 q115.Task).isSome && (decide (q115.Asked ≤ ((mget mb74 q115.Task).getD (0 : Int))))) = false →
            (inv90 q115.End (w64 (x39 + 1)) (mput mb74 q115.Task q115.Asked) ∧ mu90 q115.End (w64 (x39 + 1)) (mput mb74 q115.Task q115.Asked) < mu90 x11 x39 mb74)))))))) ∧
      ((decide (x39 < ((playS u0 u1 u2 u3).1.length : Int))) = false →
        (∃ inv259 : Int → Int → Prop, ∃ mu259 : Int → Int → Nat, inv259 0 0 ∧
        (∀ (x17 : Int) (x85 : Int), inv259 x17 x85 →
        (((decide (x85 < (u0.length : Int))) = true →
          (∃ inv278 : Int → Prop,
          ((0 ≤ x85 ∧ x85 < (u0.length : Int)) ∧
          (∀ q304, u0[x85.toNat]? = some q304 →
          ((0 ≤ x85 ∧ x85 < (u1.length : Int)) ∧
          (∀ q333, u1[x85.toNat]? = some q333 →
          (∃ inv345 : Int → Int → Prop, ∃ mu345 : Int → Int → Nat, inv345 x17 q333 ∧
          (∀ (x17vv : Int) (x20 : Int), inv345 x17vv x20 →
          (((decide (x20 < u3)) = true →
            (inv345 (w64 (x17vv + 1)) (w64 (x20 + q304.Every)) ∧ mu345 (w64 (x17vv + 1)) (w64 (x20 + q304.Every)) < mu345 x17vv x20)) ∧
          ((decide (x20 < u3)) = false →
            (inv278 x17vv))))))))) ∧
          (∀ (x17v : Int), inv278 x17v →
            (inv259 x17v (w64 (x85 + 1)) ∧ mu259 x17v (w64 (x85 + 1)) < mu259 x17 x85)))) ∧
        ((decide (x85 < (u0.length : Int))) = false →
          (K (x17 == ((playS u0 u1 u2 u3).1.length : Int)))))))))))))))))

/-! Pure proofs: no program in sight. -/
theorem insC_perm {α : Type} (cmp : α → α → Int) (a : α) (s : List α) : (insC cmp a s).Perm (a :: s) := by
  induction s with
  | nil => exact List.Perm.refl _
  | cons b r ih =>
    rw [insC]
    split
    · exact List.Perm.refl _
    · exact (ih.cons b).trans (List.Perm.swap a b r)
theorem sortC_perm {α : Type} (cmp : α → α → Int) (l : List α) : (sortC cmp l).Perm l := by
  have key : ∀ (l s : List α), (l.foldl (fun s x => insC cmp x s) s).Perm (l ++ s) := by
    intro l
    induction l with
    | nil => intro s; exact List.Perm.refl _
    | cons a r ih =>
      intro s
      rw [List.foldl_cons]
      refine (ih _).trans ?_
      refine ((insC_perm cmp a s).append_left r).trans ?_
      exact List.perm_middle
  have := key l []
  rwa [List.append_nil] at this
/-- Ahead, of those that were asked for. -/
def KLe (a b : Job) : Prop := a.task < b.task ∨ a.task = b.task ∧ a.from_ ≤ b.from_
def KLt (a b : Job) : Prop := a.task < b.task ∨ a.task = b.task ∧ a.from_ < b.from_
def IsBest (js : List Job) (now : Int) (j : Job) : Prop := j ∈ js ∧ j.asked ≤ now ∧ ∀ k ∈ js, k.asked ≤ now → KLe j k
def Inj (js : List Job) : Prop := ∀ a ∈ js, ∀ b ∈ js, a.task = b.task → a.from_ = b.from_ → a = b
theorem best_one {js : List Job} {now : Int} {i j : Job} (hI : Inj js) (hi : IsBest js now i) (hj : IsBest js now j) : i = j := by
  have h1 := hi.2.2 j hj.1 hj.2.1
  have h2 := hj.2.2 i hi.1 hi.2.1
  unfold KLe at h1 h2
  exact hI i hi.1 j hj.1 (by omega) (by omega)
theorem ahead_iff (a b : Job) (now : Int) : ahead a b now = true ↔ a.asked ≤ now ∧ KLt a b := by
  unfold ahead KLt
  simp only [Bool.and_eq_true, Bool.or_eq_true, decide_eq_true_eq, beq_iff_eq]
theorem bestF_best (now : Int) (jobs : List Job) : ∀ (n i b : Nat), jobs.length - i = n → i ≤ jobs.length → (∃ p, jobs[b]? = some p ∧ p.asked ≤ now ∧ ∀ (k : Nat) (q : Job), k < i → jobs[k]? = some q → q.asked ≤ now → KLe p q) →
    ∃ p, jobs[bestF now jobs (jobs.drop i) i b]? = some p ∧ IsBest jobs now p := by
  intro n
  induction n with
  | zero =>
    rintro i b h1 h2 ⟨p, hp, ha, hq⟩
    have : i = jobs.length := by omega
    subst this
    rw [List.drop_length, bestF]
    refine ⟨p, hp, List.mem_of_getElem? hp, ha, fun q hm hqa => ?_⟩
    obtain ⟨k, hk, rfl⟩ := List.mem_iff_getElem.1 hm
    exact hq k _ hk (List.getElem?_eq_getElem hk) hqa
  | succ n ih =>
    rintro i b h1 h2 ⟨p, hp, ha, hq⟩
    have hi : i < jobs.length := by omega
    rw [List.drop_eq_getElem_cons hi, bestF, hp, Option.getD_some]
    by_cases h3 : ahead jobs[i] p now = true
    · rw [if_pos h3]
      have h4 := (ahead_iff _ _ _).1 h3
      refine ih (i + 1) i (by omega) (by omega) ⟨jobs[i], List.getElem?_eq_getElem hi, h4.1, fun k q hk hkq hqa => ?_⟩
      rcases Nat.lt_or_ge k i with hc | hc
      · have h5 := hq k q hc hkq hqa
        have h6 := h4.2
        unfold KLe KLt at *
        omega
      · have : k = i := by omega
        subst this
        rw [List.getElem?_eq_getElem hi] at hkq
        cases hkq
        unfold KLe
        omega
    · rw [if_neg h3]
      refine ih (i + 1) b (by omega) (by omega) ⟨p, hp, ha, fun k q hk hkq hqa => ?_⟩
      rcases Nat.lt_or_ge k i with hc | hc
      · exact hq k q hc hkq hqa
      · have : k = i := by omega
        subst this
        rw [List.getElem?_eq_getElem hi] at hkq
        cases hkq
        have h5 : ¬ KLt jobs[k] p := fun hc => h3 ((ahead_iff _ _ _).2 ⟨hqa, hc⟩)
        unfold KLe KLt at *
        omega
/-- The jobs of one task, one of them. -/
theorem genT_step {i : Int} {t : Task} {later : List Int} {e a k : Int} {n : Nat} {js : List Job} (h : a < e) :
    genT i t later e (n + 1) a js k = if 0 < later.length ∧ 0 < t.Jitter then
        (match later[(k.tmod (later.length : Int)).toNat]? with
        | none => .error 3
        | some v => if v < 0 then .error 3 else if 1000 < (js ++ [(⟨i, a, a + v.tmod (t.Jitter + 1)⟩ : Job)]).length then .error 2 else genT i t later e n (a + t.Every) (js ++ [⟨i, a, a + v.tmod (t.Jitter + 1)⟩]) (k + 1))
      else if 1000 < (js ++ [(⟨i, a, a⟩ : Job)]).length then .error 2 else genT i t later e n (a + t.Every) (js ++ [⟨i, a, a⟩]) k := by
  rw [genT, if_pos h]
  try rfl
def contA (later : List Int) (e : Int) (z : List (Task × Int)) (n : Int) (r : Except Int (List Job × Int)) : Except Int (List Job) := match r with
  | .error x => .error x
  | .ok q => genA later e z n q.1 q.2
theorem genA_cons (later : List Int) (e : Int) (t : Task) (f : Int) (r : List (Task × Int)) (i : Int) (jobs : List Job) (k : Int) :
    genA later e ((t, f) :: r) i jobs k = if f < 0 ∨ 1000000 < f then .error 3 else contA later e r (i + 1) (genT i t later e (1001 - jobs.length) f jobs k) := by
  rw [genA]
  try rfl
def playR (l : List Task) (R : Except Int (List Job)) : List Slot × Int := match R with
  | .error x => ([], x)
  | .ok jobs => (playL l jobs.length (sortC (fun a b => cmpj a b) jobs) [] 0, 0)
theorem playS_eq {l : List Task} {first later : List Int} {e : Int} (h1 : dcheckS l = 0) (h2 : ¬ (first.length ≠ l.length ∨ 1000 < later.length ∨ e < 0 ∨ 1000000 < e)) : playS l first later e = playR l (genA later e (l.zip first) 0 [] 0) := by
  unfold playS
  rw [if_neg (fun h => h h1), if_neg h2]
  try rfl
theorem playL_step (l : List Task) (js : List Job) (j0 : Job) (r : List Job) (hr : js = j0 :: r) (out : List Slot) (now : Int) (b : Nat) (hb : b = bestF (max now j0.asked) js js 0 0) (q : Job) (hq : js[b]? = some q) :
    playL l js.length js out now = playL l (js.length - 1) (js.take b ++ js.drop (b + 1)) (out ++ [⟨q.task, q.from_, max now j0.asked, max now j0.asked + longJ l q + 3⟩]) (max now j0.asked + longJ l q + 3) := by
  have e : playL l js.length js out now = (fun now2 => (fun b => (fun j => playL l (js.length - 1) (js.take b ++ js.drop (b + 1)) (out ++ [⟨j.task, j.from_, now2, now2 + longJ l j + 3⟩]) (now2 + longJ l j + 3)) (js[b]?.getD default)) (bestF now2 js js 0 0)) (if j0.asked > now then j0.asked else now) := by
    rw [hr, List.length_cons, playL]
    try rfl
  have hn : (if j0.asked > now then j0.asked else now) = max now j0.asked := by split <;> omega
  rw [e, hn]
  dsimp only
  rw [← hb, hq, Option.getD_some]
/-- The jobs of a list of tasks: right ones, one behind the other. -/
structure Gn (l : List Task) (n : Int) (js : List Job) (k a b : Int) : Prop where
  len : js.length ≤ 1000
  ok : ∀ j ∈ js, jok l j ∧ j.from_ ≤ j.asked
  k0 : 0 ≤ k
  k1 : k ≤ js.length
  srt : js.Pairwise fun x y => KLt x y ∧ (x.task = y.task → x.asked < y.asked)
  bel : ∀ j ∈ js, j.task < n ∨ j.task = n ∧ j.from_ < a ∧ j.asked < b
def remT (t : Task) (a e : Int) : Nat := if a < e then ((e - a + t.Every - 1) / t.Every).toNat else 0
theorem remT_step {t : Task} (h : tok t = true) {a e : Int} (ha : a < e) : remT t a e = remT t (a + t.Every) e + 1 := by
  have hs := tok_spec h
  unfold remT
  rw [if_pos ha]
  have e1 : e - a + t.Every - 1 = (e - a - 1) + 1 * t.Every := by omega
  split
  · have e2 : e - (a + t.Every) + t.Every - 1 = e - a - 1 := by omega
    rw [e1, Int.add_mul_ediv_right _ _ (by omega), e2]
    have := Int.ediv_nonneg (a := e - a - 1) (b := t.Every) (by omega) (by omega)
    omega
  · have : (e - a - 1) / t.Every = 0 := Int.ediv_eq_zero_of_lt (by omega) (by omega)
    rw [e1, Int.add_mul_ediv_right _ _ (by omega), this]
    rfl
theorem remT_end {t : Task} {a e : Int} (ha : ¬ a < e) : remT t a e = 0 := by unfold remT; rw [if_neg ha]
theorem genT_ok {l : List Task} {i : Int} {t : Task} {later : List Int} {e : Int} (ht : l[i.toNat]? = some t) (hi : 0 ≤ i) (htok : tok t = true) (he : e ≤ 1000000) : ∀ (n : Nat) (a : Int) (js : List Job) (k : Int) (J : List Job) (k' : Int), n + js.length = 1001 → Gn l i js k a a → 0 ≤ a → genT i t later e n a js k = .ok (J, k') →
    (∃ b, Gn l i J k' b b) ∧ J.length = js.length + remT t a e := by
  intro n
  induction n with
  | zero => intro a js k J k' h1 h2 _ _; have := h2.len; omega
  | succ n ih =>
    intro a js k J k' h1 h2 ha hg
    have hs := tok_spec htok
    have hil : i < (l.length : Int) := by have := (List.getElem?_eq_some_iff.1 ht).1; omega
    by_cases hae : a < e
    · rw [genT_step hae] at hg
      have hlen : ∀ x : Job, (js ++ [x]).length = js.length + 1 := fun x => by simp
      have add : ∀ x : Int, a ≤ x → x ≤ a + t.Jitter → ¬ 1000 < js.length + 1 → ∀ k2 : Int, 0 ≤ k2 → k2 ≤ js.length + 1 → Gn l i (js ++ [⟨i, a, x⟩]) k2 (a + t.Every) (a + t.Every) := by
        intro x hx0 hx1 hl k2 hk0 hk1
        refine ⟨by rw [hlen]; omega, fun j hj => ?_, hk0, by rw [hlen]; omega, ?_, fun j hj => ?_⟩
        · rcases List.mem_append.1 hj with hj | hj
          · exact h2.ok j hj
          · rw [List.mem_singleton.1 hj]
            exact ⟨⟨hi, hil, by show 0 ≤ x; omega, by show x ≤ 3000000; omega⟩, hx0⟩
        · rw [List.pairwise_append]
          refine ⟨h2.srt, List.pairwise_singleton _ _, fun y hy z hz => ?_⟩
          rw [List.mem_singleton.1 hz]
          have := h2.bel y hy
          unfold KLt
          refine ⟨?_, fun hyz => ?_⟩
          · show y.task < i ∨ y.task = i ∧ y.from_ < a
            omega
          · have hyz : y.task = i := hyz
            show y.asked < x
            omega
        · rcases List.mem_append.1 hj with hj | hj
          · have := h2.bel j hj
            omega
          · rw [List.mem_singleton.1 hj]
            refine .inr ⟨rfl, by show a < _; omega, by show x < _; omega⟩
      have fin : ∀ (x k2 : Int), a ≤ x → x ≤ a + t.Jitter → 0 ≤ k2 → k2 ≤ js.length + 1 → (if 1000 < (js ++ [(⟨i, a, x⟩ : Job)]).length then .error 2 else genT i t later e n (a + t.Every) (js ++ [⟨i, a, x⟩]) k2) = .ok (J, k') → (∃ b, Gn l i J k' b b) ∧ J.length = js.length + remT t a e := by
        intro x k2 hx0 hx1 hk0 hk1 hg
        rw [hlen] at hg
        by_cases hc : 1000 < js.length + 1
        · rw [if_pos hc] at hg
          cases hg
        · rw [if_neg hc] at hg
          obtain ⟨g1, g2⟩ := ih (a + t.Every) _ k2 J k' (by rw [hlen]; omega) (add x hx0 hx1 hc k2 hk0 hk1) (by omega) hg
          refine ⟨g1, ?_⟩
          rw [g2, hlen, remT_step htok hae]
          omega
      have hk0 := h2.k0
      have hk1 := h2.k1
      by_cases h8 : 0 < later.length ∧ 0 < t.Jitter
      · rw [if_pos h8] at hg
        split at hg
        · cases hg
        · rename_i v hv
          by_cases h9 : v < 0
          · rw [if_pos h9] at hg
            cases hg
          · rw [if_neg h9] at hg
            have hv0 := Int.tmod_eq_emod_of_nonneg (b := t.Jitter + 1) (show 0 ≤ v by omega)
            have hv1 := Int.emod_nonneg v (show t.Jitter + 1 ≠ 0 by omega)
            have hv2 := Int.emod_lt_of_pos v (show 0 < t.Jitter + 1 by omega)
            exact fin _ _ (by omega) (by omega) (by omega) (by omega) hg
      · rw [if_neg h8] at hg
        exact fin a k (by omega) (by omega) hk0 (by omega) hg
    · rw [genT, if_neg hae] at hg
      cases hg
      exact ⟨⟨a, h2⟩, by rw [remT_end hae]; rfl⟩
def remA (e : Int) : List (Task × Int) → Nat
  | [] => 0
  | (t, f) :: r => remT t f e + remA e r
theorem Gn.next {l : List Task} {n : Int} {js : List Job} {k a b : Int} (h : Gn l n js k a b) (a' b' : Int) : Gn l (n + 1) js k a' b' :=
  ⟨h.len, h.ok, h.k0, h.k1, h.srt, fun j hj => by have := h.bel j hj; omega⟩
theorem genA_ok {l : List Task} {later : List Int} {e : Int} (htok : ∀ o ∈ l, tok o = true) (he : e ≤ 1000000) : ∀ (z : List (Task × Int)) (i : Nat) (js : List Job) (k : Int) (J : List Job), (∀ (m : Nat) (x : Task × Int), z[m]? = some x → l[i + m]? = some x.1) → (∀ a b, Gn l i js k a b) → genA later e z i js k = .ok J →
    (∃ n k b, Gn l n J k b b) ∧ J.length = js.length + remA e z := by
  intro z
  induction z with
  | nil =>
    intro i js k J _ h2 hg
    rw [genA] at hg
    cases hg
    exact ⟨⟨i, k, 0, h2 0 0⟩, by simp [remA]⟩
  | cons x r ih =>
    intro i js k J h1 h2 hg
    obtain ⟨t, f⟩ := x
    rw [genA_cons] at hg
    by_cases hf : f < 0 ∨ 1000000 < f
    · rw [if_pos hf] at hg
      cases hg
    · rw [if_neg hf] at hg
      have ht : l[i]? = some t := by have := h1 0 (t, f) rfl; rwa [Nat.add_zero] at this
      have htk := htok t (List.mem_of_getElem? ht)
      cases hq : genT i t later e (1001 - js.length) f js k with
      | error x => rw [hq] at hg; unfold contA at hg; cases hg
      | ok q =>
        rw [hq] at hg
        obtain ⟨J1, k1⟩ := q
        have hjl := (h2 f f).len
        obtain ⟨⟨b, g1⟩, g2⟩ := genT_ok (l := l) (by simpa using ht) (by omega) htk he (1001 - js.length) f js k J1 k1 (by omega) (h2 f f) (by omega) hq
        have hg : genA later e r ((i : Int) + 1) J1 k1 = .ok J := hg
        obtain ⟨g3, g4⟩ := ih (i + 1) J1 k1 J (fun m x hm => by have := h1 (m + 1) x hm; rwa [show i + (m + 1) = i + 1 + m by omega] at this) (fun a b => g1.next a b) (by rw [show (((i + 1 : Nat)) : Int) = (i : Int) + 1 by omega]; exact hg)
        refine ⟨g3, ?_⟩
        rw [g4, g2, remA]
        omega
theorem mget_put {κ ν : Type} [DecidableEq κ] (m : List (κ × ν)) (k k' : κ) (v : ν) : mget (mput m k v) k' = if k' = k then some v else mget m k' := by
  induction m with
  | nil =>
    unfold mput mget
    by_cases h : k' = k
    · simp [h]
    · simp [h]
  | cons x r ih =>
    rw [mput]
    by_cases h : k = x.1
    · rw [if_pos h]
      by_cases h2 : k' = k
      · rw [if_pos h2]
        unfold mget
        rw [List.find?_cons, decide_eq_true h2]
        rfl
      · rw [if_neg h2]
        unfold mget
        rw [List.find?_cons, List.find?_cons, decide_eq_false h2, decide_eq_false (by rw [← h]; exact h2)]
    · rw [if_neg h]
      by_cases h2 : k' = x.1
      · have h3 : ¬ k' = k := fun e => h (e ▸ h2)
        rw [if_neg h3]
        unfold mget
        rw [List.find?_cons, List.find?_cons, decide_eq_true h2]
      · unfold mget at ih ⊢
        rw [List.find?_cons, List.find?_cons, decide_eq_false h2]
        exact ih
/-- What goes over the bus, one after the other. -/
def OutOk : List Slot → Int → List (Int × Int) → Prop
  | [], _, _ => True
  | s :: r, now, m => now ≤ s.From ∧ s.Asked ≤ s.From ∧ s.From < s.End ∧ (∀ w, mget m s.Task = some w → w < s.Asked) ∧ OutOk r s.End (mput m s.Task s.Asked)
theorem long0 {l : List Task} (htok : ∀ o ∈ l, tok o = true) {j : Job} (hj : jok l j) : 0 ≤ longJ l j := by
  have hlt : j.task.toNat < l.length := by have := hj.1; have := hj.2.1; omega
  have := long_bound (htok _ (List.mem_of_getElem? (List.getElem?_eq_getElem hlt)))
  unfold longJ
  rw [List.getElem?_eq_getElem hlt, Option.getD_some]
  exact this.1
theorem playL_ok {l : List Task} (htok : ∀ o ∈ l, tok o = true) : ∀ (n : Nat) (js : List Job) (out : List Slot) (now : Int) (m : List (Int × Int)), js.length = n → (∀ j ∈ js, jok l j ∧ j.from_ ≤ j.asked) → (js.Pairwise fun a b => a.asked ≤ b.asked) → Inj js → js.Nodup →
    (∀ a ∈ js, ∀ b ∈ js, a.task = b.task → a.from_ < b.from_ → a.asked < b.asked) → (∀ j ∈ js, ∀ w, mget m j.task = some w → w < j.from_) →
    ∃ R, playL l js.length js out now = out ++ R ∧ R.length = js.length ∧ OutOk R now m := by
  intro n
  induction n with
  | zero =>
    intro js out now m h1 _ _ _ _ _ _
    have : js = [] := List.eq_nil_of_length_eq_zero h1
    subst this
    exact ⟨[], by rw [List.append_nil]; rfl, rfl, trivial⟩
  | succ n ih =>
    intro js out now m h1 hok hsrt hinj hnd hmono hm
    obtain ⟨j0, r, hr⟩ : ∃ j0 r, js = j0 :: r := by
      cases js with
      | nil => simp at h1
      | cons x r => exact ⟨x, r, rfl⟩
    obtain ⟨p, hp1, hp2⟩ := bestF_best (max now j0.asked) js _ 0 0 rfl (by omega) ⟨j0, by rw [hr]; rfl, by omega, fun k _ hk => absurd hk (Nat.not_lt_zero _)⟩
    rw [List.drop_zero] at hp1
    have hstep := playL_step l js j0 r hr out now _ rfl p hp1
    generalize bestF (max now j0.asked) js js 0 0 = b at hp1 hstep
    generalize hnow : max now j0.asked = now2 at hp2 hstep
    have hb : b < js.length := (List.getElem?_eq_some_iff.1 hp1).1
    have hbn : (js.take b ++ js.drop (b + 1)).length = js.length - 1 := by rw [List.length_append, List.length_take, List.length_drop]; omega
    have hsub : (js.take b ++ js.drop (b + 1)).Sublist js := by
      rw [← List.eraseIdx_eq_take_drop_succ]
      exact List.eraseIdx_sublist _ _
    have hpn : p ∉ js.take b ++ js.drop (b + 1) := by
      rw [← List.eraseIdx_eq_take_drop_succ]
      intro hc
      obtain ⟨i, hi, he⟩ := List.mem_iff_getElem.1 hc
      have hi2 := List.getElem?_eq_getElem hi
      rw [he, List.getElem?_eraseIdx] at hi2
      have hinj2 : ∀ i j : Nat, js[i]? = some p → js[j]? = some p → i = j := by
        intro i j h1 h2
        obtain ⟨a1, a2⟩ := List.getElem?_eq_some_iff.1 h1
        obtain ⟨b1, b2⟩ := List.getElem?_eq_some_iff.1 h2
        have hP := List.pairwise_iff_getElem.1 hnd
        rcases Nat.lt_trichotomy i j with hc | hc | hc
        · exact absurd (a2.trans b2.symm) (hP i j a1 b1 hc)
        · exact hc
        · exact absurd (b2.trans a2.symm) (hP j i b1 a1 hc)
      split at hi2
      · have := hinj2 _ _ hi2 hp1
        omega
      · have := hinj2 _ _ hi2 hp1
        omega
    have hpo := hok p hp2.1
    have hlong := long0 htok hpo.1
    obtain ⟨R, hR1, hR2, hR3⟩ := ih (js.take b ++ js.drop (b + 1)) (out ++ [⟨p.task, p.from_, now2, now2 + longJ l p + 3⟩]) (now2 + longJ l p + 3) (mput m p.task p.from_) (by omega) (fun j hj => hok j (hsub.subset hj)) (hsrt.sublist hsub) (fun a ha b hb => hinj a (hsub.subset ha) b (hsub.subset hb)) (hnd.sublist hsub) (fun a ha b hb => hmono a (hsub.subset ha) b (hsub.subset hb)) (by
      intro j hj w hw
      rw [mget_put] at hw
      by_cases hc : j.task = p.task
      · rw [if_pos hc] at hw
        cases hw
        have hjs := hsub.subset hj
        rcases Int.lt_or_le p.from_ j.from_ with h3 | h3
        · exact h3
        · exfalso
          rcases Int.lt_or_le j.from_ p.from_ with h4 | h4
          · have h5 := hmono j hjs p hp2.1 hc h4
            have h6 := hp2.2.2 j hjs (by have := hp2.2.1; omega)
            unfold KLe at h6
            omega
          · have h5 := hinj j hjs p hp2.1 hc (by omega)
            rw [h5] at hj
            exact hpn hj
      · rw [if_neg hc] at hw
        exact hm j (hsub.subset hj) w hw)
    refine ⟨⟨p.task, p.from_, now2, now2 + longJ l p + 3⟩ :: R, ?_, ?_, ?_, ?_, ?_, ?_, ?_⟩
    · rw [hstep, ← hbn, hR1, List.append_assoc]
      rfl
    · rw [List.length_cons, hR2, hbn]
      omega
    · show now ≤ now2
      omega
    · show p.from_ ≤ now2
      have := hp2.2.1
      omega
    · show now2 < now2 + longJ l p + 3
      omega
    · intro w hw
      exact hm p hp2.1 w hw
    · exact hR3
theorem LOne_ok (l : List Task) (first later : List Int) (e : Int) : LOne_vc l first later e (fun r => r = true) := by
  intro hL1 hL2 hL3 hL4
  refine ⟨fun _ => rfl, fun h => ?_⟩
  have h : (playS l first later e).2 = 0 := by simpa using h
  have h1 : dcheckS l = 0 := by
    rcases Classical.em (dcheckS l = 0) with h1 | h1
    · exact h1
    · unfold playS at h
      rw [if_pos h1] at h
      exact h
  have h2 : ¬ (first.length ≠ l.length ∨ 1000 < later.length ∨ e < 0 ∨ 1000000 < e) := by
    intro h2
    unfold playS at h
    rw [if_neg (fun hc => hc h1), if_pos h2] at h
    cases h
  obtain ⟨hl20, htok⟩ := dcheckS_zero h1
  have hS := playS_eq h1 h2
  cases hg : genA later e (l.zip first) 0 [] 0 with
  | error x =>
    rw [hS, hg] at h
    have h : x = 0 := h
    subst h
    exfalso
    -- no error is 0
    have key : ∀ (z : List (Task × Int)) (i : Int) (js : List Job) (k : Int), genA later e z i js k ≠ .error 0 := by
      have keyT : ∀ (i : Int) (t : Task) (n : Nat) (a : Int) (js : List Job) (k : Int), genT i t later e n a js k ≠ .error 0 := by
        intro i t n
        induction n with
        | zero => intro a js k hc; rw [genT] at hc; cases hc
        | succ n ih =>
          intro a js k hc
          by_cases hae : a < e
          · rw [genT_step hae] at hc
            split at hc
            · split at hc
              · cases hc
              · split at hc
                · cases hc
                · split at hc
                  · cases hc
                  · exact ih _ _ _ hc
            · split at hc
              · cases hc
              · exact ih _ _ _ hc
          · rw [genT, if_neg hae] at hc
            cases hc
      intro z
      induction z with
      | nil => intro i js k hc; rw [genA] at hc; cases hc
      | cons x r ih =>
        intro i js k hc
        obtain ⟨t, f⟩ := x
        rw [genA_cons] at hc
        split at hc
        · cases hc
        · cases hq : genT i t later e (1001 - js.length) f js k with
          | error y =>
            rw [hq] at hc
            have hc : (.error y : Except Int (List Job)) = .error 0 := hc
            cases hc
            exact keyT _ _ _ _ _ _ hq
          | ok q =>
            rw [hq] at hc
            exact ih _ _ _ hc
    exact key _ _ _ _ hg
  | ok J =>
    have hP : playS l first later e = (playL l J.length (sortC (fun a b => cmpj a b) J) [] 0, 0) := by rw [hS, hg]; rfl
    obtain ⟨⟨n0, k0, b0, hG⟩, hcount⟩ := genA_ok (l := l) (later := later) (e := e) htok (by omega) (l.zip first) 0 [] 0 J (fun m x hm => by
      rw [Nat.zero_add]
      exact ((List.getElem?_zip_eq_some).1 hm).1) (fun a b => ⟨by simp, by simp, by omega, by simp, List.Pairwise.nil, by simp⟩) hg
    have hkey := cmpj_keyed (l := J) fun j hj => ⟨(hG.ok j hj).1.2.2.1, (hG.ok j hj).1.2.2.2⟩
    have hsp := sortC_perm (fun a b => cmpj a b) J
    have hsl : (sortC (fun a b => cmpj a b) J).length = J.length := hsp.length_eq
    have hpairs : ∀ a ∈ J, ∀ b ∈ J, a = b ∨ (KLt a b ∧ (a.task = b.task → a.asked < b.asked)) ∨ (KLt b a ∧ (b.task = a.task → b.asked < a.asked)) := by
      have key : ∀ js : List Job, (js.Pairwise fun x y => KLt x y ∧ (x.task = y.task → x.asked < y.asked)) → ∀ a ∈ js, ∀ b ∈ js, a = b ∨ (KLt a b ∧ (a.task = b.task → a.asked < b.asked)) ∨ (KLt b a ∧ (b.task = a.task → b.asked < a.asked)) := by
        intro js
        induction js with
        | nil => intro _ a ha; simp at ha
        | cons x r ih =>
          intro hp a ha b hb
          obtain ⟨p1, p2⟩ := List.pairwise_cons.1 hp
          rcases List.mem_cons.1 ha with ha | ha <;> rcases List.mem_cons.1 hb with hb | hb
          · exact .inl (by rw [ha, hb])
          · exact .inr (.inl (by rw [ha]; exact p1 b hb))
          · exact .inr (.inr (by rw [hb]; exact p1 a ha))
          · exact ih p2 a ha b hb
      exact key J hG.srt
    have hinj : Inj J := by
      intro a ha b hb h1 h2
      rcases hpairs a ha b hb with h3 | h3 | h3
      · exact h3
      · have := h3.1; unfold KLt at this; omega
      · have := h3.1; unfold KLt at this; omega
    have hmono : ∀ a ∈ J, ∀ b ∈ J, a.task = b.task → a.from_ < b.from_ → a.asked < b.asked := by
      intro a ha b hb h1 h2
      rcases hpairs a ha b hb with h3 | h3 | h3
      · rw [h3] at h2; omega
      · exact h3.2 h1
      · have := h3.1; unfold KLt at this; omega
    have hndJ : J.Nodup := hG.srt.imp fun {a b} hab hc => by
      have := hab.1
      rw [hc] at this
      unfold KLt at this
      omega
    obtain ⟨R, hR1, hR2, hR3⟩ := playL_ok htok _ (sortC (fun a b => cmpj a b) J) [] 0 [] rfl (fun j hj => hG.ok j (hsp.mem_iff.1 hj)) (sortC_spec hkey).1 (fun a ha b hb => hinj a (hsp.mem_iff.1 ha) b (hsp.mem_iff.1 hb)) (hsp.nodup_iff.2 hndJ) (fun a ha b hb => hmono a (hsp.mem_iff.1 ha) b (hsp.mem_iff.1 hb)) (fun j _ w hw => by simp [mget] at hw)
    rw [hsl] at hR1 hR2
    rw [List.nil_append] at hR1
    rw [hP, hR1]
    dsimp only
    have hRl : R.length ≤ 1000 := by have := hG.len; omega
    refine ⟨fun now i m => ∃ k : Nat, i = k ∧ k ≤ R.length ∧ OutOk (R.drop k) now m, fun _ i _ => R.length - i.toNat, ⟨0, rfl, by omega, by rw [List.drop_zero]; exact hR3⟩, ?_⟩
    rintro now _ m ⟨k, rfl, hk, ho⟩
    refine ⟨fun h3 => ?_, fun _ => ?_⟩
    · have hkl : k < R.length := by have := of_decide_eq_true h3; omega
      refine ⟨by omega, fun s hs => ?_⟩
      rw [Int.toNat_natCast] at hs
      rw [drop_this _ _ _ hs] at ho
      obtain ⟨o1, o2, o3, o4, o5⟩ := ho
      refine ⟨fun h4 => ?_, fun _ => ⟨fun h4 => ?_, fun _ => ?_⟩⟩
      · simp only [Bool.or_eq_true, decide_eq_true_eq] at h4
        omega
      · rw [Bool.and_eq_true, decide_eq_true_eq] at h4
        obtain ⟨w, hw⟩ := Option.isSome_iff_exists.1 h4.1
        have := o4 w hw
        rw [hw, Option.getD_some] at h4
        omega
      · rw [w64_succ k (by omega)]
        exact ⟨⟨k + 1, rfl, by omega, o5⟩, by (try dsimp only); omega⟩
    · have hz : (l.zip first).length = l.length := by rw [List.length_zip]; omega
      have hcount : R.length = remA e (l.zip first) := by rw [hR2, hcount]; simp
      refine ⟨fun x i => ∃ k : Nat, i = k ∧ k ≤ l.length ∧ 0 ≤ x ∧ x + ((remA e ((l.zip first).drop k) : Nat) : Int) = (R.length : Int), fun _ i => l.length - i.toNat, ⟨0, rfl, by omega, by omega, by rw [List.drop_zero]; omega⟩, ?_⟩
      rintro x _ ⟨k, rfl, hk, hx0, hx⟩
      refine ⟨fun h3 => ?_, fun h3 => ?_⟩
      · have hkl : k < l.length := by have := of_decide_eq_true h3; omega
        refine ⟨fun x => 0 ≤ x ∧ x + ((remA e ((l.zip first).drop (k + 1)) : Nat) : Int) = (R.length : Int), ⟨by omega, fun t ht => ⟨by omega, fun f hf => ?_⟩⟩, ?_⟩
        · rw [Int.toNat_natCast] at ht hf
          have htk := htok t (List.mem_of_getElem? ht)
          have hs := tok_spec htk
          rw [drop_this _ _ _ (zip_get ht hf), remA] at hx
          have hfb : 0 ≤ f ∧ f ≤ 1000000 := by
            -- f was told right
            have key : ∀ (z : List (Task × Int)) (i : Int) (js : List Job) (k : Int) (J : List Job), genA later e z i js k = .ok J → ∀ x ∈ z, 0 ≤ x.2 ∧ x.2 ≤ 1000000 := by
              intro z
              induction z with
              | nil => intro i js k J _ x hx; simp at hx
              | cons y r ih =>
                intro i js k J hg x hx
                obtain ⟨t, f⟩ := y
                rw [genA_cons] at hg
                split at hg
                · cases hg
                · rename_i hf
                  rcases List.mem_cons.1 hx with rfl | hx
                  · exact ⟨by show 0 ≤ f; omega, by show f ≤ 1000000; omega⟩
                  · cases hq : genT i t later e (1001 - js.length) f js k with
                    | error y => rw [hq] at hg; unfold contA at hg; cases hg
                    | ok q =>
                      rw [hq] at hg
                      exact ih _ _ _ _ hg x hx
            exact key _ _ _ _ _ hg (t, f) (List.mem_of_getElem? (zip_get ht hf))
          refine ⟨fun x a => 0 ≤ x ∧ (0 ≤ a ∧ a ≤ 2000000) ∧ x + ((remT t a e + remA e ((l.zip first).drop (k + 1)) : Nat) : Int) = (R.length : Int), fun _ a => (e - a).toNat, ⟨hx0, by omega, hx⟩, ?_⟩
          rintro x a ⟨y0, ⟨ya0, ya⟩, y1⟩
          refine ⟨fun h4 => ?_, fun h4 => ?_⟩
          · have h4 := of_decide_eq_true h4
            rw [remT_step htk h4] at y1
            rw [w64_eq (x + 1) (by omega), w64_eq (a + t.Every) (by omega)]
            exact ⟨⟨by omega, by omega, by omega⟩, by (try dsimp only); omega⟩
          · rw [remT_end (of_decide_eq_false h4)] at y1
            exact ⟨y0, by omega⟩
        · rintro x ⟨y0, y1⟩
          rw [w64_succ k (by omega)]
          exact ⟨⟨k + 1, rfl, by omega, y0, y1⟩, by (try dsimp only); omega⟩
      · have hkl : k = l.length := by have := of_decide_eq_false h3; omega
        subst hkl
        rw [List.drop_eq_nil_of_le (by omega), remA] at hx
        simp
        omega

end Go.Proofs.Ytginlmgkimfjmaa
