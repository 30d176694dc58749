/- Texts put together (pure ones, or walks made by program). -/
import Derived.Test.YtmnlahbngbigdaaGreatDoorK0
set_option linter.unusedVariables false
set_option linter.unusedSimpArgs false
namespace Go.Proofs.YtmnlahbngbigdaaGreatDoor
open Go.Sy Go.RowKit
structure Frame where
 ID : Int
 Long : Bool
 Fast : Bool
 Remote : Bool
 Size : Int
 Data : List Int
 deriving DecidableEq, Inhabited
def Frame.rep (Z : Fz) (cs : List Value) (x : Frame) : Prop := ∃ (ao0 : Option Addr) (cap0 : Nat), cs = [.int .i64 x.ID, .bool x.Long, .bool x.Fast, .bool x.Remote, .int .i64 x.Size, .slice ao0 x.Data.length cap0] ∧ SlR (tyInt .u8) Z ao0 cap0 x.Data
def tyFrame : Ty Frame :=
 ⟨6, Frame.rep, by rintro _ _ _ ⟨_, _, rfl, _⟩; rfl, by rintro _ _ _ _ hZ ⟨_, _, rfl, h0⟩; exact ⟨_, _, rfl, h0.mono hZ⟩, by rintro _ _ _ ⟨_, _, rfl, _⟩; simp [Value.oneCell']⟩
def okFrame (x : Frame) : Prop := (IntKind.i64.min ≤ x.ID ∧ x.ID ≤ IntKind.i64.max) ∧ (True) ∧ (True) ∧ (True) ∧ (IntKind.i64.min ≤ x.Size ∧ x.Size ≤ IntKind.i64.max) ∧ ((∀ y0 ∈ x.Data, IntKind.u8.min ≤ y0 ∧ y0 ≤ IntKind.u8.max) ∧ x.Data.length * 1 ≤ lim)
structure Kind where
 Size : Int
 Poly : Int
 From : Int
 End : Int
 deriving DecidableEq, Inhabited
def Kind.enc (x : Kind) : List Value := [.int .i64 x.Size, .int .u64 x.Poly, .int .u64 x.From, .int .u64 x.End]
def tyKind : Ty Kind := tyFlat Kind.enc 4 (fun _ => rfl) (fun x => by simp [Kind.enc, Value.oneCell'])
def okKind (x : Kind) : Prop := (IntKind.i64.min ≤ x.Size ∧ x.Size ≤ IntKind.i64.max) ∧ (IntKind.u64.min ≤ x.Poly ∧ x.Poly ≤ IntKind.u64.max) ∧ (IntKind.u64.min ≤ x.From ∧ x.From ≤ IntKind.u64.max) ∧ (IntKind.u64.min ≤ x.End ∧ x.End ≤ IntKind.u64.max)
structure Counter where
 last : Int
 n : Int
 deriving DecidableEq, Inhabited
def Counter.enc (x : Counter) : List Value := [.int .u8 x.last, .int .i64 x.n]
def tyCounter : Ty Counter := tyFlat Counter.enc 2 (fun _ => rfl) (fun x => by simp [Counter.enc, Value.oneCell'])
def okCounter (x : Counter) : Prop := (IntKind.u8.min ≤ x.last ∧ x.last ≤ IntKind.u8.max) ∧ (IntKind.i64.min ≤ x.n ∧ x.n ≤ IntKind.i64.max)
structure Reader where
 Row : List UInt8
 At : Int
 Code : Int
 c : Counter
 deriving DecidableEq, Inhabited
def Reader.enc (x : Reader) : List Value := [str x.Row, .int .i64 x.At, .int .i64 x.Code, .int .u8 x.c.last, .int .i64 x.c.n]
def tyReader : Ty Reader := tyFlat Reader.enc 5 (fun _ => rfl) (fun x => by simp [Reader.enc, Value.oneCell'])
def okReader (x : Reader) : Prop := (x.Row.length ≤ lim) ∧ (IntKind.i64.min ≤ x.At ∧ x.At ≤ IntKind.i64.max) ∧ (IntKind.i64.min ≤ x.Code ∧ x.Code ≤ IntKind.i64.max) ∧ (okCounter x.c)
structure FReader where
 Reader : Reader
 f : Frame
 deriving DecidableEq, Inhabited
def FReader.rep (Z : Fz) (cs : List Value) (x : FReader) : Prop := ∃ (ao0 : Option Addr) (cap0 : Nat), cs = [str x.Reader.Row, .int .i64 x.Reader.At, .int .i64 x.Reader.Code, .int .u8 x.Reader.c.last, .int .i64 x.Reader.c.n, .int .i64 x.f.ID, .bool x.f.Long, .bool x.f.Fast, .bool x.f.Remote, .int .i64 x.f.Size, .slice ao0 x.f.Data.length cap0] ∧ SlR (tyInt .u8) Z ao0 cap0 x.f.Data
def tyFReader : Ty FReader :=
 ⟨11, FReader.rep, by rintro _ _ _ ⟨_, _, rfl, _⟩; rfl, by rintro _ _ _ _ hZ ⟨_, _, rfl, h0⟩; exact ⟨_, _, rfl, h0.mono hZ⟩, by rintro _ _ _ ⟨_, _, rfl, _⟩; simp [Value.oneCell']⟩
def okFReader (x : FReader) : Prop := (okReader x.Reader) ∧ (okFrame x.f)
structure Sender where
 row : List UInt8
 lost : Int
 deriving DecidableEq, Inhabited
def Sender.enc (x : Sender) : List Value := [str x.row, .int .i64 x.lost]
def tySender : Ty Sender := tyFlat Sender.enc 2 (fun _ => rfl) (fun x => by simp [Sender.enc, Value.oneCell'])
def okSender (x : Sender) : Prop := (x.row.length ≤ lim) ∧ (IntKind.i64.min ≤ x.lost ∧ x.lost ≤ IntKind.i64.max)
def trimS (l cs : List UInt8) : List UInt8 := ((l.reverse.dropWhile (cs.contains ·)).reverse).dropWhile (cs.contains ·)
def count1S (l c : List UInt8) : Int := match c with | [x] => ((l.count x : Nat) : Int) | _ => 0
def isBit (c : UInt8) : Bool := c == 48 || c == 49
def isRow (b : List UInt8) : Bool := b.all isBit
def flip (c : UInt8) : UInt8 := if c = 48 then 49 else 48
theorem isBit_or {c : UInt8} (h : isBit c = true) : c = 48 ∨ c = 49 := by simpa [isBit] using h
theorem isRow_mem {b : List UInt8} (h : isRow b = true) {c : UInt8} (hc : c ∈ b) : c = 48 ∨ c = 49 := isBit_or (List.all_eq_true.1 h c hc)
theorem isRow_append {a b : List UInt8} : isRow (a ++ b) = (isRow a && isRow b) := by simp [isRow]
theorem isRow_cons {c : UInt8} {b : List UInt8} : isRow (c :: b) = (isBit c && isRow b) := rfl
theorem isRow_take {b : List UInt8} (h : isRow b = true) (k : Nat) : isRow (b.take k) = true := List.all_eq_true.2 fun c hc => List.all_eq_true.1 h c (List.mem_of_mem_take hc)
theorem isRow_drop {b : List UInt8} (h : isRow b = true) (k : Nat) : isRow (b.drop k) = true := List.all_eq_true.2 fun c hc => List.all_eq_true.1 h c (List.mem_of_mem_drop hc)
theorem isBit_flip (c : UInt8) : isBit (flip c) = true := by unfold flip; split <;> rfl
theorem wu64_eq (x : Int) (h : 0 ≤ x ∧ x ≤ 18446744073709551615) : wu64 x = x := IntWalk.u64_in x h
theorem w8_eq (x : Int) (h : 0 ≤ x ∧ x ≤ 255) : w8 x = x := IntWalk.u8_in x h
theorem shl1 (n : Nat) (h : n < 9223372036854775808) : bShl .u64 (n : Int) 1 = ((2 * n : Nat) : Int) := by
 unfold bShl
 have : (n : Int) * 2 ^ (min (1 : Int).toNat IntKind.u64.bits) = ((2 * n : Nat) : Int) := by
  show (n : Int) * 2 ^ 1 = _
  omega
 rw [this]
 exact wu64_eq _ (by omega)
theorem or_bit (m d : Nat) (hm : m < 9223372036854775808) (hd : d < 2) : bOr .u64 ((2 * m : Nat) : Int) (d : Int) = ((2 * m + d : Nat) : Int) := by
 have e : (BitVec.ofInt IntKind.u64.bits ((2 * m : Nat) : Int) ||| BitVec.ofInt IntKind.u64.bits (d : Int)).toNat = 2 * m + d := by
  rw [BitVec.toNat_or]
  show (BitVec.ofInt 64 ((2 * m : Nat) : Int)).toNat ||| (BitVec.ofInt 64 (d : Int)).toNat = _
  rw [ofInt_toNat (2 * m) (by omega), ofInt_toNat d (by omega)]
  have h := Nat.shiftLeft_add_eq_or_of_lt (i := 1) (b := d) (by omega) m
  rw [Nat.shiftLeft_eq] at h
  have e2 : m * 2 ^ 1 = 2 * m := by omega
  rw [e2] at h
  exact h.symm
 unfold bOr
 rw [e]
 exact wu64_eq _ (by omega)
theorem and1 (n : Nat) (h : n < 18446744073709551616) : bAnd .u64 (n : Int) 1 = ((n % 2 : Nat) : Int) := by
 have e : (BitVec.ofInt IntKind.u64.bits (n : Int) &&& BitVec.ofInt IntKind.u64.bits (1 : Int)).toNat = n % 2 := by
  rw [BitVec.toNat_and]
  show (BitVec.ofInt 64 (n : Int)).toNat &&& (BitVec.ofInt 64 ((1 : Nat) : Int)).toNat = _
  rw [ofInt_toNat n h, ofInt_toNat 1 (by omega), Nat.and_one_is_mod]
 unfold bAnd
 rw [e]
 exact wu64_eq _ (by omega)
theorem shr1 (n : Nat) : bShr .u64 (n : Int) 1 = ((n / 2 : Nat) : Int) := by
 unfold bShr
 show (n : Int).fdiv (2 ^ 1) = _
 rw [Int.fdiv_eq_ediv_of_nonneg _ (by decide)]
 norm_cast
theorem shrN (n s : Nat) (hs : s ≤ 63) : bShr .i64 (n : Int) (s : Int) = ((n / 2 ^ s : Nat) : Int) := by
 unfold bShr
 have : min (s : Int).toNat IntKind.i64.bits = s := by simp [IntKind.bits]; omega
 rw [this, Int.fdiv_eq_ediv_of_nonneg _ (Int.le_of_lt (Int.pow_pos (by decide)))]
 norm_cast
def wr : Nat → Nat → List UInt8
 | 0, _ => []
 | s + 1, n => UInt8.ofNat (48 + n / 2 ^ s % 2) :: wr s n
def val : List UInt8 → Nat
 | [] => 0
 | c :: r => (c.toNat - 48) * 2 ^ r.length + val r
theorem wr_length (s n : Nat) : (wr s n).length = s := by induction s with
 | zero => rfl
 | succ s ih => simp [wr, ih]
theorem wr_bit (x : Nat) : UInt8.ofNat (48 + x % 2) = 48 ∨ UInt8.ofNat (48 + x % 2) = 49 := by
 rcases Nat.mod_two_eq_zero_or_one x with h | h <;> rw [h]
 · exact .inl rfl
 · exact .inr rfl
theorem wr_row (s n : Nat) : isRow (wr s n) = true := by
 induction s with
 | zero => rfl
 | succ s ih =>
  rw [wr, isRow_cons, ih]
  rcases wr_bit (n / 2 ^ s) with h | h <;> rw [h] <;> rfl
theorem val_append (a b : List UInt8) : val (a ++ b) = val a * 2 ^ b.length + val b := by
 induction a with
 | nil => simp [val]
 | cons c r ih => rw [List.cons_append, val, ih, val, List.length_append, Nat.pow_add, Nat.add_mul, Nat.mul_assoc, Nat.add_assoc]
theorem val_snoc (a : List UInt8) (c : UInt8) : val (a ++ [c]) = 2 * val a + (c.toNat - 48) := by
 rw [val_append]
 simp [val]
 omega
theorem val_lt {b : List UInt8} (h : isRow b = true) : val b < 2 ^ b.length := by
 induction b with
 | nil => simp [val]
 | cons c r ih =>
  rw [isRow_cons, Bool.and_eq_true] at h
  have := ih h.2
  rw [val, List.length_cons, Nat.pow_succ]
  rcases isBit_or h.1 with rfl | rfl
  · have e : (48 : UInt8).toNat - 48 = 0 := rfl
    rw [e]; omega
  · have e : (49 : UInt8).toNat - 48 = 1 := rfl
    rw [e]; omega
theorem wr_val {b : List UInt8} (h : isRow b = true) (n : Nat) (hn : n % 2 ^ b.length = val b) : wr b.length n = b := by
 induction b with
 | nil => rfl
 | cons c r ih =>
  rw [isRow_cons, Bool.and_eq_true] at h
  have hl := val_lt h.2
  rw [val, List.length_cons, Nat.pow_succ, Nat.mod_mul] at hn
  have hm : n % 2 ^ r.length < 2 ^ r.length := Nat.mod_lt _ (Nat.two_pow_pos _)
  have hr : n % 2 ^ r.length = val r ∧ n / 2 ^ r.length % 2 = c.toNat - 48 := by
   have h2 : (2 ^ r.length * (n / 2 ^ r.length % 2) + n % 2 ^ r.length) = (2 ^ r.length * (c.toNat - 48) + val r) := by rw [Nat.mul_comm _ (c.toNat - 48)]; omega
   have h3 := congrArg (· % 2 ^ r.length) h2
   have h4 := congrArg (· / 2 ^ r.length) h2
   simp only [Nat.mul_add_mod, Nat.mod_eq_of_lt hm, Nat.mod_eq_of_lt hl] at h3
   have p := Nat.two_pow_pos r.length
   simp only [Nat.mul_add_div p, Nat.div_eq_of_lt hm, Nat.div_eq_of_lt hl, Nat.add_zero] at h4
   exact ⟨h3, h4⟩
  rw [List.length_cons, wr, ih h.2 hr.1, hr.2]
  rcases isBit_or h.1 with rfl | rfl <;> rfl
theorem take_next {α : Type} (l : List α) (k : Nat) (q : α) (hq : l[k]? = some q) : l.take (k + 1) = l.take k ++ [q] := by rw [List.take_add_one, hq]; rfl
theorem drop_this {α : Type} (l : List α) (k : Nat) (q : α) (hq : l[k]? = some q) : l.drop k = q :: l.drop (k + 1) := by
 have hk : k < l.length := (List.getElem?_eq_some_iff.1 hq).1
 rw [List.drop_eq_getElem_cons hk]
 rw [List.getElem?_eq_getElem hk] at hq
 simp at hq
 rw [hq]
theorem bstr_append (a b : List Int) : bstr (a ++ b) = bstr a ++ bstr b := by simp [bstr]
theorem bstr_one (c : UInt8) : bstr [(c.toNat : Int)] = [c] := by simp [bstr]
theorem bstr_ints (l : List UInt8) : bstr (l.map fun c => (c.toNat : Int)) = l := by
 induction l with
 | nil => rfl
 | cons c r ih => rw [List.map_cons, show bstr ((c.toNat : Int) :: r.map fun c => (c.toNat : Int)) = c :: bstr (r.map fun c => (c.toNat : Int)) by simp [bstr], ih]
def fixF : Nat → UInt8 → List UInt8 → List UInt8
 | _, _, [] => []
 | k, a, c :: r => if k % 4 = 0 then flip a :: c :: fixF (k + 1) c r else c :: fixF (k + 1) c r
def bcheckS (b : List UInt8) : Int := if 1000 < b.length then 2 else if isRow b then 0 else 4
def breadS (b : List UInt8) : Int := (val b : Int)
def bwriteS (n s : Int) : List UInt8 := wr s.toNat n.toNat
def rsameS : List UInt8 → Bool
 | [] => true
 | c :: r => r.all (· == c)
theorem dropWhile_nil {α : Type} (p : α → Bool) (l : List α) : l.dropWhile p = [] ↔ l.all p = true := by
 induction l with
 | nil => simp
 | cons x l ih =>
  rw [List.dropWhile_cons]
  cases h : p x <;> simp [h, ih]
theorem trim_row (b : List UInt8) : trimS b [48, 49] = [] ↔ isRow b = true := by
 have e : ∀ l : List UInt8, l.all (fun x => ([48, 49] : List UInt8).contains x) = isRow l := by
  intro l
  unfold isRow
  congr 1
  funext x
  simp only [isBit, List.contains_cons, List.contains_nil, Bool.or_false]
 unfold trimS
 rw [dropWhile_nil, e]
 constructor
 · intro h
   have h1 : ∀ l : List UInt8, isRow (l.dropWhile (fun x => ([48, 49] : List UInt8).contains x)) = true → isRow l = true := by
    intro l
    induction l with
    | nil => exact fun h => h
    | cons x l ih =>
     rw [List.dropWhile_cons]
     split
     · rename_i hx
       intro h
       rw [isRow_cons, ih h, Bool.and_true]
       simpa [isBit] using hx
     · exact fun h => h
   have h2 : ∀ l : List UInt8, isRow l.reverse = isRow l := fun l => by simp [isRow]
   rw [h2] at h
   have := h1 _ h
   rwa [h2] at this
 · intro h
   refine List.all_eq_true.2 fun c hc => ?_
   have hc := List.mem_reverse.1 hc
   have hc := (List.dropWhile_sublist _).subset hc
   exact List.all_eq_true.1 h c (List.mem_reverse.1 hc)
theorem count_row (b : List UInt8) : b.count 48 + b.count 49 ≤ b.length ∧ (b.count 48 + b.count 49 = b.length ↔ isRow b = true) := by
 induction b with
 | nil => simp [isRow]
 | cons c r ih =>
  rw [isRow_cons, List.count_cons, List.count_cons, List.length_cons]
  by_cases h1 : c = 48
  · subst h1
    have e : isBit 48 = true := rfl
    simp only [e, Bool.true_and, beq_self_eq_true, if_true, show ((48 : UInt8) == 49) = false by rfl, Bool.false_eq_true, if_false]
    rw [← ih.2]
    omega
  · by_cases h2 : c = 49
    · subst h2
      have e : isBit 49 = true := rfl
      simp only [e, Bool.true_and, beq_self_eq_true, if_true, show ((49 : UInt8) == 48) = false by rfl, Bool.false_eq_true, if_false]
      rw [← ih.2]
      omega
    · have e : isBit c = false := by simp [isBit, h1, h2]
      simp only [e, Bool.false_and, beq_iff_eq, h1, h2, if_false]
      constructor
      · omega
      · constructor
        · omega
        · intro h; cases h
def nx (c : Counter) (b : UInt8) : Counter := if (b.toNat : Int) = c.last then ⟨c.last, c.n + 1⟩ else ⟨b.toNat, 1⟩
def putF : Counter → List UInt8 → List UInt8
 | _, [] => []
 | c, b :: r => if (nx c b).n = 5 then b :: flip b :: putF (nx (nx c b) (flip b)) r else b :: putF (nx c b) r
def takeF : Counter → List UInt8 → Nat → Except Int (List UInt8 × List UInt8 × Counter)
 | c, r, 0 => .ok ([], r, c)
 | _, [], _ + 1 => .error 7
 | c, b :: r, n + 1 =>
  if (nx c b).n = 5 then
   match r with
   | [] => .error 7
   | y :: r' => if y = flip b then (takeF (nx (nx c b) (flip b)) r' n).map fun q => (b :: q.1, q.2) else .error 5
  else (takeF (nx c b) r n).map fun q => (b :: q.1, q.2)
theorem takeF_cons (c : Counter) (b : UInt8) (r : List UInt8) (n : Nat) : takeF c (b :: r) (n + 1) = if (nx c b).n = 5 then
      match r with
      | [] => .error 7
      | y :: r' => if y = flip b then (takeF (nx (nx c b) (flip b)) r' n).map fun q => (b :: q.1, q.2) else .error 5
  else (takeF (nx c b) r n).map fun q => (b :: q.1, q.2) := by
 cases r <;> simp [takeF]
end Go.Proofs.YtmnlahbngbigdaaGreatDoor
set_option linter.unusedVariables false
set_option linter.unusedSimpArgs false
namespace Go.Proofs.YtmnlahbngbigdaaGreatDoor
open Go.Sy Go.RowKit
def bread_vc (u0 : List UInt8) (K : Int → Prop) : Prop := (∃ inv15 : Int → Int → Prop, ∃ mu15 : Int → Int → Nat, inv15 0 0 ∧ (∀ (x3 : Int) (x7 : Int), inv15 x3 x7 → (((decide (x7 < (u0.length : Int))) = true → ((0 ≤ x7 ∧ x7 < (u0.length : Int)) ∧ (∀ c49, u0[x7.toNat]? = some c49 → (inv15 (bOr .u64 (bShl .u64 x3 1) (wu64 (w8 ((c49.toNat : Int) - 48)))) (w64 (x7 + 1)) ∧ mu15 (bOr .u64 (bShl .u64 x3 1) (wu64 (w8 ((c49.toNat : Int) - 48)))) (w64 (x7 + 1)) < mu15 x3 x7)))) ∧ ((decide (x7 < (u0.length : Int))) = false → (K x3)))))
def bwrite_vc (u0 : Int) (u1 : Int) (K : (List UInt8) → Prop) : Prop := ((0 ≤ u1 ∧ u1 ≤ u1 ∧ u1 * 1 ≤ 140737488355328) ∧ (∃ inv23 : Int → Int → (List Int) → Prop, ∃ mu23 : Int → Int → (List Int) → Nat, inv23 u0 0 (List.replicate u1.toNat (0 : Int)) ∧ (∀ (x0 : Int) (x10 : Int) (zg90 : List Int), inv23 x0 x10 zg90 → (((decide (x10 < u1)) = true → ((0 ≤ w64 ((w64 (u1 - 1)) - x10) ∧ w64 ((w64 (u1 - 1)) - x10) < (zg90.length : Int)) ∧ (inv23 (bShr .u64 x0 1) (w64 (x10 + 1)) (zg90.set (w64 ((w64 (u1 - 1)) - x10)).toNat (w8 (48 + (w8 (bAnd .u64 x0 1))))) ∧ mu23 (bShr .u64 x0 1) (w64 (x10 + 1)) (zg90.set (w64 ((w64 (u1 - 1)) - x10)).toNat (w8 (48 + (w8 (bAnd .u64 x0 1))))) < mu23 x0 x10 zg90))) ∧ ((decide (x10 < u1)) = false → (K (bstr zg90)))))))
def bcheck_vc (u0 : List UInt8) (K : Int → Prop) : Prop := (((decide ((u0.length : Int) > 1000)) = true → (K 2)) ∧ ((decide ((u0.length : Int) > 1000)) = false → ((u0.length ≤ 9223372036854775807 ∧ ([48, 49] : List UInt8).length < 4294967281 ∧ ([48, 49] : List UInt8).all (fun b => decide (b.toNat < 128)) = true) ∧ ((((trimS u0 ([48, 49] : List UInt8)) != ([] : List UInt8)) = true → (K 4)) ∧ (((trimS u0 ([48, 49] : List UInt8)) != ([] : List UInt8)) = false → (K 0))))))
def ckinds_vc  (K : (Kind × Kind × Kind × Kind × Kind) → Prop) : Prop := (K ((⟨15, 17817, 0, 0⟩ : Kind), (⟨17, 92251, 65536, 0⟩ : Kind), (⟨21, 1058969, 1048576, 0⟩ : Kind), (⟨8, 47, 255, 255⟩ : Kind), (⟨16, 4129, 65535, 0⟩ : Kind)))
def ckinds  : (Kind × Kind × Kind × Kind × Kind) :=
 ((⟨15, 17817, 0, 0⟩ : Kind), (⟨17, 92251, 65536, 0⟩ : Kind), (⟨21, 1058969, 1048576, 0⟩ : Kind), (⟨8, 47, 255, 255⟩ : Kind), (⟨16, 4129, 65535, 0⟩ : Kind))
theorem ckinds_ok  : ckinds_vc  (fun r => r = ckinds ) := (by rfl)
def ksum_vc (u0 : Kind) (u1 : List UInt8) (K : Int → Prop) : Prop := ((0 ≤ w64 (u0.Size - 1)) ∧ (∃ inv37 : Int → Int → Prop, ∃ mu37 : Int → Int → Nat, inv37 u0.From 0 ∧ (∀ (x5 : Int) (x17 : Int), inv37 x5 x17 → (((decide (x17 < (u1.length : Int))) = true → ((0 ≤ x17 ∧ x17 < (u1.length : Int)) ∧ (∀ c75, u1[x17.toNat]? = some c75 → (((((bAnd .u64 x5 (bShl .u64 1 (w64 (u0.Size - 1)))) != 0) != ((c75.toNat : Int) == 49)) = true → (inv37 (bXor .u64 (bAnd .u64 (bShl .u64 x5 1) (wu64 ((bShl .u64 (bShl .u64 1 (w64 (u0.Size - 1))) 1) - 1))) u0.Poly) (w64 (x17 + 1)) ∧ mu37 (bXor .u64 (bAnd .u64 (bShl .u64 x5 1) (wu64 ((bShl .u64 (bShl .u64 1 (w64 (u0.Size - 1))) 1) - 1))) u0.Poly) (w64 (x17 + 1)) < mu37 x5 x17)) ∧ ((((bAnd .u64 x5 (bShl .u64 1 (w64 (u0.Size - 1)))) != 0) != ((c75.toNat : Int) == 49)) = false → (inv37 (bAnd .u64 (bShl .u64 x5 1) (wu64 ((bShl .u64 (bShl .u64 1 (w64 (u0.Size - 1))) 1) - 1))) (w64 (x17 + 1)) ∧ mu37 (bAnd .u64 (bShl .u64 x5 1) (wu64 ((bShl .u64 (bShl .u64 1 (w64 (u0.Size - 1))) 1) - 1))) (w64 (x17 + 1)) < mu37 x5 x17)))))) ∧ ((decide (x17 < (u1.length : Int))) = false → (K (bXor .u64 x5 u0.End)))))))
def cnext_vc (u0 : Counter) (u1 : Int) (K : (Int × Bool × Counter) → Prop) : Prop := (((u1 == u0.last) = true → (K (w8 (97 - u1), (w64 (u0.n + 1)) == 5, (⟨u0.last, w64 (u0.n + 1)⟩ : Counter)))) ∧ ((u1 == u0.last) = false → (K (w8 (97 - u1), false, (⟨u1, 1⟩ : Counter)))))
def cnextR_vc (u0 : Reader) (u1 : Int) (K : (Int × Bool × Reader) → Prop) : Prop := (((u1 == u0.c.last) = true → (K (w8 (97 - u1), (w64 (u0.c.n + 1)) == 5, (⟨u0.Row, u0.At, u0.Code, (⟨u0.c.last, w64 (u0.c.n + 1)⟩ : Counter)⟩ : Reader)))) ∧ ((u1 == u0.c.last) = false → (K (w8 (97 - u1), false, (⟨u0.Row, u0.At, u0.Code, (⟨u1, 1⟩ : Counter)⟩ : Reader)))))
theorem cnextR_mono {u0 : Reader} {u1 : Int} {K K1 : (Int × Bool × Reader) → Prop} (hK : ∀ r, K r → K1 r) (h : cnextR_vc u0 u1 K) : cnextR_vc u0 u1 K1 :=
 ⟨fun c0 => hK _ (h.1 c0), fun c0 => hK _ (h.2 c0)⟩
def rbit_vc (u0 : Reader) (K : (Int × Reader) → Prop) : Prop := (((u0.Code != 0) = true → (K (48, u0))) ∧ ((u0.Code != 0) = false → (((u0.At == (u0.Row.length : Int)) = true → (K (48, (⟨u0.Row, u0.At, 7, u0.c⟩ : Reader)))) ∧ ((u0.At == (u0.Row.length : Int)) = false → ((0 ≤ w64 ((w64 (u0.At + 1)) - 1) ∧ w64 ((w64 (u0.At + 1)) - 1) < (u0.Row.length : Int)) ∧ (∀ c122, u0.Row[(w64 ((w64 (u0.At + 1)) - 1)).toNat]? = some c122 → (K ((c122.toNat : Int), (⟨u0.Row, w64 (u0.At + 1), u0.Code, u0.c⟩ : Reader)))))))))
theorem rbit_mono {u0 : Reader} {K K1 : (Int × Reader) → Prop} (hK : ∀ r, K r → K1 r) (h : rbit_vc u0 K) : rbit_vc u0 K1 :=
 ⟨fun c0 => hK _ (h.1 c0), fun c0 => ⟨fun c1 => hK _ ((h.2 c0).1 c1), fun c1 => ⟨((h.2 c0).2 c1).1, fun y3 z3 => hK _ (((h.2 c0).2 c1).2 y3 z3)⟩⟩⟩
def cnextF_vc (u0 : FReader) (u1 : Int) (K : (Int × Bool × FReader) → Prop) : Prop := (u0.f.Data.length ≤ 140737488355328 → (((u1 == u0.Reader.c.last) = true → (K (w8 (97 - u1), (w64 (u0.Reader.c.n + 1)) == 5, (⟨(⟨u0.Reader.Row, u0.Reader.At, u0.Reader.Code, (⟨u0.Reader.c.last, w64 (u0.Reader.c.n + 1)⟩ : Counter)⟩ : Reader), u0.f⟩ : FReader)))) ∧ ((u1 == u0.Reader.c.last) = false → (K (w8 (97 - u1), false, (⟨(⟨u0.Reader.Row, u0.Reader.At, u0.Reader.Code, (⟨u1, 1⟩ : Counter)⟩ : Reader), u0.f⟩ : FReader))))))
theorem cnextF_lift (u0 : FReader) (u1 : Int) {K : (Int × Bool × FReader) → Prop} (h : cnextR_vc u0.Reader u1 fun r => K (r.1, r.2.1, (⟨r.2.2, u0.f⟩ : FReader))) : cnextF_vc u0 u1 K :=
 fun z0 => ⟨fun c1 => (h.1 c1), fun c1 => (h.2 c1)⟩
def rbitF_vc (u0 : FReader) (K : (Int × FReader) → Prop) : Prop := (u0.f.Data.length ≤ 140737488355328 → (((u0.Reader.Code != 0) = true → (K (48, u0))) ∧ ((u0.Reader.Code != 0) = false → (((u0.Reader.At == (u0.Reader.Row.length : Int)) = true → (K (48, (⟨(⟨u0.Reader.Row, u0.Reader.At, 7, u0.Reader.c⟩ : Reader), u0.f⟩ : FReader)))) ∧ ((u0.Reader.At == (u0.Reader.Row.length : Int)) = false → ((0 ≤ w64 ((w64 (u0.Reader.At + 1)) - 1) ∧ w64 ((w64 (u0.Reader.At + 1)) - 1) < (u0.Reader.Row.length : Int)) ∧ (∀ c126, u0.Reader.Row[(w64 ((w64 (u0.Reader.At + 1)) - 1)).toNat]? = some c126 → (K ((c126.toNat : Int), (⟨(⟨u0.Reader.Row, w64 (u0.Reader.At + 1), u0.Reader.Code, u0.Reader.c⟩ : Reader), u0.f⟩ : FReader))))))))))
theorem rbitF_lift (u0 : FReader) {K : (Int × FReader) → Prop} (h : rbit_vc u0.Reader fun r => K (r.1, (⟨r.2, u0.f⟩ : FReader))) : rbitF_vc u0 K :=
 fun z0 => ⟨fun c1 => (h.1 c1), fun c1 => ⟨fun c2 => ((h.2 c1).1 c2), fun c2 => ⟨((h.2 c1).2 c2).1, fun y4 z4 => (((h.2 c1).2 c2).2 y4 z4)⟩⟩⟩
def fsizes_vc  (K : (List Int) → Prop) : Prop := (K ([0, 1, 2, 3, 4, 5, 6, 7, 8, 12, 16, 20, 24, 32, 48, 64] : List Int))
def fsizes  : (List Int) :=
 ([0, 1, 2, 3, 4, 5, 6, 7, 8, 12, 16, 20, 24, 32, 48, 64] : List Int)
theorem fsizes_ok  : fsizes_vc  (fun r => r = fsizes ) := (by rfl)
def fbit_vc (u0 : Bool) (K : (List UInt8) → Prop) : Prop := ((u0 = true → (K ([49] : List UInt8))) ∧ (u0 = false → (K ([48] : List UInt8))))
def fbit (u0 : Bool) : (List UInt8) :=
 bif u0 then ([49] : List UInt8)
  else ([48] : List UInt8)
theorem fbit_ok (u0 : Bool) : fbit_vc u0 (fun r => r = fbit u0) := ⟨fun h0 => (by simp only [fbit, h0, cond_true, cond_false]), fun h0 => (by simp only [fbit, h0, cond_true, cond_false])⟩
def fkind_vc (u0 : Frame) (K : Int → Prop) : Prop := (u0.Data.length ≤ 140737488355328 → (((!u0.Fast) = true → (K 0)) ∧ ((!u0.Fast) = false → (((decide ((u0.Data.length : Int) ≤ 16)) = true → (K 1)) ∧ ((decide ((u0.Data.length : Int) ≤ 16)) = false → (K 2))))))
def fkind (u0 : Frame) : Int :=
 bif !u0.Fast then 0
  else bif decide ((u0.Data.length : Int) ≤ 16) then 1
  else 2
theorem fkind_ok (u0 : Frame) : fkind_vc u0 (fun r => r = fkind u0) := (fun _ => ⟨fun h0 => (by simp only [fkind, h0, cond_true, cond_false]), fun h0 => ⟨fun h1 => (by simp only [fkind, h0, h1, cond_true, cond_false]), fun h1 => (by simp only [fkind, h0, h1, cond_true, cond_false])⟩⟩)
def sindex_vc (u0 : List Int) (u1 : Int) (K : Int → Prop) : Prop := (u0.length ≤ 140737488355328 → (∃ inv16 : Int → Prop, ∃ mu16 : Int → Nat, inv16 0 ∧ (∀ (x8 : Int), inv16 x8 → (((decide (x8 < (u0.length : Int))) = true → ((0 ≤ x8 ∧ x8 < (u0.length : Int)) ∧ (∀ q51, u0[x8.toNat]? = some q51 → (((u1 == q51) = true → (K x8)) ∧ ((u1 == q51) = false → (inv16 (w64 (x8 + 1)) ∧ mu16 (w64 (x8 + 1)) < mu16 x8)))))) ∧ ((decide (x8 < (u0.length : Int))) = false → (K (-1)))))))
theorem sindex_mono {u0 : List Int} {u1 : Int} {K K1 : Int → Prop} (hK : ∀ r, K r → K1 r) (h : sindex_vc u0 u1 K) : sindex_vc u0 u1 K1 :=
 fun z0 => (Exists.elim (h z0) fun i1 e1 => Exists.elim e1 fun m1 g1 => ⟨i1, m1, g1.1, fun x8 z1 => ⟨fun c2 => ⟨((g1.2 x8 z1).1 c2).1, fun y4 z4 => ⟨fun c5 => hK _ ((((g1.2 x8 z1).1 c2).2 y4 z4).1 c5), fun c5 => ((((g1.2 x8 z1).1 c2).2 y4 z4).2 c5)⟩⟩, fun c2 => hK _ ((g1.2 x8 z1).2 c2)⟩⟩)
def scontains_vc (u0 : List Int) (u1 : Int) (K : Bool → Prop) : Prop := (u0.length ≤ 140737488355328 → (sindex_vc u0 u1 fun r13 => (K (decide (r13 ≥ 0)))))
theorem bread_ok (b : List UInt8) (h : b.length ≤ 62 ∧ isRow b = true) : bread_vc b (fun r => r = breadS b) := by
 refine ⟨fun x y => ∃ k : Nat, y = k ∧ k ≤ b.length ∧ x = ((val (b.take k) : Nat) : Int), fun _ y => b.length - y.toNat, ⟨0, rfl, by omega, rfl⟩, ?_⟩
 rintro _ _ ⟨k, rfl, hk, rfl⟩
 refine ⟨fun h1 => ⟨by simp at h1; omega, fun c hc => ?_⟩, fun h1 => ?_⟩
 · rw [Int.toNat_natCast] at hc
   have hkl : k < b.length := (List.getElem?_eq_some_iff.1 hc).1
   have hv := val_lt (isRow_take h.2 k)
   have hl : (b.take k).length ≤ 61 := by rw [List.length_take]; omega
   have hp : 2 ^ (b.take k).length ≤ 2 ^ 61 := Nat.pow_le_pow_right (by omega) hl
   have hp61 : (2 : Nat) ^ 61 = 2305843009213693952 := rfl
   have hd : ∃ d : Nat, wu64 (w8 ((c.toNat : Int) - 48)) = (d : Int) ∧ d = c.toNat - 48 ∧ d < 2 := by
    rcases isRow_mem h.2 (List.mem_of_getElem? hc) with rfl | rfl
    · exact ⟨0, rfl, rfl, by omega⟩
    · exact ⟨1, rfl, rfl, by omega⟩
   obtain ⟨d, e1, e2, e3⟩ := hd
   have e4 := shl1 (val (b.take k)) (by omega)
   rw [e4, e1, or_bit _ d (by omega) e3, w64_succ k (by omega)]
   refine ⟨⟨k + 1, rfl, by omega, ?_⟩, by dsimp only; omega⟩
   rw [take_next b k c hc, val_snoc, e2]
 · have : k = b.length := by simp at h1; omega
   subst this
   rw [List.take_length]
   rfl
theorem bwrite_ok (n s : Int) (h : 0 ≤ s ∧ s ≤ 64 ∧ 0 ≤ n ∧ n < 2 ^ 62) : bwrite_vc n s (fun r => r = bwriteS n s) := by
 obtain ⟨m, rfl⟩ : ∃ m : Nat, s = m := ⟨s.toNat, by omega⟩
 obtain ⟨v, rfl⟩ : ∃ v : Nat, n = v := ⟨n.toNat, by omega⟩
 have p62 : (2 : Int) ^ 62 = 4611686018427387904 := rfl
 refine ⟨by omega, fun x i z => ∃ k : Nat, i = k ∧ k ≤ m ∧ x = ((v / 2 ^ k : Nat) : Int) ∧ z.length = m ∧ z.drop (m - k) = (wr k v).map (fun c => (c.toNat : Int)), fun _ i _ => m - i.toNat,
  ⟨0, rfl, by omega, by simp, by simp, by simp [wr]⟩, ?_⟩
 rintro _ _ z ⟨k, rfl, hk, rfl, hz, hd⟩
 refine ⟨fun h1 => ?_, fun h1 => ?_⟩
 · have hkm : k < m := by simp at h1; omega
   have e1 : w64 (w64 ((m : Int) - 1) - k) = ((m - 1 - k : Nat) : Int) := by
    rw [w64_eq ((m : Int) - 1) (by omega), w64_eq _ (by omega)]
    omega
   have hv : v / 2 ^ k < 18446744073709551616 := Nat.lt_of_le_of_lt (Nat.div_le_self _ _) (by omega)
   rw [e1, and1 _ hv, shr1, w64_succ k (by omega)]
   refine ⟨by omega, ⟨k + 1, rfl, by omega, ?_, by simpa using hz, ?_⟩, by dsimp only; omega⟩
   · rw [Nat.div_div_eq_div_mul, Nat.pow_succ]
   · have e2 : m - (k + 1) = m - 1 - k := by omega
     rw [e2, Int.toNat_natCast, wr, List.map_cons, ← hd]
     have hlt : m - 1 - k < z.length := by omega
     have e3 : m - k = m - 1 - k + 1 := by omega
     rw [e3, List.drop_eq_getElem_cons (by simpa using hlt), List.getElem_set_self]
     congr 1
     · rcases Nat.mod_two_eq_zero_or_one (v / 2 ^ k) with hh | hh <;> rw [hh] <;> rfl
     · rw [List.drop_set_of_lt (by omega)]
 · have : k = m := by simp at h1; omega
   subst this
   have e2 : k - k = 0 := by omega
   rw [e2, List.drop_zero] at hd
   show bstr z = wr (k : Int).toNat (v : Int).toNat
   rw [hd, Int.toNat_natCast, Int.toNat_natCast, bstr_ints]
theorem bcheck_ok (b : List UInt8) : bcheck_vc b (fun r => r = bcheckS b) := by
 refine ⟨fun h => ?_, fun h => ⟨⟨?_, by decide, by decide⟩, fun h1 => ?_, fun h1 => ?_⟩⟩
 · have : 1000 < b.length := by simp at h; omega
   simp [bcheckS, this]
 · simp at h; omega
 · have hn : ¬ 1000 < b.length := by simp at h; omega
   have : ¬ isRow b = true := fun hr => by
    rw [(trim_row b).2 hr] at h1
    cases h1
   simp [bcheckS, hn, this]
 · have hn : ¬ 1000 < b.length := by simp at h; omega
   have : isRow b = true := (trim_row b).1 (by simpa using h1)
   simp [bcheckS, hn, this]
theorem bcheck_zero (b : List UInt8) : bcheckS b = 0 ↔ b.length ≤ 1000 ∧ isRow b = true := by
 unfold bcheckS
 split
 · constructor
   · intro h; cases h
   · intro h; omega
 · split
   · rename_i h1 h2
     exact ⟨fun _ => ⟨by omega, h2⟩, fun _ => rfl⟩
   · rename_i h1 h2
     exact ⟨fun h => (by cases h), fun h => absurd h.2 h2⟩
theorem band64 (x y : Nat) (hx : x < 18446744073709551616) (hy : y < 18446744073709551616) : bAnd .u64 (x : Int) (y : Int) = ((x &&& y : Nat) : Int) := by
 have e : (BitVec.ofInt IntKind.u64.bits (x : Int) &&& BitVec.ofInt IntKind.u64.bits (y : Int)).toNat = x &&& y := by
  rw [BitVec.toNat_and]
  show (BitVec.ofInt 64 (x : Int)).toNat &&& (BitVec.ofInt 64 (y : Int)).toNat = _
  rw [ofInt_toNat x hx, ofInt_toNat y hy]
 unfold bAnd
 rw [e]
 have := @Nat.and_le_left x y
 exact wu64_eq _ (by omega)
theorem bxor64 (x y : Nat) (hx : x < 18446744073709551616) (hy : y < 18446744073709551616) : bXor .u64 (x : Int) (y : Int) = ((x ^^^ y : Nat) : Int) := by
 have e : (BitVec.ofInt IntKind.u64.bits (x : Int) ^^^ BitVec.ofInt IntKind.u64.bits (y : Int)).toNat = x ^^^ y := by
  rw [BitVec.toNat_xor]
  show (BitVec.ofInt 64 (x : Int)).toNat ^^^ (BitVec.ofInt 64 (y : Int)).toNat = _
  rw [ofInt_toNat x hx, ofInt_toNat y hy]
 unfold bXor
 rw [e]
 have := Nat.xor_lt_two_pow (x := x) (y := y) (n := 64) hx hy
 exact wu64_eq _ (by omega)
def crcG (S p r : Nat) (b : Bool) : Nat := (2 * r % 2 ^ S) ^^^ (if (r.testBit (S - 1) != b) = true then p else 0)
def isOne (c : UInt8) : Bool := c == 49
def crcF (S p : Nat) : Nat → List UInt8 → Nat
 | r, [] => r
 | r, c :: l => crcF S p (crcG S p r (isOne c)) l
theorem crcF_append (S p r : Nat) (a b : List UInt8) : crcF S p r (a ++ b) = crcF S p (crcF S p r a) b := by
 induction a generalizing r with
 | nil => rfl
 | cons c l ih => exact ih _
theorem crcG_lt {S p r : Nat} {b : Bool} (hp : p < 2 ^ S) : crcG S p r b < 2 ^ S := by
 unfold crcG
 refine Nat.xor_lt_two_pow (Nat.mod_lt _ (Nat.two_pow_pos _)) ?_
 split
 · exact hp
 · exact Nat.two_pow_pos _
theorem crcF_lt {S p : Nat} (hp : p < 2 ^ S) (l : List UInt8) : ∀ {r : Nat}, r < 2 ^ S → crcF S p r l < 2 ^ S := by
 induction l with
 | nil => exact fun h => h
 | cons c l ih => exact fun _ => ih (crcG_lt hp)
def okKindS (k : Kind) : Prop := 1 ≤ k.Size ∧ k.Size ≤ 62 ∧ 0 ≤ k.Poly ∧ k.Poly < 2 ^ k.Size.toNat ∧ 0 ≤ k.From ∧ k.From < 2 ^ k.Size.toNat ∧ 0 ≤ k.End ∧ k.End < 2 ^ k.Size.toNat ∧ k.Poly % 2 = 1
def ksumS (k : Kind) (b : List UInt8) : Int := ((crcF k.Size.toNat k.Poly.toNat k.From.toNat b ^^^ k.End.toNat : Nat) : Int)
theorem and_pow (r i : Nat) : r &&& 2 ^ i = if r.testBit i = true then 2 ^ i else 0 := by
 apply Nat.eq_of_testBit_eq
 intro j
 rw [Nat.testBit_and, Nat.testBit_two_pow]
 by_cases h : i = j
 · subst h; cases hr : r.testBit i <;> simp [Nat.testBit_two_pow]
 · cases hr : r.testBit i <;> simp [h, Nat.testBit_two_pow]
theorem ksum_ok (k : Kind) (b : List UInt8) (h : okKindS k ∧ b.length ≤ 1000000) : ksum_vc k b (fun r => r = ksumS k b) := by
 obtain ⟨⟨h1, h2, h3, h4, h5, h6, h7, h8, _⟩, hbl⟩ := h
 obtain ⟨ks, kp, kf, ke⟩ := k
 dsimp only at h1 h2 h3 h4 h5 h6 h7 h8
 obtain ⟨S, rfl⟩ : ∃ S : Nat, ks = S := ⟨ks.toNat, by omega⟩
 obtain ⟨p, rfl⟩ : ∃ p : Nat, kp = p := ⟨kp.toNat, by omega⟩
 obtain ⟨f, rfl⟩ : ∃ f : Nat, kf = f := ⟨kf.toNat, by omega⟩
 obtain ⟨e, rfl⟩ : ∃ e : Nat, ke = e := ⟨ke.toNat, by omega⟩
 unfold ksum_vc ksumS
 dsimp only
 simp only [Int.toNat_natCast] at *
 have h4 : p < 2 ^ S := by exact_mod_cast h4
 have h6 : f < 2 ^ S := by exact_mod_cast h6
 have h8 : e < 2 ^ S := by exact_mod_cast h8
 have p62 : (2 : Nat) ^ 62 = 4611686018427387904 := rfl
 have hS62 : 2 ^ S ≤ 2 ^ 62 := Nat.pow_le_pow_right (by omega) (by omega)
 have ew : w64 ((S : Int) - 1) = ((S - 1 : Nat) : Int) := by rw [w64_eq _ (by omega)]; omega
 have hpow : 2 ^ S = 2 * 2 ^ (S - 1) := by rw [show S = (S - 1) + 1 by omega, Nat.pow_succ]; simp; omega
 have etop : bShl .u64 1 ((S - 1 : Nat) : Int) = ((2 ^ (S - 1) : Nat) : Int) := by
  unfold bShl
  have : min (((S - 1 : Nat) : Int)).toNat IntKind.u64.bits = S - 1 := by simp [IntKind.bits]; omega
  rw [this]
  have e2 : (1 : Int) * 2 ^ (S - 1) = ((2 ^ (S - 1) : Nat) : Int) := by push_cast; omega
  rw [e2]
  exact wu64_eq _ (by omega)
 have emask : wu64 (bShl .u64 ((2 ^ (S - 1) : Nat) : Int) 1 - 1) = ((2 ^ S - 1 : Nat) : Int) := by
  rw [shl1 _ (by omega), wu64_eq _ (by omega)]
  omega
 rw [ew, etop, emask]
 refine ⟨by omega, fun x i => ∃ j : Nat, i = j ∧ j ≤ b.length ∧ x = ((crcF S p f (b.take j) : Nat) : Int), fun _ i => b.length - i.toNat, ⟨0, rfl, by omega, by simp [crcF]⟩, ?_⟩
 rintro _ _ ⟨j, rfl, hj, rfl⟩
 have hr := crcF_lt h4 (b.take j) h6
 refine ⟨fun h => ?_, fun h => ?_⟩
 · have hj : j < b.length := by have := of_decide_eq_true h; omega
   rw [w64_succ j (by omega)]
   refine ⟨by omega, fun c hc => ?_⟩
   rw [Int.toNat_natCast] at hc
   have en : crcF S p f (b.take (j + 1)) = crcG S p (crcF S p f (b.take j)) (isOne c) := by
    rw [take_next b j c hc, crcF_append]
    rfl
   generalize crcF S p f (b.take j) = r at *
   have hand := and_pow r (S - 1)
   have e1 : (bAnd .u64 (r : Int) ((2 ^ (S - 1) : Nat) : Int) != 0) = r.testBit (S - 1) := by
    rw [band64 _ _ (by omega) (by omega), hand]
    have := Nat.two_pow_pos (S - 1)
    cases r.testBit (S - 1)
    · rfl
    · have h7 : ((2 ^ (S - 1) : Nat) : Int) ≠ 0 := by omega
      rw [if_pos rfl]
      exact bne_iff_ne.2 h7
   have e2 : ((c.toNat : Int) == 49) = isOne c := by
    unfold isOne
    by_cases hc : c = 49
    · subst hc; rfl
    · have h9 : ¬ c.toNat = 49 := fun h => hc (UInt8.toNat_inj.1 h)
      have h8 : ¬ (c.toNat : Int) = 49 := by omega
      rw [show ((c.toNat : Int) == 49) = false by simpa using h8, show (c == 49) = false by simpa using hc]
   have e3 : bAnd .u64 (bShl .u64 (r : Int) 1) ((2 ^ S - 1 : Nat) : Int) = ((2 * r % 2 ^ S : Nat) : Int) := by
    rw [shl1 _ (by omega), band64 _ _ (by omega) (by omega), Nat.and_two_pow_sub_one_eq_mod]
   have hm : 2 * r % 2 ^ S < 2 ^ S := Nat.mod_lt _ (Nat.two_pow_pos _)
   rw [e1, e2, e3]
   refine ⟨fun h => ?_, fun h => ?_⟩
   · rw [bxor64 _ _ (by omega) (by omega)]
     refine ⟨⟨j + 1, rfl, by omega, ?_⟩, by (try dsimp only); omega⟩
     rw [en, crcG, if_pos h]
   · refine ⟨⟨j + 1, rfl, by omega, ?_⟩, by (try dsimp only); omega⟩
     rw [en, crcG, if_neg (by rw [h]; simp), Nat.xor_zero]
 · have : j = b.length := by have := of_decide_eq_false h; omega
   subst this
   rw [List.take_length] at *
   show bXor .u64 _ _ = _
   rw [bxor64 _ _ (by omega) (by omega)]
def cnextS (c : Counter) (b : Int) : Int × Bool × Counter := if b = c.last then (97 - b, decide (c.n + 1 = 5), ⟨c.last, c.n + 1⟩) else (97 - b, false, ⟨b, 1⟩)
theorem cnext_ok (c : Counter) (b : Int) (h : -1000000 ≤ c.n ∧ c.n ≤ 1000000 ∧ 0 ≤ b ∧ b ≤ 97) : cnext_vc c b (fun r => r = cnextS c b) := by
 have e1 : w8 (97 - b) = 97 - b := w8_eq _ (by omega)
 have e2 : w64 (c.n + 1) = c.n + 1 := w64_eq _ (by omega)
 refine ⟨fun h1 => ?_, fun h1 => ?_⟩
 · have h1 : b = c.last := by simpa using h1
   rw [e1, e2]
   unfold cnextS
   rw [if_pos h1]
   rfl
 · have h1 : ¬ b = c.last := by simpa using h1
   rw [e1]
   unfold cnextS
   rw [if_neg h1]
def cnextRS (r : Reader) (b : Int) : Int × Bool × Reader := ((cnextS r.c b).1, (cnextS r.c b).2.1, ⟨r.Row, r.At, r.Code, (cnextS r.c b).2.2⟩)
theorem cnextR_ok (r : Reader) (b : Int) (h : -1000000 ≤ r.c.n ∧ r.c.n ≤ 1000000 ∧ 0 ≤ b ∧ b ≤ 97) : cnextR_vc r b (fun q => q = cnextRS r b) := by
 have e1 : w8 (97 - b) = 97 - b := w8_eq _ (by omega)
 have e2 : w64 (r.c.n + 1) = r.c.n + 1 := w64_eq _ (by omega)
 refine ⟨fun h1 => ?_, fun h1 => ?_⟩
 · have h1 : b = r.c.last := by simpa using h1
   rw [e1, e2]
   unfold cnextRS cnextS
   rw [if_pos h1]
   rfl
 · have h1 : ¬ b = r.c.last := by simpa using h1
   rw [e1]
   unfold cnextRS cnextS
   rw [if_neg h1]
def rbitS (r : Reader) : Int × Reader :=
 if r.Code ≠ 0 then (48, r) else match r.Row[r.At.toNat]? with
  | none => (48, ⟨r.Row, r.At, 7, r.c⟩)
  | some b => ((b.toNat : Int), ⟨r.Row, r.At + 1, r.Code, r.c⟩)
theorem rbit_ok (r : Reader) (h : 0 ≤ r.At ∧ r.At ≤ (r.Row.length : Int) ∧ r.Row.length ≤ 1000000) : rbit_vc r (fun q => q = rbitS r) := by
 refine ⟨fun h1 => ?_, fun h1 => ⟨fun h2 => ?_, fun h2 => ?_⟩⟩
 · have h1 : r.Code ≠ 0 := by simpa using h1
   unfold rbitS
   rw [if_pos h1]
 all_goals
  have h1 : ¬ r.Code ≠ 0 := by simpa using h1
 · have h2 : r.At = (r.Row.length : Int) := by simpa using h2
   have e : r.Row[r.At.toNat]? = none := List.getElem?_eq_none (by omega)
   unfold rbitS
   rw [if_neg h1, e]
 · have h2 : ¬ r.At = (r.Row.length : Int) := by simpa using h2
   have e1 : w64 (w64 (r.At + 1) - 1) = r.At := by
    rw [w64_eq (r.At + 1) (by omega), w64_eq _ (by omega)]
    omega
   have e2 : w64 (r.At + 1) = r.At + 1 := w64_eq _ (by omega)
   rw [e1, e2]
   refine ⟨by omega, fun b hb => ?_⟩
   unfold rbitS
   rw [if_neg h1, hb]
def sidx {α : Type} (p : α → Bool) (l : List α) : Int := match l.findIdx? p with | some i => (i : Int) | none => -1
theorem sidx_at {α : Type} (p : α → Bool) (l : List α) (k : Nat) (q : α) (hq : l[k]? = some q) (hp : p q = true) (hb : ∀ j x, j < k → l[j]? = some x → p x = false) : sidx p l = k := by
 unfold sidx
 have : l.findIdx? p = some k := by
  rw [List.findIdx?_eq_some_iff_getElem]
  obtain ⟨h1, h2⟩ := List.getElem?_eq_some_iff.1 hq
  exact ⟨h1, by rw [h2]; exact hp, fun j hj => by rw [hb j _ hj (List.getElem?_eq_getElem (by omega))]; simp⟩
 rw [this]
theorem sidx_none {α : Type} (p : α → Bool) (l : List α) (hb : ∀ (j : Nat) x, l[j]? = some x → p x = false) : sidx p l = -1 := by
 unfold sidx
 have : l.findIdx? p = none := by
  rw [List.findIdx?_eq_none_iff]
  intro x hx
  obtain ⟨j, hj⟩ := List.mem_iff_getElem?.1 hx
  exact hb j x hj
 rw [this]
theorem sidx_ge {α : Type} (p : α → Bool) (l : List α) : decide (sidx p l ≥ 0) = l.any p := by
 unfold sidx
 cases h : l.findIdx? p with
 | none =>
  have : l.any p = false := by
   rw [List.findIdx?_eq_none_iff] at h
   rw [List.any_eq_false]
   intro x hx
   simp [h x hx]
  rw [this]
  rfl
 | some i =>
  have : l.any p = true := by
   rw [List.findIdx?_eq_some_iff_getElem] at h
   obtain ⟨h1, h2, _⟩ := h
   exact List.any_eq_true.2 ⟨_, List.getElem_mem h1, h2⟩
  rw [this]
  simp
theorem sindex_ok (l : List Int) (x : Int) : sindex_vc l x (fun r => r = sidx (fun q => x == q) l) := by
 intro hl
 refine rg0 hl (fun k => ∀ j y, j < k → l[j]? = some y → (x == y) = false) (fun j y h => absurd h (Nat.not_lt_zero _)) ?_ ?_
 · intro k q hk hq hj inv mu hn
   refine ⟨fun h => (sidx_at _ l k q hq h hj).symm, fun h => hn fun j y hj1 hy => ?_⟩
   rcases Nat.lt_or_ge j k with h1 | h1
   · exact hj j y h1 hy
   · have : j = k := by omega
     subst this
     rw [hq] at hy
     cases hy
     exact h
 · intro hj
   refine (sidx_none _ l fun j y hy => hj j y (List.getElem?_eq_some_iff.1 hy).1 hy).symm
def scontainsS (l : List Int) (x : Int) : Bool := l.any fun q => x == q
theorem scontains_ok (l : List Int) (x : Int) : scontains_vc l x (fun r => r = scontainsS l x) := fun _ => sindex_mono (fun r h => by subst h; exact sidx_ge _ l) (sindex_ok l x)
def cnextFS (r : FReader) (b : Int) : Int × Bool × FReader := ((cnextRS r.Reader b).1, (cnextRS r.Reader b).2.1, ⟨(cnextRS r.Reader b).2.2, r.f⟩)
theorem cnextF_ok (r : FReader) (b : Int) (h : -1000000 ≤ r.Reader.c.n ∧ r.Reader.c.n ≤ 1000000 ∧ 0 ≤ b ∧ b ≤ 97) : cnextF_vc r b (fun q => q = cnextFS r b) :=
 cnextF_lift r b (cnextR_mono (by rintro _ rfl; rfl) (cnextR_ok r.Reader b h))
def rbitFS (r : FReader) : Int × FReader := ((rbitS r.Reader).1, ⟨(rbitS r.Reader).2, r.f⟩)
theorem rbitF_ok (r : FReader) (h : 0 ≤ r.Reader.At ∧ r.Reader.At ≤ (r.Reader.Row.length : Int) ∧ r.Reader.Row.length ≤ 1000000) : rbitF_vc r (fun q => q = rbitFS r) :=
 rbitF_lift r (rbit_mono (by rintro _ rfl; rfl) (rbit_ok r.Reader h))
def sindexS (l : List Int) (x : Int) : Int := sidx (fun q => x == q) l
theorem sindex_ok2 (l : List Int) (x : Int) : sindex_vc l x (fun r => r = sindexS l x) := sindex_ok l x
end Go.Proofs.YtmnlahbngbigdaaGreatDoor
set_option linter.unusedVariables false
set_option linter.unusedSimpArgs false
namespace Go.Proofs.YtmnlahbngbigdaaGreatDoor
open Go.Sy Go.RowKit
def csum_vc (u0 : Int) (u1 : List UInt8) (K : ((List UInt8) × Int) → Prop) : Prop := ((((bcheckS u1) != 0) = true → (K ([], (bcheckS u1)))) ∧ (((bcheckS u1) != 0) = false → ((((decide (u0 < 0)) || (decide (u0 ≥ 5))) = true → (K ([], 8))) ∧ (((decide (u0 < 0)) || (decide (u0 ≥ 5))) = false → ((0 ≤ u0 ∧ u0 < 5) ∧ ((okKindS (⟨([ckinds.1.Size, ckinds.2.1.Size, ckinds.2.2.1.Size, ckinds.2.2.2.1.Size, ckinds.2.2.2.2.Size] : List Int).getD u0.toNat 0, ([ckinds.1.Poly, ckinds.2.1.Poly, ckinds.2.2.1.Poly, ckinds.2.2.2.1.Poly, ckinds.2.2.2.2.Poly] : List Int).getD u0.toNat 0, ([ckinds.1.From, ckinds.2.1.From, ckinds.2.2.1.From, ckinds.2.2.2.1.From, ckinds.2.2.2.2.From] : List Int).getD u0.toNat 0, ([ckinds.1.End, ckinds.2.1.End, ckinds.2.2.1.End, ckinds.2.2.2.1.End, ckinds.2.2.2.2.End] : List Int).getD u0.toNat 0⟩ : Kind) ∧ u1.length ≤ 1000000) ∧ ((0 ≤ (([ckinds.1.Size, ckinds.2.1.Size, ckinds.2.2.1.Size, ckinds.2.2.2.1.Size, ckinds.2.2.2.2.Size] : List Int).getD u0.toNat 0) ∧ (([ckinds.1.Size, ckinds.2.1.Size, ckinds.2.2.1.Size, ckinds.2.2.2.1.Size, ckinds.2.2.2.2.Size] : List Int).getD u0.toNat 0) ≤ 64 ∧ 0 ≤ (ksumS (⟨([ckinds.1.Size, ckinds.2.1.Size, ckinds.2.2.1.Size, ckinds.2.2.2.1.Size, ckinds.2.2.2.2.Size] : List Int).getD u0.toNat 0, ([ckinds.1.Poly, ckinds.2.1.Poly, ckinds.2.2.1.Poly, ckinds.2.2.2.1.Poly, ckinds.2.2.2.2.Poly] : List Int).getD u0.toNat 0, ([ckinds.1.From, ckinds.2.1.From, ckinds.2.2.1.From, ckinds.2.2.2.1.From, ckinds.2.2.2.2.From] : List Int).getD u0.toNat 0, ([ckinds.1.End, ckinds.2.1.End, ckinds.2.2.1.End, ckinds.2.2.2.1.End, ckinds.2.2.2.2.End] : List Int).getD u0.toNat 0⟩ : Kind) u1) ∧ (ksumS (⟨([ckinds.1.Size, ckinds.2.1.Size, ckinds.2.2.1.Size, ckinds.2.2.2.1.Size, ckinds.2.2.2.2.Size] : List Int).getD u0.toNat 0, ([ckinds.1.Poly, ckinds.2.1.Poly, ckinds.2.2.1.Poly, ckinds.2.2.2.1.Poly, ckinds.2.2.2.2.Poly] : List Int).getD u0.toNat 0, ([ckinds.1.From, ckinds.2.1.From, ckinds.2.2.1.From, ckinds.2.2.2.1.From, ckinds.2.2.2.2.From] : List Int).getD u0.toNat 0, ([ckinds.1.End, ckinds.2.1.End, ckinds.2.2.1.End, ckinds.2.2.2.1.End, ckinds.2.2.2.2.End] : List Int).getD u0.toNat 0⟩ : Kind) u1) < 2 ^ 62) ∧ (K ((bwriteS (ksumS (⟨([ckinds.1.Size, ckinds.2.1.Size, ckinds.2.2.1.Size, ckinds.2.2.2.1.Size, ckinds.2.2.2.2.Size] : List Int).getD u0.toNat 0, ([ckinds.1.Poly, ckinds.2.1.Poly, ckinds.2.2.1.Poly, ckinds.2.2.2.1.Poly, ckinds.2.2.2.2.Poly] : List Int).getD u0.toNat 0, ([ckinds.1.From, ckinds.2.1.From, ckinds.2.2.1.From, ckinds.2.2.2.1.From, ckinds.2.2.2.2.From] : List Int).getD u0.toNat 0, ([ckinds.1.End, ckinds.2.1.End, ckinds.2.2.1.End, ckinds.2.2.2.1.End, ckinds.2.2.2.2.End] : List Int).getD u0.toNat 0⟩ : Kind) u1) (([ckinds.1.Size, ckinds.2.1.Size, ckinds.2.2.1.Size, ckinds.2.2.2.1.Size, ckinds.2.2.2.2.Size] : List Int).getD u0.toNat 0)), 0)))))))))
def bof_vc (u0 : List Int) (K : ((List UInt8) × Int) → Prop) : Prop := (u0.length ≤ 140737488355328 → (((decide ((u0.length : Int) > 125)) = true → (K ([], 2))) ∧ ((decide ((u0.length : Int) > 125)) = false → (∃ inv39 : Int → (List UInt8) → Prop, ∃ mu39 : Int → (List UInt8) → Nat, inv39 0 ([] : List UInt8) ∧ (∀ (x12 : Int) (yb26 : List UInt8), inv39 x12 yb26 → (((decide (x12 < (u0.length : Int))) = true → ((0 ≤ x12 ∧ x12 < (u0.length : Int)) ∧ (∀ q64, u0[x12.toNat]? = some q64 → ((0 ≤ (8 : Int) ∧ (8 : Int) ≤ 64 ∧ 0 ≤ (wu64 q64) ∧ (wu64 q64) < 2 ^ 62) ∧ ((yb26.length + (bwriteS (wu64 q64) 8).length ≤ 140737488355328) ∧ (inv39 (w64 (x12 + 1)) (yb26 ++ (bwriteS (wu64 q64) 8)) ∧ mu39 (w64 (x12 + 1)) (yb26 ++ (bwriteS (wu64 q64) 8)) < mu39 x12 yb26)))))) ∧ ((decide (x12 < (u0.length : Int))) = false → (K (yb26, 0)))))))))
def rtake_vc (u0 : Reader) (u1 : Int) (K : ((List UInt8) × Reader) → Prop) : Prop := (∃ inv14 : (List Int) → Int → Reader → Prop, ∃ mu14 : (List Int) → Int → Reader → Nat, inv14 ([] : List Int) 0 u0 ∧ (∀ (x5 : List Int) (x11 : Int) (yb1 : Reader), inv14 x5 x11 yb1 → (((decide (x11 < u1)) = true → ((0 ≤ yb1.At ∧ yb1.At ≤ (yb1.Row.length : Int) ∧ yb1.Row.length ≤ 1000000) ∧ (∀ r42, (rbitS yb1) = r42 → (((r42.2.Code != 0) = true → (K ([], r42.2))) ∧ ((r42.2.Code != 0) = false → (((x5.length + 1) * 1 ≤ 140737488355328) ∧ ((-1000000 ≤ r42.2.c.n ∧ r42.2.c.n ≤ 1000000 ∧ 0 ≤ r42.1 ∧ r42.1 ≤ 97) ∧ (∀ r105, (cnextRS r42.2 r42.1) = r105 → ((r105.2.1 = true → ((0 ≤ r105.2.2.At ∧ r105.2.2.At ≤ (r105.2.2.Row.length : Int) ∧ r105.2.2.Row.length ≤ 1000000) ∧ (∀ r136, (rbitS r105.2.2) = r136 → ((((r136.2.Code == 0) && (r136.1 != r105.1)) = true → ((-1000000 ≤ (⟨r136.2.Row, r136.2.At, 5, r136.2.c⟩ : Reader).c.n ∧ (⟨r136.2.Row, r136.2.At, 5, r136.2.c⟩ : Reader).c.n ≤ 1000000 ∧ 0 ≤ r105.1 ∧ r105.1 ≤ 97) ∧ (∀ r194, (cnextRS (⟨r136.2.Row, r136.2.At, 5, r136.2.c⟩ : Reader) r105.1) = r194 → (inv14 (x5 ++ [r42.1]) (w64 (x11 + 1)) r194.2.2 ∧ mu14 (x5 ++ [r42.1]) (w64 (x11 + 1)) r194.2.2 < mu14 x5 x11 yb1)))) ∧ (((r136.2.Code == 0) && (r136.1 != r105.1)) = false → ((-1000000 ≤ r136.2.c.n ∧ r136.2.c.n ≤ 1000000 ∧ 0 ≤ r105.1 ∧ r105.1 ≤ 97) ∧ (∀ r224, (cnextRS r136.2 r105.1) = r224 → (inv14 (x5 ++ [r42.1]) (w64 (x11 + 1)) r224.2.2 ∧ mu14 (x5 ++ [r42.1]) (w64 (x11 + 1)) r224.2.2 < mu14 x5 x11 yb1)))))))) ∧ (r105.2.1 = false → (inv14 (x5 ++ [r42.1]) (w64 (x11 + 1)) r105.2.2 ∧ mu14 (x5 ++ [r42.1]) (w64 (x11 + 1)) r105.2.2 < mu14 x5 x11 yb1))))))))))) ∧ ((decide (x11 < u1)) = false → (((yb1.Code != 0) = true → (K ([], yb1))) ∧ ((yb1.Code != 0) = false → (K (bstr x5, yb1))))))))
theorem rtake_mono {u0 : Reader} {u1 : Int} {K K1 : ((List UInt8) × Reader) → Prop} (hK : ∀ r, K r → K1 r) (h : rtake_vc u0 u1 K) : rtake_vc u0 u1 K1 :=
 (Exists.elim h fun i0 e0 => Exists.elim e0 fun m0 g0 => ⟨i0, m0, g0.1, fun x5 x11 yb1 z0 => ⟨fun c1 => ⟨((g0.2 x5 x11 yb1 z0).1 c1).1, fun y3 z3 => ⟨fun c4 => hK _ ((((g0.2 x5 x11 yb1 z0).1 c1).2 y3 z3).1 c4), fun c4 => ⟨((((g0.2 x5 x11 yb1 z0).1 c1).2 y3 z3).2 c4).1, ⟨((((g0.2 x5 x11 yb1 z0).1 c1).2 y3 z3).2 c4).2.1, fun y7 z7 => ⟨fun c8 => ⟨((((((g0.2 x5 x11 yb1 z0).1 c1).2 y3 z3).2 c4).2.2 y7 z7).1 c8).1, fun y10 z10 => ⟨fun c11 => ⟨((((((((g0.2 x5 x11 yb1 z0).1 c1).2 y3 z3).2 c4).2.2 y7 z7).1 c8).2 y10 z10).1 c11).1, fun y13 z13 => (((((((((g0.2 x5 x11 yb1 z0).1 c1).2 y3 z3).2 c4).2.2 y7 z7).1 c8).2 y10 z10).1 c11).2 y13 z13)⟩, fun c11 => ⟨((((((((g0.2 x5 x11 yb1 z0).1 c1).2 y3 z3).2 c4).2.2 y7 z7).1 c8).2 y10 z10).2 c11).1, fun y13 z13 => (((((((((g0.2 x5 x11 yb1 z0).1 c1).2 y3 z3).2 c4).2.2 y7 z7).1 c8).2 y10 z10).2 c11).2 y13 z13)⟩⟩⟩, fun c8 => ((((((g0.2 x5 x11 yb1 z0).1 c1).2 y3 z3).2 c4).2.2 y7 z7).2 c8)⟩⟩⟩⟩⟩, fun c1 => ⟨fun c2 => hK _ (((g0.2 x5 x11 yb1 z0).2 c1).1 c2), fun c2 => hK _ (((g0.2 x5 x11 yb1 z0).2 c1).2 c2)⟩⟩⟩)
def rplain_vc (u0 : Reader) (u1 : Int) (K : ((List UInt8) × Reader) → Prop) : Prop := (∃ inv14 : (List Int) → Int → Reader → Prop, ∃ mu14 : (List Int) → Int → Reader → Nat, inv14 ([] : List Int) 0 u0 ∧ (∀ (x5 : List Int) (x7 : Int) (yb1 : Reader), inv14 x5 x7 yb1 → (((decide (x7 < u1)) = true → ((0 ≤ yb1.At ∧ yb1.At ≤ (yb1.Row.length : Int) ∧ yb1.Row.length ≤ 1000000) ∧ (∀ r44, (rbitS yb1) = r44 → (((x5.length + 1) * 1 ≤ 140737488355328) ∧ (inv14 (x5 ++ [r44.1]) (w64 (x7 + 1)) r44.2 ∧ mu14 (x5 ++ [r44.1]) (w64 (x7 + 1)) r44.2 < mu14 x5 x7 yb1))))) ∧ ((decide (x7 < u1)) = false → (((yb1.Code != 0) = true → (K ([], yb1))) ∧ ((yb1.Code != 0) = false → (K (bstr x5, yb1))))))))
theorem rplain_mono {u0 : Reader} {u1 : Int} {K K1 : ((List UInt8) × Reader) → Prop} (hK : ∀ r, K r → K1 r) (h : rplain_vc u0 u1 K) : rplain_vc u0 u1 K1 :=
 (Exists.elim h fun i0 e0 => Exists.elim e0 fun m0 g0 => ⟨i0, m0, g0.1, fun x5 x7 yb1 z0 => ⟨fun c1 => ⟨((g0.2 x5 x7 yb1 z0).1 c1).1, fun y3 z3 => ⟨(((g0.2 x5 x7 yb1 z0).1 c1).2 y3 z3).1, (((g0.2 x5 x7 yb1 z0).1 c1).2 y3 z3).2⟩⟩, fun c1 => ⟨fun c2 => hK _ (((g0.2 x5 x7 yb1 z0).2 c1).1 c2), fun c2 => hK _ (((g0.2 x5 x7 yb1 z0).2 c1).2 c2)⟩⟩⟩)
def rtakeF_vc (u0 : FReader) (u1 : Int) (K : ((List UInt8) × FReader) → Prop) : Prop := (u0.f.Data.length ≤ 140737488355328 → (∃ inv18 : (List Int) → Int → FReader → Prop, ∃ mu18 : (List Int) → Int → FReader → Nat, inv18 ([] : List Int) 0 u0 ∧ (∀ (x5 : List Int) (x11 : Int) (yb1 : FReader), inv18 x5 x11 yb1 → (((decide (x11 < u1)) = true → ((0 ≤ yb1.Reader.At ∧ yb1.Reader.At ≤ (yb1.Reader.Row.length : Int) ∧ yb1.Reader.Row.length ≤ 1000000) ∧ (∀ r47, (rbitFS yb1) = r47 → (r47.2.f.Data.length ≤ 140737488355328 → (((r47.2.Reader.Code != 0) = true → (K ([], r47.2))) ∧ ((r47.2.Reader.Code != 0) = false → (((x5.length + 1) * 1 ≤ 140737488355328) ∧ ((-1000000 ≤ r47.2.Reader.c.n ∧ r47.2.Reader.c.n ≤ 1000000 ∧ 0 ≤ r47.1 ∧ r47.1 ≤ 97) ∧ (∀ r114, (cnextFS r47.2 r47.1) = r114 → (r114.2.2.f.Data.length ≤ 140737488355328 → ((r114.2.1 = true → ((0 ≤ r114.2.2.Reader.At ∧ r114.2.2.Reader.At ≤ (r114.2.2.Reader.Row.length : Int) ∧ r114.2.2.Reader.Row.length ≤ 1000000) ∧ (∀ r149, (rbitFS r114.2.2) = r149 → (r149.2.f.Data.length ≤ 140737488355328 → ((((r149.2.Reader.Code == 0) && (r149.1 != r114.1)) = true → ((-1000000 ≤ (⟨(⟨r149.2.Reader.Row, r149.2.Reader.At, 5, r149.2.Reader.c⟩ : Reader), r149.2.f⟩ : FReader).Reader.c.n ∧ (⟨(⟨r149.2.Reader.Row, r149.2.Reader.At, 5, r149.2.Reader.c⟩ : Reader), r149.2.f⟩ : FReader).Reader.c.n ≤ 1000000 ∧ 0 ≤ r114.1 ∧ r114.1 ≤ 97) ∧ (∀ r211, (cnextFS (⟨(⟨r149.2.Reader.Row, r149.2.Reader.At, 5, r149.2.Reader.c⟩ : Reader), r149.2.f⟩ : FReader) r114.1) = r211 → (r211.2.2.f.Data.length ≤ 140737488355328 → (inv18 (x5 ++ [r47.1]) (w64 (x11 + 1)) r211.2.2 ∧ mu18 (x5 ++ [r47.1]) (w64 (x11 + 1)) r211.2.2 < mu18 x5 x11 yb1))))) ∧ (((r149.2.Reader.Code == 0) && (r149.1 != r114.1)) = false → ((-1000000 ≤ r149.2.Reader.c.n ∧ r149.2.Reader.c.n ≤ 1000000 ∧ 0 ≤ r114.1 ∧ r114.1 ≤ 97) ∧ (∀ r245, (cnextFS r149.2 r114.1) = r245 → (r245.2.2.f.Data.length ≤ 140737488355328 → (inv18 (x5 ++ [r47.1]) (w64 (x11 + 1)) r245.2.2 ∧ mu18 (x5 ++ [r47.1]) (w64 (x11 + 1)) r245.2.2 < mu18 x5 x11 yb1)))))))))) ∧ (r114.2.1 = false → (inv18 (x5 ++ [r47.1]) (w64 (x11 + 1)) r114.2.2 ∧ mu18 (x5 ++ [r47.1]) (w64 (x11 + 1)) r114.2.2 < mu18 x5 x11 yb1))))))))))))) ∧ ((decide (x11 < u1)) = false → (((yb1.Reader.Code != 0) = true → (K ([], yb1))) ∧ ((yb1.Reader.Code != 0) = false → (K (bstr x5, yb1)))))))))
theorem rtakeF_lift (u0 : FReader) (u1 : Int) {K : ((List UInt8) × FReader) → Prop} (h : rtake_vc u0.Reader u1 fun r => K (r.1, (⟨r.2, u0.f⟩ : FReader))) : rtakeF_vc u0 u1 K :=
 fun z0 => (Exists.elim h fun i1 e1 => Exists.elim e1 fun m1 g1 => ⟨fun x5 x11 yb1 => (⟨yb1.Reader, u0.f⟩ : FReader) = yb1 ∧ i1 x5 x11 yb1.Reader, fun x5 x11 yb1 => m1 x5 x11 yb1.Reader, ⟨rfl, g1.1⟩, fun x5 x11 yb1 z1 => by obtain ⟨e1yb1, z1⟩ := z1; obtain ⟨yb1v1, hx1yb1⟩ : ∃ q, q = yb1.Reader := ⟨_, rfl⟩; rw [← hx1yb1] at e1yb1 z1; subst e1yb1; clear hx1yb1; exact ⟨fun c2 => ⟨((g1.2 x5 x11 yb1v1 z1).1 c2).1, fun y4 z4 => by subst z4; exact fun z5 => ⟨fun c6 => ((((g1.2 x5 x11 yb1v1 z1).1 c2).2 _ rfl).1 c6), fun c6 => ⟨((((g1.2 x5 x11 yb1v1 z1).1 c2).2 _ rfl).2 c6).1, ⟨((((g1.2 x5 x11 yb1v1 z1).1 c2).2 _ rfl).2 c6).2.1, fun y9 z9 => by subst z9; exact fun z10 => ⟨fun c11 => ⟨((((((g1.2 x5 x11 yb1v1 z1).1 c2).2 _ rfl).2 c6).2.2 _ rfl).1 c11).1, fun y13 z13 => by subst z13; exact fun z14 => ⟨fun c15 => ⟨((((((((g1.2 x5 x11 yb1v1 z1).1 c2).2 _ rfl).2 c6).2.2 _ rfl).1 c11).2 _ rfl).1 c15).1, fun y17 z17 => by subst z17; exact fun z18 => by first | exact (((((((((g1.2 x5 x11 yb1v1 z1).1 c2).2 _ rfl).2 c6).2.2 _ rfl).1 c11).2 _ rfl).1 c15).2 _ rfl) | exact ⟨⟨rfl, (((((((((g1.2 x5 x11 yb1v1 z1).1 c2).2 _ rfl).2 c6).2.2 _ rfl).1 c11).2 _ rfl).1 c15).2 _ rfl).1⟩, (((((((((g1.2 x5 x11 yb1v1 z1).1 c2).2 _ rfl).2 c6).2.2 _ rfl).1 c11).2 _ rfl).1 c15).2 _ rfl).2⟩⟩, fun c15 => ⟨((((((((g1.2 x5 x11 yb1v1 z1).1 c2).2 _ rfl).2 c6).2.2 _ rfl).1 c11).2 _ rfl).2 c15).1, fun y17 z17 => by subst z17; exact fun z18 => by first | exact (((((((((g1.2 x5 x11 yb1v1 z1).1 c2).2 _ rfl).2 c6).2.2 _ rfl).1 c11).2 _ rfl).2 c15).2 _ rfl) | exact ⟨⟨rfl, (((((((((g1.2 x5 x11 yb1v1 z1).1 c2).2 _ rfl).2 c6).2.2 _ rfl).1 c11).2 _ rfl).2 c15).2 _ rfl).1⟩, (((((((((g1.2 x5 x11 yb1v1 z1).1 c2).2 _ rfl).2 c6).2.2 _ rfl).1 c11).2 _ rfl).2 c15).2 _ rfl).2⟩⟩⟩⟩, fun c11 => by first | exact ((((((g1.2 x5 x11 yb1v1 z1).1 c2).2 _ rfl).2 c6).2.2 _ rfl).2 c11) | exact ⟨⟨rfl, ((((((g1.2 x5 x11 yb1v1 z1).1 c2).2 _ rfl).2 c6).2.2 _ rfl).2 c11).1⟩, ((((((g1.2 x5 x11 yb1v1 z1).1 c2).2 _ rfl).2 c6).2.2 _ rfl).2 c11).2⟩⟩⟩⟩⟩⟩, fun c2 => ⟨fun c3 => (((g1.2 x5 x11 yb1v1 z1).2 c2).1 c3), fun c3 => (((g1.2 x5 x11 yb1v1 z1).2 c2).2 c3)⟩⟩⟩)
def rplainF_vc (u0 : FReader) (u1 : Int) (K : ((List UInt8) × FReader) → Prop) : Prop := (u0.f.Data.length ≤ 140737488355328 → (∃ inv18 : (List Int) → Int → FReader → Prop, ∃ mu18 : (List Int) → Int → FReader → Nat, inv18 ([] : List Int) 0 u0 ∧ (∀ (x5 : List Int) (x7 : Int) (yb1 : FReader), inv18 x5 x7 yb1 → (((decide (x7 < u1)) = true → ((0 ≤ yb1.Reader.At ∧ yb1.Reader.At ≤ (yb1.Reader.Row.length : Int) ∧ yb1.Reader.Row.length ≤ 1000000) ∧ (∀ r49, (rbitFS yb1) = r49 → (r49.2.f.Data.length ≤ 140737488355328 → (((x5.length + 1) * 1 ≤ 140737488355328) ∧ (inv18 (x5 ++ [r49.1]) (w64 (x7 + 1)) r49.2 ∧ mu18 (x5 ++ [r49.1]) (w64 (x7 + 1)) r49.2 < mu18 x5 x7 yb1)))))) ∧ ((decide (x7 < u1)) = false → (((yb1.Reader.Code != 0) = true → (K ([], yb1))) ∧ ((yb1.Reader.Code != 0) = false → (K (bstr x5, yb1)))))))))
theorem rplainF_lift (u0 : FReader) (u1 : Int) {K : ((List UInt8) × FReader) → Prop} (h : rplain_vc u0.Reader u1 fun r => K (r.1, (⟨r.2, u0.f⟩ : FReader))) : rplainF_vc u0 u1 K :=
 fun z0 => (Exists.elim h fun i1 e1 => Exists.elim e1 fun m1 g1 => ⟨fun x5 x7 yb1 => (⟨yb1.Reader, u0.f⟩ : FReader) = yb1 ∧ i1 x5 x7 yb1.Reader, fun x5 x7 yb1 => m1 x5 x7 yb1.Reader, ⟨rfl, g1.1⟩, fun x5 x7 yb1 z1 => by obtain ⟨e1yb1, z1⟩ := z1; obtain ⟨yb1v1, hx1yb1⟩ : ∃ q, q = yb1.Reader := ⟨_, rfl⟩; rw [← hx1yb1] at e1yb1 z1; subst e1yb1; clear hx1yb1; exact ⟨fun c2 => ⟨((g1.2 x5 x7 yb1v1 z1).1 c2).1, fun y4 z4 => by subst z4; exact fun z5 => ⟨(((g1.2 x5 x7 yb1v1 z1).1 c2).2 _ rfl).1, by first | exact (((g1.2 x5 x7 yb1v1 z1).1 c2).2 _ rfl).2 | exact ⟨⟨rfl, (((g1.2 x5 x7 yb1v1 z1).1 c2).2 _ rfl).2.1⟩, (((g1.2 x5 x7 yb1v1 z1).1 c2).2 _ rfl).2.2⟩⟩⟩, fun c2 => ⟨fun c3 => (((g1.2 x5 x7 yb1v1 z1).2 c2).1 c3), fun c3 => (((g1.2 x5 x7 yb1v1 z1).2 c2).2 c3)⟩⟩⟩)
def sput_vc (u0 : List UInt8) (K : ((List UInt8) × Int) → Prop) : Prop := ((((bcheckS u0) != 0) = true → (K ([], (bcheckS u0)))) ∧ (((bcheckS u0) != 0) = false → (∃ inv47 : (List Int) → Int → Counter → Prop, ∃ mu47 : (List Int) → Int → Counter → Nat, inv47 ([] : List Int) 0 (⟨0, 0⟩ : Counter) ∧ (∀ (x5 : List Int) (x17 : Int) (yb34 : Counter), inv47 x5 x17 yb34 → (((decide (x17 < (u0.length : Int))) = true → ((0 ≤ x17 ∧ x17 < (u0.length : Int)) ∧ (∀ c80, u0[x17.toNat]? = some c80 → (((x5.length + 1) * 1 ≤ 140737488355328) ∧ ((0 ≤ x17 ∧ x17 < (u0.length : Int)) ∧ (∀ c109, u0[x17.toNat]? = some c109 → ((-1000000 ≤ yb34.n ∧ yb34.n ≤ 1000000 ∧ 0 ≤ (c109.toNat : Int) ∧ (c109.toNat : Int) ≤ 97) ∧ (∀ r120, (cnextS yb34 (c109.toNat : Int)) = r120 → ((r120.2.1 = true → ((((x5 ++ [(c80.toNat : Int)]).length + 1) * 1 ≤ 140737488355328) ∧ ((-1000000 ≤ r120.2.2.n ∧ r120.2.2.n ≤ 1000000 ∧ 0 ≤ r120.1 ∧ r120.1 ≤ 97) ∧ (∀ r173, (cnextS r120.2.2 r120.1) = r173 → (inv47 ((x5 ++ [(c80.toNat : Int)]) ++ [r120.1]) (w64 (x17 + 1)) r173.2.2 ∧ mu47 ((x5 ++ [(c80.toNat : Int)]) ++ [r120.1]) (w64 (x17 + 1)) r173.2.2 < mu47 x5 x17 yb34))))) ∧ (r120.2.1 = false → (inv47 (x5 ++ [(c80.toNat : Int)]) (w64 (x17 + 1)) r120.2.2 ∧ mu47 (x5 ++ [(c80.toNat : Int)]) (w64 (x17 + 1)) r120.2.2 < mu47 x5 x17 yb34))))))))))) ∧ ((decide (x17 < (u0.length : Int))) = false → (K (bstr x5, 0))))))))
def sfixed_vc (u0 : List UInt8) (u1 : Int) (K : ((List UInt8) × Int) → Prop) : Prop := ((((bcheckS u0) != 0) = true → (K ([], (bcheckS u0)))) ∧ (((bcheckS u0) != 0) = false → ((((u1 != 48) && (u1 != 49)) = true → (K ([], 3))) ∧ (((u1 != 48) && (u1 != 49)) = false → (∃ inv68 : (List Int) → Int → Int → Prop, ∃ mu68 : (List Int) → Int → Int → Nat, inv68 ([] : List Int) u1 0 ∧ (∀ (x7 : List Int) (x8 : Int) (x24 : Int), inv68 x7 x8 x24 → (((decide (x24 < (u0.length : Int))) = true → ((((x24.tmod 4) == 0) = true → (((x7.length + 1) * 1 ≤ 140737488355328) ∧ ((0 ≤ x24 ∧ x24 < (u0.length : Int)) ∧ (∀ c134, u0[x24.toNat]? = some c134 → ((((x7 ++ [w8 (97 - x8)]).length + 1) * 1 ≤ 140737488355328) ∧ ((0 ≤ x24 ∧ x24 < (u0.length : Int)) ∧ (∀ c163, u0[x24.toNat]? = some c163 → (inv68 ((x7 ++ [w8 (97 - x8)]) ++ [(c134.toNat : Int)]) (c163.toNat : Int) (w64 (x24 + 1)) ∧ mu68 ((x7 ++ [w8 (97 - x8)]) ++ [(c134.toNat : Int)]) (c163.toNat : Int) (w64 (x24 + 1)) < mu68 x7 x8 x24)))))))) ∧ (((x24.tmod 4) == 0) = false → ((0 ≤ x24 ∧ x24 < (u0.length : Int)) ∧ (∀ c185, u0[x24.toNat]? = some c185 → (((x7.length + 1) * 1 ≤ 140737488355328) ∧ ((0 ≤ x24 ∧ x24 < (u0.length : Int)) ∧ (∀ c214, u0[x24.toNat]? = some c214 → (inv68 (x7 ++ [(c185.toNat : Int)]) (c214.toNat : Int) (w64 (x24 + 1)) ∧ mu68 (x7 ++ [(c185.toNat : Int)]) (c214.toNat : Int) (w64 (x24 + 1)) < mu68 x7 x8 x24))))))))) ∧ ((decide (x24 < (u0.length : Int))) = false → (K (bstr x7, 0))))))))))
def bbytes_vc (u0 : List UInt8) (K : ((List Int) × Int) → Prop) : Prop := ((((bcheckS u0) != 0) = true → (K (([] : List Int), (bcheckS u0)))) ∧ (((bcheckS u0) != 0) = false → (((((u0.length : Int).tmod 8) != 0) = true → (K (([] : List Int), 4))) ∧ ((((u0.length : Int).tmod 8) != 0) = false → (∃ inv53 : (List UInt8) → (List Int) → Prop, ∃ mu53 : (List UInt8) → (List Int) → Nat, inv53 u0 ([] : List Int) ∧ (∀ (x0 : List UInt8) (x5 : List Int), inv53 x0 x5 → (((decide ((x0.length : Int) > 0)) = true → ((0 ≤ (8 : Int) ∧ (8 : Int) ≤ (x0.length : Int)) ∧ (((x0.take (8 : Int).toNat).length ≤ 62 ∧ isRow (x0.take (8 : Int).toNat) = true) ∧ (((x5.length + 1) * 1 ≤ 140737488355328) ∧ ((0 ≤ (8 : Int) ∧ (8 : Int) ≤ (x0.length : Int)) ∧ (inv53 (x0.drop (8 : Int).toNat) (x5 ++ [w8 (breadS (x0.take (8 : Int).toNat))]) ∧ mu53 (x0.drop (8 : Int).toNat) (x5 ++ [w8 (breadS (x0.take (8 : Int).toNat))]) < mu53 x0 x5)))))) ∧ ((decide ((x0.length : Int) > 0)) = false → (K (x5, 0))))))))))
def beq_vc (u0 : List Int) (u1 : List Int) (K : Bool → Prop) : Prop := (u0.length ≤ 140737488355328 → (u1.length ≤ 140737488355328 → ((((u0.length : Int) != (u1.length : Int)) = true → (K false)) ∧ (((u0.length : Int) != (u1.length : Int)) = false → (∃ inv37 : Int → Prop, ∃ mu37 : Int → Nat, inv37 0 ∧ (∀ (x13 : Int), inv37 x13 → (((decide (x13 < (u0.length : Int))) = true → ((0 ≤ x13 ∧ x13 < (u0.length : Int)) ∧ (∀ q74, u0[x13.toNat]? = some q74 → ((0 ≤ x13 ∧ x13 < (u1.length : Int)) ∧ (∀ q96, u1[x13.toNat]? = some q96 → (((q74 != q96) = true → (K false)) ∧ ((q74 != q96) = false → (inv37 (w64 (x13 + 1)) ∧ mu37 (w64 (x13 + 1)) < mu37 x13)))))))) ∧ ((decide (x13 < (u0.length : Int))) = false → (K true)))))))))
def hasprefix0_vc (u0 : List UInt8) (u1 : List UInt8) (K : Bool → Prop) : Prop := (((decide ((u0.length : Int) ≥ (u1.length : Int))) = true → ((0 ≤ (u1.length : Int) ∧ (u1.length : Int) ≤ (u0.length : Int)) ∧ (K ((u0.take (u1.length : Int).toNat) == u1)))) ∧ ((decide ((u0.length : Int) ≥ (u1.length : Int))) = false → (K false)))
def hasprefix0 (u0 : List UInt8) (u1 : List UInt8) : Bool :=
 bif decide ((u0.length : Int) ≥ (u1.length : Int)) then ((u0.take (u1.length : Int).toNat) == u1)
  else false
theorem hasprefix0_ok (u0 : List UInt8) (u1 : List UInt8) : hasprefix0_vc u0 u1 (fun r => r = hasprefix0 u0 u1) := ⟨fun h0 => ⟨(by (try simp at h0); omega), (by simp only [hasprefix0, h0, cond_true, cond_false])⟩, fun h0 => (by simp only [hasprefix0, h0, cond_true, cond_false])⟩
def hasprefix_vc (u0 : List UInt8) (u1 : List UInt8) (K : Bool → Prop) : Prop := (K (hasprefix0 u0 u1))
def hasprefix (u0 : List UInt8) (u1 : List UInt8) : Bool :=
 (hasprefix0 u0 u1)
theorem hasprefix_ok (u0 : List UInt8) (u1 : List UInt8) : hasprefix_vc u0 u1 (fun r => r = hasprefix u0 u1) := (by rfl)
def fname_vc (u0 : Frame) (K : (List UInt8) → Prop) : Prop := (u0.Data.length ≤ 140737488355328 → (((!u0.Long) = true → ((0 ≤ (11 : Int) ∧ (11 : Int) ≤ 64 ∧ 0 ≤ (wu64 u0.ID) ∧ (wu64 u0.ID) < 2 ^ 62) ∧ ((((bwriteS (wu64 u0.ID) 11).length : Int) + ((fbit u0.Remote).length : Int) ≤ 9223372036854775807) ∧ (((((bwriteS (wu64 u0.ID) 11) ++ (fbit u0.Remote)).length : Int) + (([48] : List UInt8).length : Int) ≤ 9223372036854775807) ∧ (K (((bwriteS (wu64 u0.ID) 11) ++ (fbit u0.Remote)) ++ ([48] : List UInt8))))))) ∧ ((!u0.Long) = false → ((0 ≤ (11 : Int) ∧ (11 : Int) ≤ 64 ∧ 0 ≤ (wu64 (bShr .i64 u0.ID 18)) ∧ (wu64 (bShr .i64 u0.ID 18)) < 2 ^ 62) ∧ ((((bwriteS (wu64 (bShr .i64 u0.ID 18)) 11).length : Int) + (([49, 49] : List UInt8).length : Int) ≤ 9223372036854775807) ∧ ((0 ≤ (18 : Int) ∧ (18 : Int) ≤ 64 ∧ 0 ≤ (wu64 u0.ID) ∧ (wu64 u0.ID) < 2 ^ 62) ∧ (((((bwriteS (wu64 (bShr .i64 u0.ID 18)) 11) ++ ([49, 49] : List UInt8)).length : Int) + ((bwriteS (wu64 u0.ID) 18).length : Int) ≤ 9223372036854775807) ∧ ((((((bwriteS (wu64 (bShr .i64 u0.ID 18)) 11) ++ ([49, 49] : List UInt8)) ++ (bwriteS (wu64 u0.ID) 18)).length : Int) + ((fbit u0.Remote).length : Int) ≤ 9223372036854775807) ∧ (K ((((bwriteS (wu64 (bShr .i64 u0.ID 18)) 11) ++ ([49, 49] : List UInt8)) ++ (bwriteS (wu64 u0.ID) 18)) ++ (fbit u0.Remote)))))))))))
def fcheckfr_vc (u0 : Frame) (K : Int → Prop) : Prop := (u0.Data.length ≤ 140737488355328 → (((((decide (u0.ID < 0)) || ((!u0.Long) && (decide (u0.ID > 2047)))) || (decide (u0.ID > 536870911))) = true → (K 3)) ∧ ((((decide (u0.ID < 0)) || ((!u0.Long) && (decide (u0.ID > 2047)))) || (decide (u0.ID > 536870911))) = false → (((u0.Remote && (u0.Fast || (decide ((u0.Data.length : Int) > 0)))) = true → (K 4)) ∧ ((u0.Remote && (u0.Fast || (decide ((u0.Data.length : Int) > 0)))) = false → (((((decide (u0.Size < 0)) || (decide (u0.Size > 8))) || ((!u0.Remote) && (u0.Size != 0))) = true → (K 3)) ∧ ((((decide (u0.Size < 0)) || (decide (u0.Size > 8))) || ((!u0.Remote) && (u0.Size != 0))) = false → ((((decide ((u0.Data.length : Int) > 64)) || ((!u0.Fast) && (decide ((u0.Data.length : Int) > 8)))) = true → (K 2)) ∧ (((decide ((u0.Data.length : Int) > 64)) || ((!u0.Fast) && (decide ((u0.Data.length : Int) > 8)))) = false → (((!(scontainsS fsizes (u0.Data.length : Int))) = true → (K 4)) ∧ ((!(scontainsS fsizes (u0.Data.length : Int))) = false → (K 0))))))))))))
def fcheckfr (u0 : Frame) : Int :=
 bif ((decide (u0.ID < 0)) || ((!u0.Long) && (decide (u0.ID > 2047)))) || (decide (u0.ID > 536870911)) then 3
  else bif u0.Remote && (u0.Fast || (decide ((u0.Data.length : Int) > 0))) then 4
  else bif ((decide (u0.Size < 0)) || (decide (u0.Size > 8))) || ((!u0.Remote) && (u0.Size != 0)) then 3
  else bif (decide ((u0.Data.length : Int) > 64)) || ((!u0.Fast) && (decide ((u0.Data.length : Int) > 8))) then 2
  else bif !(scontainsS fsizes (u0.Data.length : Int)) then 4
  else 0
theorem fcheckfr_ok (u0 : Frame) : fcheckfr_vc u0 (fun r => r = fcheckfr u0) := (fun _ => ⟨fun h0 => (by simp only [fcheckfr, h0, cond_true, cond_false]), fun h0 => ⟨fun h1 => (by simp only [fcheckfr, h0, h1, cond_true, cond_false]), fun h1 => ⟨fun h2 => (by simp only [fcheckfr, h0, h1, h2, cond_true, cond_false]), fun h2 => ⟨fun h3 => (by simp only [fcheckfr, h0, h1, h2, h3, cond_true, cond_false]), fun h3 => ⟨fun h4 => (by simp only [fcheckfr, h0, h1, h2, h3, h4, cond_true, cond_false]), fun h4 => (by simp only [fcheckfr, h0, h1, h2, h3, h4, cond_true, cond_false])⟩⟩⟩⟩⟩)
def fcount_vc (u0 : Int) (K : (List UInt8) → Prop) : Prop := ((0 ≤ (3 : Int) ∧ (3 : Int) ≤ 64 ∧ 0 ≤ (wu64 (bXor .i64 (u0.tmod 8) (bShr .i64 (u0.tmod 8) 1))) ∧ (wu64 (bXor .i64 (u0.tmod 8) (bShr .i64 (u0.tmod 8) 1))) < 2 ^ 62) ∧ ((([49] : List UInt8).length = 1) ∧ ((((bwriteS (wu64 (bXor .i64 (u0.tmod 8) (bShr .i64 (u0.tmod 8) 1))) 3).length : Int) + ((fbit (((count1S (bwriteS (wu64 (bXor .i64 (u0.tmod 8) (bShr .i64 (u0.tmod 8) 1))) 3) ([49] : List UInt8)).tmod 2) == 1)).length : Int) ≤ 9223372036854775807) ∧ (K ((bwriteS (wu64 (bXor .i64 (u0.tmod 8) (bShr .i64 (u0.tmod 8) 1))) 3) ++ (fbit (((count1S (bwriteS (wu64 (bXor .i64 (u0.tmod 8) (bShr .i64 (u0.tmod 8) 1))) 3) ([49] : List UInt8)).tmod 2) == 1)))))))
def kindS (i : Int) : Kind := ([⟨15, 17817, 0, 0⟩, ⟨17, 92251, 65536, 0⟩, ⟨21, 1058969, 1048576, 0⟩, ⟨8, 47, 255, 255⟩, ⟨16, 4129, 65535, 0⟩] : List Kind).getD i.toNat ⟨0, 0, 0, 0⟩
def isKind (i : Int) : Bool := decide (0 ≤ i) && decide (i < 5)
theorem kind_cases {i : Int} (h : 0 ≤ i ∧ i < 5) : i = 0 ∨ i = 1 ∨ i = 2 ∨ i = 3 ∨ i = 4 := by omega
theorem kind_ok {i : Int} (h : 0 ≤ i ∧ i < 5) : okKindS (kindS i) := by
 rcases kind_cases h with rfl | rfl | rfl | rfl | rfl <;> (unfold okKindS; decide +kernel)
theorem kind_size {i : Int} (h : 0 ≤ i ∧ i < 5) : 8 ≤ (kindS i).Size ∧ (kindS i).Size ≤ 21 := by
 rcases kind_cases h with rfl | rfl | rfl | rfl | rfl <;> decide
def sumN (i : Int) (b : List UInt8) : Nat := crcF (kindS i).Size.toNat (kindS i).Poly.toNat (kindS i).From.toNat b ^^^ (kindS i).End.toNat
def sizeN (i : Int) : Nat := (kindS i).Size.toNat
def sumR (i : Int) (b : List UInt8) : List UInt8 := wr (sizeN i) (sumN i b)
theorem sumN_lt {i : Int} (h : 0 ≤ i ∧ i < 5) (b : List UInt8) : sumN i b < 2 ^ sizeN i := by
 obtain ⟨h1, h2, h3, h4, h5, h6, h7, h8, _⟩ := kind_ok h
 have c : ∀ x : Int, 0 ≤ x → x < 2 ^ (kindS i).Size.toNat → x.toNat < 2 ^ (kindS i).Size.toNat := fun x hx hl => by
  have : (x.toNat : Int) < ((2 ^ (kindS i).Size.toNat : Nat) : Int) := by push_cast; omega
  exact_mod_cast this
 exact Nat.xor_lt_two_pow (crcF_lt (c _ h3 h4) b (c _ h5 h6)) (c _ h7 h8)
def csumS (i : Int) (b : List UInt8) : List UInt8 × Int := if bcheckS b ≠ 0 then ([], bcheckS b) else if isKind i = true then (sumR i b, 0) else ([], 8)
theorem bad_kind (i : Int) : (decide (i < 0) || decide (i ≥ 5)) = !isKind i := by
 unfold isKind
 by_cases h : i < 0 <;> by_cases h2 : i ≥ 5 <;> simp [h, h2] <;> omega
theorem isKind_iff {i : Int} : isKind i = true ↔ 0 ≤ i ∧ i < 5 := by simp [isKind]
theorem csum_ok (i : Int) (b : List UInt8) : csum_vc i b (fun r => r = csumS i b) := by
 unfold csum_vc csumS
 rw [bad_kind]
 refine ⟨fun h => ?_, fun h => ⟨fun h1 => ?_, fun h1 => ?_⟩⟩
 · have h : bcheckS b ≠ 0 := by simpa using h
   rw [if_pos h]
 · have h : ¬ bcheckS b ≠ 0 := by simpa using h
   have h1 : isKind i = false := by simpa using h1
   rw [if_neg h, if_neg (by rw [h1]; simp)]
 · have h : ¬ bcheckS b ≠ 0 := by simpa using h
   have h1 : isKind i = true := by simpa using h1
   have hk := isKind_iff.1 h1
   have hb := ((bcheck_zero b).1 (by simpa using h)).1
   rw [if_neg h, if_pos h1]
   have hl := sumN_lt hk b
   have hsz := kind_size hk
   have h2 : (2 : Nat) ^ sizeN i ≤ 2 ^ 21 := Nat.pow_le_pow_right (by omega) (by unfold sizeN; omega)
   have p21 : (2 : Nat) ^ 21 = 2097152 := rfl
   have p62 : (2 : Int) ^ 62 = 4611686018427387904 := rfl
   have hok := kind_ok hk
   have e : ksumS (kindS i) b = ((sumN i b : Nat) : Int) := rfl
   have e1 : (ksumS (kindS i) b).toNat = sumN i b := by rw [e]; rfl
   have key : (okKindS (kindS i) ∧ b.length ≤ 1000000) ∧ (0 ≤ (kindS i).Size ∧ (kindS i).Size ≤ 64 ∧ 0 ≤ ksumS (kindS i) b ∧ ksumS (kindS i) b < 2 ^ 62) ∧ (bwriteS (ksumS (kindS i) b) (kindS i).Size, (0 : Int)) = (sumR i b, 0) := by
    refine ⟨⟨hok, by omega⟩, ⟨by omega, by omega, by rw [e]; omega, by rw [e]; omega⟩, ?_⟩
    unfold bwriteS sumR sizeN
    rw [e1]
   refine ⟨hk, ?_⟩
   rcases kind_cases hk with rfl | rfl | rfl | rfl | rfl <;> exact key
def ofb : List Int → List UInt8
 | [] => []
 | x :: r => wr 8 x.toNat ++ ofb r
theorem ofb_append (a b : List Int) : ofb (a ++ b) = ofb a ++ ofb b := by
 induction a with
 | nil => rfl
 | cons x r ih => simp [ofb, ih]
theorem ofb_length (a : List Int) : (ofb a).length = 8 * a.length := by
 induction a with
 | nil => rfl
 | cons x r ih => rw [ofb, List.length_append, wr_length, ih, List.length_cons]; omega
theorem ofb_row (a : List Int) : isRow (ofb a) = true := by
 induction a with
 | nil => rfl
 | cons x r ih => rw [ofb, isRow_append, wr_row, ih]; rfl
def bofS (l : List Int) : List UInt8 × Int := if 125 < l.length then ([], 2) else (ofb l, 0)
theorem bof_ok (l : List Int) (h : ∀ x ∈ l, 0 ≤ x ∧ x ≤ 255) : bof_vc l (fun r => r = bofS l) := by
 intro hl
 refine ⟨fun h1 => ?_, fun h1 => ?_⟩
 · unfold bofS
   rw [if_pos (by simp at h1; omega)]
 · have hn : ¬ 125 < l.length := by simp at h1; omega
   have hS : bofS l = (ofb l, 0) := by unfold bofS; rw [if_neg hn]
   rw [hS]
   refine ⟨fun i y => ∃ k : Nat, i = k ∧ k ≤ l.length ∧ y = ofb (l.take k), fun i _ => l.length - i.toNat, ⟨0, rfl, by omega, rfl⟩, ?_⟩
   rintro _ _ ⟨k, rfl, hk, rfl⟩
   refine ⟨fun h2 => ⟨by simp at h2; omega, fun q hq => ?_⟩, fun h2 => ?_⟩
   · rw [Int.toNat_natCast] at hq
     have hkl : k < l.length := (List.getElem?_eq_some_iff.1 hq).1
     have hqb := h q (List.mem_of_getElem? hq)
     have ew : w64 ((k : Int) + 1) = ((k + 1 : Nat) : Int) := w64_succ k (by omega)
     have e8 : wu64 q = q := wu64_eq q (by omega)
     have p62 : (2 : Int) ^ 62 = 4611686018427387904 := rfl
     have eb : bwriteS q 8 = wr 8 q.toNat := rfl
     rw [ew, e8, eb]
     refine ⟨by omega, ?_, ⟨k + 1, rfl, by omega, ?_⟩, by (try dsimp only); omega⟩
     · rw [ofb_length, wr_length, List.length_take]; omega
     · rw [take_next l k q hq, ofb_append]
       simp [ofb]
   · have : k = l.length := by simp at h2; omega
     subst this
     rw [List.take_length]
theorem cnextS_bit (c : Counter) (b : UInt8) (h : isBit b = true) : cnextS c (b.toNat : Int) = (((flip b).toNat : Int), decide ((nx c b).n = 5), nx c b) := by
 have e : (97 : Int) - (b.toNat : Int) = ((flip b).toNat : Int) := by rcases isBit_or h with rfl | rfl <;> rfl
 unfold cnextS nx
 rw [e]
 split
 · rfl
 · rfl
theorem nx_last (c : Counter) (b : UInt8) : (nx c b).last = (b.toNat : Int) := by
 unfold nx
 split
 · rename_i h; exact h.symm
 · rfl
theorem nx_n (c : Counter) (b : UInt8) : (nx c b).n = if (b.toNat : Int) = c.last then c.n + 1 else 1 := by unfold nx; split <;> rfl
theorem nx_bound (c : Counter) (b : UInt8) (k : Int) (h : 0 ≤ c.n ∧ c.n ≤ k) : 1 ≤ (nx c b).n ∧ (nx c b).n ≤ k + 1 := by rw [nx_n]; split <;> omega
theorem flip_ne (b : UInt8) : (flip b).toNat ≠ b.toNat := by
 unfold flip
 split
 · rename_i h; subst h; decide
 · rename_i h
   intro e
   exact h (UInt8.toNat_inj.1 e).symm
theorem nx_flip (c : Counter) (b : UInt8) : nx (nx c b) (flip b) = ⟨((flip b).toNat : Int), 1⟩ := by
 have h : ¬ (((flip b).toNat : Int) = (nx c b).last) := by
  rw [nx_last]
  have := flip_ne b
  omega
 unfold nx at h ⊢
 rw [if_neg h]
def Rok (r : Reader) : Prop := 0 ≤ r.At ∧ r.At ≤ (r.Row.length : Int) ∧ r.Row.length ≤ 1000000 ∧ isRow r.Row = true ∧ 0 ≤ r.c.n ∧ r.c.n ≤ 4
def rloop : Nat → List UInt8 → Reader → List UInt8 × Reader
 | 0, out, r => if r.Code ≠ 0 then ([], r) else (out, r)
 | k + 1, out, r =>
  if (rbitS r).2.Code ≠ 0 then ([], (rbitS r).2) else
  if (cnextRS (rbitS r).2 (rbitS r).1).2.1 = true then
   rloop k (out ++ bstr [(rbitS r).1]) (cnextRS (if (rbitS (cnextRS (rbitS r).2 (rbitS r).1).2.2).2.Code = 0 ∧ (rbitS (cnextRS (rbitS r).2 (rbitS r).1).2.2).1 ≠ (cnextRS (rbitS r).2 (rbitS r).1).1 then
    ⟨(rbitS (cnextRS (rbitS r).2 (rbitS r).1).2.2).2.Row, (rbitS (cnextRS (rbitS r).2 (rbitS r).1).2.2).2.At, 5, (rbitS (cnextRS (rbitS r).2 (rbitS r).1).2.2).2.c⟩ else (rbitS (cnextRS (rbitS r).2 (rbitS r).1).2.2).2) (cnextRS (rbitS r).2 (rbitS r).1).1).2.2
  else rloop k (out ++ bstr [(rbitS r).1]) (cnextRS (rbitS r).2 (rbitS r).1).2.2
def rtakeS (r : Reader) (n : Int) : List UInt8 × Reader := rloop n.toNat [] r
theorem rbitS_spec (r : Reader) (h : 0 ≤ r.At ∧ r.At ≤ (r.Row.length : Int) ∧ isRow r.Row = true) : ∃ b, isBit b = true ∧ (rbitS r).1 = (b.toNat : Int) ∧ (rbitS r).2.Row = r.Row ∧ (rbitS r).2.c = r.c ∧ 0 ≤ (rbitS r).2.At ∧ (rbitS r).2.At ≤ (r.Row.length : Int) ∧ r.At ≤ (rbitS r).2.At ∧ ((rbitS r).2.Code = 0 → r.Code = 0 ∧ (rbitS r).2.At = r.At + 1 ∧ r.Row[r.At.toNat]? = some b) := by
 unfold rbitS
 split
 · rename_i hc
   exact ⟨48, rfl, rfl, rfl, rfl, h.1, h.2.1, Int.le_refl _, fun e => absurd e hc⟩
 · rename_i hc
   split
   · rename_i hn
     exact ⟨48, rfl, rfl, rfl, rfl, h.1, h.2.1, Int.le_refl _, fun e => by cases e⟩
   · rename_i b hb
     have hl := (List.getElem?_eq_some_iff.1 hb).1
     exact ⟨b, List.all_eq_true.1 h.2.2 b (List.mem_of_getElem? hb), rfl, rfl, rfl, by (try dsimp only); omega, by (try dsimp only); omega, by (try dsimp only); omega, fun e => ⟨e, rfl, hb⟩⟩
theorem cnextRS_bit (r : Reader) (b : UInt8) (h : isBit b = true) : cnextRS r (b.toNat : Int) = (((flip b).toNat : Int), decide ((nx r.c b).n = 5), ⟨r.Row, r.At, r.Code, nx r.c b⟩) := by
 unfold cnextRS
 rw [cnextS_bit r.c b h]
theorem bit97 (b : UInt8) (h : isBit b = true) : (0 : Int) ≤ (b.toNat : Int) ∧ (b.toNat : Int) ≤ 97 := by rcases isBit_or h with e | e <;> rw [e] <;> decide
theorem rtake_ok (r : Reader) (n : Int) (h : Rok r ∧ n ≤ 9223372036854775807) : rtake_vc r n (fun q => q = rtakeS r n) := by
 obtain ⟨hR, hn⟩ := h
 refine ⟨fun x i y => ∃ k : Nat, i = k ∧ (k : Int) ≤ max n 0 ∧ Rok y ∧ (x.length : Int) ≤ y.At ∧ rloop (n.toNat - k) (bstr x) y = rtakeS r n, fun _ i _ => n.toNat - i.toNat, ⟨0, rfl, by omega, hR, by simpa using hR.1, rfl⟩, ?_⟩
 rintro x _ y ⟨k, rfl, hk, hy, hx, hl⟩
 obtain ⟨a0, a1, a2, a3, a4, a5⟩ := hy
 have ew : (k : Int) < n → w64 ((k : Int) + 1) = ((k + 1 : Nat) : Int) := fun _ => w64_succ k (by omega)
 refine ⟨fun h1 => ⟨⟨a0, a1, a2⟩, ?_⟩, fun h1 => ⟨fun h2 => ?_, fun h2 => ?_⟩⟩
 · rintro _ rfl
   have hkn : (k : Int) < n := by simpa using h1
   rw [ew hkn]
   obtain ⟨m, hm⟩ : ∃ m, n.toNat - k = m + 1 := ⟨n.toNat - k - 1, by omega⟩
   have hm2 : n.toNat - (k + 1) = m := by omega
   rw [hm, rloop] at hl
   obtain ⟨b, hb, e1, e2, e3, e4, e5, e6, e7⟩ := rbitS_spec y ⟨a0, a1, a3⟩
   refine ⟨fun h2 => ?_, fun h2 => ?_⟩
   · rw [if_pos (by simpa using h2)] at hl
     exact hl
   · have h2 : (rbitS y).2.Code = 0 := by simpa using h2
     rw [if_neg (by simpa using h2)] at hl
     obtain ⟨c1, c2, c3⟩ := e7 h2
     rw [e1, cnextRS_bit _ b hb, e3, e2] at hl
     have hnb := nx_bound y.c b 4 ⟨a4, a5⟩
     have h97 := bit97 b hb
     refine ⟨by omega, ⟨by rw [e3]; omega, by rw [e3]; omega, by rw [e1]; exact h97.1, by rw [e1]; exact h97.2⟩, ?_⟩
     rw [e1, cnextRS_bit _ b hb, e3, e2]
     rintro _ rfl
     dsimp only at hl ⊢
     have hx2 : ((x ++ [(b.toNat : Int)]).length : Int) ≤ (rbitS y).2.At := by simp; omega
     have hbs : bstr (x ++ [(b.toNat : Int)]) = bstr x ++ bstr [(b.toNat : Int)] := bstr_append _ _
     have hf97 := bit97 (flip b) (isBit_flip b)
     refine ⟨fun h3 => ⟨⟨e4, e5, a2⟩, ?_⟩, fun h3 => ?_⟩
     · have h3' := of_decide_eq_true h3
       rw [if_pos h3] at hl
       obtain ⟨t, ht⟩ : ∃ t, t = rbitS ⟨y.Row, (rbitS y).2.At, (rbitS y).2.Code, nx y.c b⟩ := ⟨_, rfl⟩
       obtain ⟨b2, hb2, f1, f2, f3, f4, f5, f6, f7⟩ := rbitS_spec ⟨y.Row, (rbitS y).2.At, (rbitS y).2.Code, nx y.c b⟩ ⟨e4, e5, a3⟩
       rw [← ht] at f1 f2 f3 f4 f5 f6 f7 hl ⊢
       rintro _ rfl
       have hnn : t.2.c.n = 5 := by rw [f3]; exact h3'
       have hfl : nx t.2.c (flip b) = ⟨((flip b).toNat : Int), 1⟩ := by rw [f3]; exact nx_flip _ _
       refine ⟨fun h4 => ⟨⟨by (try dsimp only); omega, by (try dsimp only); omega, hf97.1, hf97.2⟩, ?_⟩, fun h4 => ⟨⟨by omega, by omega, hf97.1, hf97.2⟩, ?_⟩⟩
       · have h4' : t.2.Code = 0 ∧ t.1 ≠ ((flip b).toNat : Int) := by simpa using h4
         rw [if_pos h4'] at hl
         rintro _ rfl
         refine ⟨⟨k + 1, rfl, by omega, ?_, ?_, ?_⟩, by (try dsimp only); omega⟩
         · rw [cnextRS_bit _ _ (isBit_flip b)]
           dsimp only
           rw [hfl, f2]
           exact ⟨by (try dsimp only); omega, by (try dsimp only at *); omega, a2, a3, by show (0 : Int) ≤ 1; decide, by show (1 : Int) ≤ 4; decide⟩
         · rw [cnextRS_bit _ _ (isBit_flip b)]
           (try dsimp only at *)
           omega
         · rw [hm2, hbs]
           exact hl
       · have h4' : ¬ (t.2.Code = 0 ∧ t.1 ≠ ((flip b).toNat : Int)) := by
           intro hc
           have : ((t.2.Code == 0) && (t.1 != ((flip b).toNat : Int))) = true := by simpa using hc
           rw [this] at h4
           cases h4
         rw [if_neg h4'] at hl
         rintro _ rfl
         refine ⟨⟨k + 1, rfl, by omega, ?_, ?_, ?_⟩, by (try dsimp only); omega⟩
         · rw [cnextRS_bit _ _ (isBit_flip b)]
           dsimp only
           rw [hfl, f2]
           exact ⟨by (try dsimp only); omega, by (try dsimp only at *); omega, a2, a3, by show (0 : Int) ≤ 1; decide, by show (1 : Int) ≤ 4; decide⟩
         · rw [cnextRS_bit _ _ (isBit_flip b)]
           (try dsimp only at *)
           omega
         · rw [hm2, hbs]
           exact hl
     · have h3' := of_decide_eq_false h3
       rw [if_neg (by simpa using h3)] at hl
       refine ⟨⟨k + 1, rfl, by omega, ⟨e4, e5, a2, a3, by (try dsimp only); omega, by (try dsimp only); omega⟩, hx2, ?_⟩, by (try dsimp only); omega⟩
       rw [hm2, hbs]
       exact hl
 all_goals
  have hkn : n.toNat - k = 0 := by have : n ≤ (k : Int) := by simpa using h1
                                   omega
  rw [hkn, rloop] at hl
 · rw [if_pos (by simpa using h2)] at hl
   exact hl
 · rw [if_neg (by simpa using h2)] at hl
   exact hl
theorem rbitS_mk (row : List UInt8) (at_ code : Int) (c : Counter) : rbitS ⟨row, at_, code, c⟩ = if code ≠ 0 then (48, ⟨row, at_, code, c⟩) else match row[at_.toNat]? with
  | none => (48, ⟨row, at_, 7, c⟩)
  | some b => ((b.toNat : Int), ⟨row, at_ + 1, code, c⟩) := rfl
theorem rbitS_bad (r : Reader) (h : r.Code ≠ 0) : rbitS r = (48, r) := by unfold rbitS; rw [if_pos h]
theorem rloop_bad (n : Nat) (out : List UInt8) (r : Reader) (h : r.Code ≠ 0) : rloop n out r = ([], r) := by
 cases n with
 | zero => rw [rloop, if_pos h]
 | succ n => rw [rloop, rbitS_bad r h, if_pos h]
theorem rloop_take : ∀ (n : Nat) (r : Reader) (out : List UInt8), Rok r → r.Code = 0 →
  match takeF r.c (r.Row.drop r.At.toNat) n with
  | .ok q => rloop n out r = (out ++ q.1, ⟨r.Row, (r.Row.length : Int) - (q.2.1.length : Int), 0, q.2.2⟩) ∧ q.2.1.length ≤ r.Row.length ∧ q.2.1 = r.Row.drop (r.Row.length - q.2.1.length) ∧ r.At.toNat + n + q.2.1.length ≤ r.Row.length ∧ 0 ≤ q.2.2.n ∧ q.2.2.n ≤ 4 ∧ q.1.length = n
  | .error e => ∃ q, rloop n out r = ([], q) ∧ q.Code = e ∧ e ≠ 0 ∧ q.Row = r.Row ∧ Rok q := by
 intro n
 induction n with
 | zero =>
  intro r out hR hc
  obtain ⟨a0, a1, a2, a3, a4, a5⟩ := hR
  rw [takeF, rloop, if_neg (by simpa using hc)]
  dsimp only
  have e : (r.Row.length : Int) - ((r.Row.drop r.At.toNat).length : Int) = r.At := by rw [List.length_drop]; omega
  rw [e, List.append_nil]
  refine ⟨by rw [← hc], by rw [List.length_drop]; omega, ?_, by rw [List.length_drop]; omega, a4, a5, rfl⟩
  rw [List.length_drop]
  congr 1
  omega
 | succ n ih =>
  intro r out hR hc
  obtain ⟨a0, a1, a2, a3, a4, a5⟩ := hR
  obtain ⟨b, hb, e1, e2, e3, e4, e5, e6, e7⟩ := rbitS_spec r ⟨a0, a1, a3⟩
  rw [rloop]
  by_cases hcode : (rbitS r).2.Code = 0
  · obtain ⟨c1, c2, c3⟩ := e7 hcode
    have hd := drop_this r.Row r.At.toNat b c3
    have hlt := (List.getElem?_eq_some_iff.1 c3).1
    rw [if_neg (by simpa using hcode), e1, cnextRS_bit _ b hb, e3, e2, hd, takeF_cons, bstr_one]
    dsimp only
    have hat : (rbitS r).2.At.toNat = r.At.toNat + 1 := by omega
    by_cases h5 : (nx r.c b).n = 5
    · rw [if_pos h5, if_pos (by simpa using h5)]
      obtain ⟨t, ht⟩ : ∃ t, t = rbitS ⟨r.Row, (rbitS r).2.At, (rbitS r).2.Code, nx r.c b⟩ := ⟨_, rfl⟩
      rw [← ht]
      have ht2 : t = match r.Row[r.At.toNat + 1]? with | none => (48, ⟨r.Row, (rbitS r).2.At, 7, nx r.c b⟩) | some b2 => ((b2.toNat : Int), ⟨r.Row, (rbitS r).2.At + 1, 0, nx r.c b⟩) := by
       rw [ht, rbitS_mk, hcode, hat, if_neg (by simp)]
      cases hr : r.Row[r.At.toNat + 1]? with
      | none =>
       rw [hr] at ht2
       dsimp only at ht2
       have hnil : r.Row.drop (r.At.toNat + 1) = [] := List.drop_eq_nil_of_le (by rw [List.getElem?_eq_none_iff] at hr; exact hr)
       rw [hnil]
       dsimp only
       rw [ht2]
       dsimp only
       rw [if_neg (by simp), cnextRS_bit _ _ (isBit_flip b)]
       dsimp only
       rw [nx_flip]
       have hRq : Rok ⟨r.Row, (rbitS r).2.At, 7, ⟨((flip b).toNat : Int), 1⟩⟩ := ⟨e4, e5, a2, a3, by show (0 : Int) ≤ 1; decide, by show (1 : Int) ≤ 4; decide⟩
       refine ⟨⟨r.Row, (rbitS r).2.At, 7, ⟨((flip b).toNat : Int), 1⟩⟩, ?_, rfl, by decide, rfl, hRq⟩
       exact rloop_bad _ _ _ (by simp)
      | some b2 =>
       rw [hr] at ht2
       dsimp only at ht2
       have hd2 := drop_this r.Row (r.At.toNat + 1) b2 hr
       have hlt2 := (List.getElem?_eq_some_iff.1 hr).1
       rw [hd2]
       dsimp only
       rw [ht2]
       dsimp only
       by_cases hy : b2 = flip b
       · rw [if_pos hy, if_neg (by subst hy; simp), cnextRS_bit _ _ (isBit_flip b)]
         dsimp only
         rw [nx_flip]
         have hRq : Rok ⟨r.Row, (rbitS r).2.At + 1, 0, ⟨((flip b).toNat : Int), 1⟩⟩ := ⟨by (try dsimp only); omega, by (try dsimp only); omega, a2, a3, by show (0 : Int) ≤ 1; decide, by show (1 : Int) ≤ 4; decide⟩
         have := ih ⟨r.Row, (rbitS r).2.At + 1, 0, ⟨((flip b).toNat : Int), 1⟩⟩ (out ++ [b]) hRq rfl
         dsimp only at this
         have hat2 : ((rbitS r).2.At + 1).toNat = r.At.toNat + 1 + 1 := by omega
         rw [hat2] at this
         cases hT : takeF ⟨((flip b).toNat : Int), 1⟩ (r.Row.drop (r.At.toNat + 1 + 1)) n with
         | ok q =>
          rw [hT] at this
          dsimp only at this
          show _ ∧ _
          dsimp only [Except.map]
          obtain ⟨g1, g2, g3, g4, g5, g6, g7⟩ := this
          refine ⟨by rw [g1]; simp, g2, g3, by omega, g5, g6, by simp [g7]⟩
         | error e =>
          rw [hT] at this
          exact this
       · have hy2 : ¬ (b2.toNat : Int) = ((flip b).toNat : Int) := fun h => hy (UInt8.toNat_inj.1 (by omega))
         rw [if_neg hy, if_pos ⟨rfl, hy2⟩, cnextRS_bit _ _ (isBit_flip b)]
         dsimp only
         rw [nx_flip]
         have hRq : Rok ⟨r.Row, (rbitS r).2.At + 1, 5, ⟨((flip b).toNat : Int), 1⟩⟩ := ⟨by (try dsimp only); omega, by (try dsimp only); omega, a2, a3, by show (0 : Int) ≤ 1; decide, by show (1 : Int) ≤ 4; decide⟩
         refine ⟨⟨r.Row, (rbitS r).2.At + 1, 5, ⟨((flip b).toNat : Int), 1⟩⟩, ?_, rfl, by decide, rfl, hRq⟩
         exact rloop_bad _ _ _ (by simp)
    · rw [if_neg h5, if_neg (by simpa using h5), hcode]
      have hnb := nx_bound r.c b 4 ⟨a4, a5⟩
      have hRq : Rok ⟨r.Row, (rbitS r).2.At, 0, nx r.c b⟩ := ⟨e4, e5, a2, a3, by (try dsimp only); omega, by (try dsimp only); omega⟩
      have := ih ⟨r.Row, (rbitS r).2.At, 0, nx r.c b⟩ (out ++ [b]) hRq rfl
      dsimp only at this
      rw [hat] at this
      cases hT : takeF (nx r.c b) (r.Row.drop (r.At.toNat + 1)) n with
      | ok q =>
       rw [hT] at this
       dsimp only at this
       show _ ∧ _
       dsimp only [Except.map]
       obtain ⟨g1, g2, g3, g4, g5, g6, g7⟩ := this
       refine ⟨by rw [g1]; simp, g2, g3, by omega, g5, g6, by simp [g7]⟩
      | error e =>
       rw [hT] at this
       exact this
  · rw [if_pos (by simpa using hcode)]
    have hn : r.Row[r.At.toNat]? = none ∧ (rbitS r).2 = ⟨r.Row, r.At, 7, r.c⟩ := by
     unfold rbitS at hcode ⊢
     rw [if_neg (by simpa using hc)] at hcode ⊢
     cases hr : r.Row[r.At.toNat]? with
     | none => exact ⟨rfl, rfl⟩
     | some b2 => rw [hr] at hcode; exact absurd hc hcode
    have hnil : r.Row.drop r.At.toNat = [] := List.drop_eq_nil_of_le (by have := hn.1; rw [List.getElem?_eq_none_iff] at this; exact this)
    rw [hnil, hn.2]
    exact ⟨_, rfl, rfl, by decide, rfl, a0, a1, a2, a3, a4, a5⟩
def sputS (b : List UInt8) : List UInt8 × Int := if bcheckS b ≠ 0 then ([], bcheckS b) else (putF ⟨0, 0⟩ b, 0)
theorem sput_ok (b : List UInt8) : sput_vc b (fun r => r = sputS b) := by
 refine ⟨fun h => ?_, fun h => ?_⟩
 · have h : bcheckS b ≠ 0 := by simpa using h
   unfold sputS
   rw [if_pos h]
 have h : ¬ bcheckS b ≠ 0 := by simpa using h
 obtain ⟨hl, hr⟩ := (bcheck_zero b).1 (by simpa using h)
 have hS : sputS b = (putF ⟨0, 0⟩ b, 0) := by unfold sputS; rw [if_neg h]
 rw [hS]
 refine ⟨fun x i c => ∃ k : Nat, i = k ∧ k ≤ b.length ∧ x.length ≤ 2 * k ∧ 0 ≤ c.n ∧ c.n ≤ 4 ∧ bstr x ++ putF c (b.drop k) = putF ⟨0, 0⟩ b, fun _ i _ => b.length - i.toNat, ⟨0, rfl, by omega, by simp, by decide, by decide, rfl⟩, ?_⟩
 rintro x _ c ⟨k, rfl, hk, hx, h0, h4, hp⟩
 refine ⟨fun h1 => ?_, fun h1 => ?_⟩
 · refine ⟨by simp at h1; omega, fun q hq => ?_⟩
   rw [Int.toNat_natCast] at hq
   have hkl : k < b.length := (List.getElem?_eq_some_iff.1 hq).1
   have hqb : isBit q = true := List.all_eq_true.1 hr q (List.mem_of_getElem? hq)
   refine ⟨by omega, by omega, fun q2 hq2 => ?_⟩
   rw [Int.toNat_natCast] at hq2
   obtain rfl : q2 = q := Option.some.inj (hq2.symm.trans hq)
   have hb := nx_bound c q2 4 ⟨h0, h4⟩
   have hq97 : (0 : Int) ≤ (q2.toNat : Int) ∧ (q2.toNat : Int) ≤ 97 := by rcases isBit_or hqb with rfl | rfl <;> decide
   have ew : w64 ((k : Int) + 1) = ((k + 1 : Nat) : Int) := w64_succ k (by omega)
   refine ⟨by omega, fun r hr1 => ?_⟩
   rw [cnextS_bit c q2 hqb] at hr1
   subst hr1
   rw [drop_this b k q2 hq, putF] at hp
   rw [ew]
   refine ⟨fun h2 => ?_, fun h2 => ?_⟩
   · have h2 : (nx c q2).n = 5 := of_decide_eq_true h2
     rw [if_pos h2] at hp
     have hf97 : (0 : Int) ≤ ((flip q2).toNat : Int) ∧ ((flip q2).toNat : Int) ≤ 97 := by rcases isBit_or (isBit_flip q2) with e | e <;> rw [e] <;> decide
     refine ⟨by simp; omega, by (try dsimp only); omega, fun r hr2 => ?_⟩
     rw [show (((flip q2).toNat : Int), decide ((nx c q2).n = 5), nx c q2).2.2 = nx c q2 from rfl, show (((flip q2).toNat : Int), decide ((nx c q2).n = 5), nx c q2).1 = ((flip q2).toNat : Int) from rfl, cnextS_bit _ _ (isBit_flip q2)] at hr2
     subst hr2
     refine ⟨⟨k + 1, rfl, by omega, by simp; omega, ?_, ?_, ?_⟩, by (try dsimp only); omega⟩
     · show 0 ≤ (nx (nx c q2) (flip q2)).n; rw [nx_flip]; show (0 : Int) ≤ 1; decide
     · show (nx (nx c q2) (flip q2)).n ≤ 4; rw [nx_flip]; show (1 : Int) ≤ 4; decide
     · rw [bstr_append, bstr_append, bstr_one, bstr_one, ← hp]
       simp
   · have h2 : ¬ (nx c q2).n = 5 := of_decide_eq_false h2
     rw [if_neg h2] at hp
     refine ⟨⟨k + 1, rfl, by omega, by simp; omega, by (try dsimp only); omega, by (try dsimp only); omega, ?_⟩, by (try dsimp only); omega⟩
     rw [bstr_append, bstr_one, ← hp]
     simp
 · have : k = b.length := by simp at h1; omega
   subst this
   rw [List.drop_length] at hp
   simp only [putF, List.append_nil] at hp
   rw [hp]
def sfixedS (b : List UInt8) (a : Int) : List UInt8 × Int := if bcheckS b ≠ 0 then ([], bcheckS b) else if a ≠ 48 ∧ a ≠ 49 then ([], 3) else (fixF 0 (UInt8.ofNat a.toNat) b, 0)
theorem sfixed_ok (b : List UInt8) (a : Int) : sfixed_vc b a (fun r => r = sfixedS b a) := by
 refine ⟨fun h => ?_, fun h => ⟨fun h1 => ?_, fun h1 => ?_⟩⟩
 · have h : bcheckS b ≠ 0 := by simpa using h
   unfold sfixedS
   rw [if_pos h]
 all_goals
  have h : ¬ bcheckS b ≠ 0 := by simpa using h
 · unfold sfixedS
   rw [if_neg h, if_pos (by simpa using h1)]
 obtain ⟨hl, hr⟩ := (bcheck_zero b).1 (by simpa using h)
 have h1 : ¬ (a ≠ 48 ∧ a ≠ 49) := by simp at h1; omega
 have hS : sfixedS b a = (fixF 0 (UInt8.ofNat a.toNat) b, 0) := by unfold sfixedS; rw [if_neg h, if_neg h1]
 rw [hS]
 refine ⟨fun x l i => ∃ (k : Nat) (c : UInt8), i = k ∧ l = (c.toNat : Int) ∧ isBit c = true ∧ k ≤ b.length ∧ x.length ≤ 2 * k ∧ bstr x ++ fixF k c (b.drop k) = fixF 0 (UInt8.ofNat a.toNat) b, fun _ _ i => b.length - i.toNat, ?_, ?_⟩
 · refine ⟨0, UInt8.ofNat a.toNat, rfl, ?_, ?_, by omega, by simp, rfl⟩
   all_goals
    have : a = 48 ∨ a = 49 := by omega
    rcases this with rfl | rfl <;> rfl
 rintro x _ _ ⟨k, c, rfl, rfl, hc, hk, hx, hp⟩
 have ew : k < b.length → w64 ((k : Int) + 1) = ((k + 1 : Nat) : Int) := fun _ => w64_succ k (by omega)
 have e9 : w8 (97 - (c.toNat : Int)) = ((flip c).toNat : Int) := by rcases isBit_or hc with rfl | rfl <;> rfl
 have e4 : ((k : Int).tmod 4 == 0) = decide (k % 4 = 0) := by
  rw [Int.tmod_eq_emod_of_nonneg (by omega), Bool.eq_iff_iff]
  simp
  omega
 rw [e4, e9]
 refine ⟨fun h2 => ⟨fun h3 => ⟨by omega, by simp at h2; omega, fun q hq => ⟨by simp; omega, by simp at h2; omega, fun q2 hq2 => ?_⟩⟩, fun h3 => ⟨by simp at h2; omega, fun q hq => ⟨by omega, by simp at h2; omega, fun q2 hq2 => ?_⟩⟩⟩, fun h2 => ?_⟩
 · rw [Int.toNat_natCast] at hq hq2
   obtain rfl : q2 = q := Option.some.inj (hq2.symm.trans hq)
   have hkl : k < b.length := (List.getElem?_eq_some_iff.1 hq).1
   have hqb : isBit q2 = true := List.all_eq_true.1 hr q2 (List.mem_of_getElem? hq)
   rw [ew hkl]
   rw [drop_this b k q2 hq, fixF, if_pos (of_decide_eq_true h3)] at hp
   refine ⟨⟨k + 1, q2, rfl, rfl, hqb, by omega, by simp; omega, ?_⟩, by (try dsimp only); omega⟩
   rw [bstr_append, bstr_append, bstr_one, bstr_one, ← hp]
   simp
 · rw [Int.toNat_natCast] at hq hq2
   obtain rfl : q2 = q := Option.some.inj (hq2.symm.trans hq)
   have hkl : k < b.length := (List.getElem?_eq_some_iff.1 hq).1
   have hqb : isBit q2 = true := List.all_eq_true.1 hr q2 (List.mem_of_getElem? hq)
   rw [ew hkl]
   rw [drop_this b k q2 hq, fixF, if_neg (of_decide_eq_false h3)] at hp
   refine ⟨⟨k + 1, q2, rfl, rfl, hqb, by omega, by simp; omega, ?_⟩, by (try dsimp only); omega⟩
   rw [bstr_append, bstr_one, ← hp]
   simp
 · have : k = b.length := by simp at h2; omega
   subst this
   rw [List.drop_length] at hp
   simp only [fixF, List.append_nil] at hp
   rw [hp]
def fnameS (f : Frame) : List UInt8 := if f.Long = false then (wr 11 f.ID.toNat ++ fbit f.Remote) ++ [48] else ((wr 11 (f.ID.toNat / 2 ^ 18) ++ [49, 49]) ++ wr 18 f.ID.toNat) ++ fbit f.Remote
theorem fbit_len (b : Bool) : (fbit b).length = 1 := by cases b <;> rfl
theorem fbit_row (b : Bool) : isRow (fbit b) = true := by cases b <;> rfl
theorem fname_ok (f : Frame) (h : 0 ≤ f.ID ∧ f.ID ≤ 536870911) : fname_vc f (fun r => r = fnameS f) := by
 intro hl
 have p62 : (2 : Int) ^ 62 = 4611686018427387904 := rfl
 have e1 : wu64 f.ID = f.ID := wu64_eq _ (by omega)
 have e2 : bShr .i64 f.ID 18 = ((f.ID.toNat / 2 ^ 18 : Nat) : Int) := by
  have := shrN f.ID.toNat 18 (by omega)
  rw [show ((f.ID.toNat : Nat) : Int) = f.ID by omega] at this
  exact this
 have hd : f.ID.toNat / 2 ^ 18 ≤ f.ID.toNat := Nat.div_le_self _ _
 have e3 : wu64 (bShr .i64 f.ID 18) = ((f.ID.toNat / 2 ^ 18 : Nat) : Int) := by rw [e2]; exact wu64_eq _ (by omega)
 have b1 : ∀ n s : Int, (bwriteS n s).length = s.toNat := fun n s => wr_length _ _
 have b2 := fbit_len f.Remote
 rw [e1, e3]
 refine ⟨fun h1 => ⟨by omega, by rw [b1, b2]; decide, by rw [List.length_append, b1, b2]; decide, ?_⟩, fun h1 => ⟨by omega, by rw [b1]; decide, by omega, by rw [List.length_append, b1, b1]; decide, by rw [List.length_append, List.length_append, b1, b1, b2]; decide, ?_⟩⟩
 · unfold fnameS
   rw [if_pos (by simpa using h1)]
   rfl
 · unfold fnameS
   rw [if_neg (by simpa using h1)]
   unfold bwriteS
   rw [Int.toNat_natCast]
   rfl
theorem fnameS_len (f : Frame) : (fnameS f).length = if f.Long = false then 13 else 32 := by
 unfold fnameS
 split <;> simp [wr_length, fbit_len]
theorem fnameS_row (f : Frame) : isRow (fnameS f) = true := by
 unfold fnameS
 split <;> simp only [isRow_append, wr_row, fbit_row] <;> rfl
def rtakeFS (r : FReader) (n : Int) : List UInt8 × FReader := ((rtakeS r.Reader n).1, ⟨(rtakeS r.Reader n).2, r.f⟩)
theorem rtakeF_ok (r : FReader) (n : Int) (h : Rok r.Reader ∧ n ≤ 9223372036854775807) : rtakeF_vc r n (fun q => q = rtakeFS r n) :=
 rtakeF_lift r n (rtake_mono (by rintro _ rfl; rfl) (rtake_ok r.Reader n h))
def rplainS (r : Reader) (n : Int) : List UInt8 × Reader :=
 if n ≤ 0 then ([], r) else if r.Code ≠ 0 then ([], r) else if r.At + n ≤ r.Row.length then ((r.Row.drop r.At.toNat).take n.toNat, ⟨r.Row, r.At + n, r.Code, r.c⟩) else ([], ⟨r.Row, r.Row.length, 7, r.c⟩)
theorem rplain_ok (r : Reader) (n : Int) (h : (0 ≤ r.At ∧ r.At ≤ (r.Row.length : Int) ∧ r.Row.length ≤ 1000000) ∧ n ≤ 1000000) : rplain_vc r n (fun q => q = rplainS r n) := by
 obtain ⟨⟨h0, h1, h2⟩, hn⟩ := h
 by_cases hn0 : n ≤ 0
 · refine ⟨fun x i y => x = [] ∧ i = 0 ∧ y = r, fun _ _ _ => 0, ⟨rfl, rfl, rfl⟩, ?_⟩
   rintro _ _ y ⟨rfl, rfl, hy⟩
   rw [hy]
   have hS : rplainS r n = ([], r) := by unfold rplainS; rw [if_pos hn0]
   rw [hS]
   exact ⟨fun h3 => by have := of_decide_eq_true h3; omega, fun _ => ⟨fun _ => rfl, fun _ => rfl⟩⟩
 by_cases hc : r.Code ≠ 0
 · have hS : rplainS r n = ([], r) := by unfold rplainS; rw [if_neg hn0, if_pos hc]
   rw [hS]
   refine ⟨fun x i y => ∃ k : Nat, i = k ∧ (k : Int) ≤ n ∧ x.length = k ∧ y = r, fun _ i _ => (n - i).toNat, ⟨0, rfl, by omega, rfl, rfl⟩, ?_⟩
   rintro x _ y ⟨k, rfl, hk, hx, hy⟩
   rw [hy]
   refine ⟨fun h3 => ⟨⟨h0, h1, h2⟩, ?_⟩, fun _ => ⟨fun _ => rfl, fun h4 => absurd hc (by simpa using h4)⟩⟩
   rintro _ rfl
   have h3 := of_decide_eq_true h3
   rw [w64_succ k (by omega), rbitS_bad _ hc]
   exact ⟨by omega, ⟨k + 1, rfl, by omega, by simp [hx], rfl⟩, by (try dsimp only); omega⟩
 · have hc0 : r.Code = 0 := by simpa using hc
   refine ⟨fun x i y => ∃ k : Nat, i = k ∧ (k : Int) ≤ n ∧ x.length = k ∧ ((r.At + k ≤ (r.Row.length : Int) ∧ y = ⟨r.Row, r.At + k, r.Code, r.c⟩ ∧ bstr x = (r.Row.drop r.At.toNat).take k) ∨ ((r.Row.length : Int) < r.At + k ∧ y = ⟨r.Row, r.Row.length, 7, r.c⟩)), fun _ i _ => (n - i).toNat, ⟨0, rfl, by omega, rfl, .inl ⟨by omega, by simp, by simp [bstr]⟩⟩, ?_⟩
   rintro x _ y ⟨k, rfl, hk, hx, hy⟩
   have hyb : 0 ≤ y.At ∧ y.At ≤ (y.Row.length : Int) ∧ y.Row.length ≤ 1000000 := by
    rcases hy with ⟨a, rfl, _⟩ | ⟨a, rfl⟩
    · exact ⟨by (try dsimp only); omega, by (try dsimp only); omega, h2⟩
    · exact ⟨by (try dsimp only); omega, by (try dsimp only); omega, h2⟩
   refine ⟨fun h3 => ⟨hyb, ?_⟩, fun h3 => ?_⟩
   · rintro _ rfl
     have h3 := of_decide_eq_true h3
     rw [w64_succ k (by omega)]
     refine ⟨by omega, ⟨k + 1, rfl, by omega, by simp [hx], ?_⟩, by (try dsimp only); omega⟩
     rcases hy with ⟨a, rfl, e⟩ | ⟨a, rfl⟩
     · rw [rbitS_mk, if_neg hc]
       rcases Nat.lt_or_ge (r.At + k).toNat r.Row.length with hlt | hge
       · obtain ⟨c, hcx⟩ : ∃ c, r.Row[(r.At + k).toNat]? = some c := ⟨_, List.getElem?_eq_getElem hlt⟩
         rw [hcx]
         refine .inl ⟨by omega, by simp; omega, ?_⟩
         rw [bstr_append, e, bstr_one, List.take_add_one]
         congr 1
         have : (r.Row.drop r.At.toNat)[k]? = some c := by rw [List.getElem?_drop, ← hcx]; congr 1; omega
         rw [this]; rfl
       · rw [List.getElem?_eq_none hge]
         refine .inr ⟨by omega, ?_⟩
         have : r.At + (k : Int) = (r.Row.length : Int) := by omega
         rw [this]
     · rw [rbitS_bad _ (by show (7 : Int) ≠ 0; decide)]
       exact .inr ⟨by omega, rfl⟩
   · have hkn : (k : Int) = n := by have := of_decide_eq_false h3; omega
     rcases hy with ⟨a, rfl, e⟩ | ⟨a, rfl⟩
     · have hS : rplainS r n = ((r.Row.drop r.At.toNat).take n.toNat, ⟨r.Row, r.At + n, r.Code, r.c⟩) := by unfold rplainS; rw [if_neg hn0, if_neg hc, if_pos (by omega)]
       rw [hS]
       refine ⟨fun h4 => absurd hc0 (by simpa using h4), fun _ => ?_⟩
       rw [e, ← hkn, Int.toNat_natCast]
     · have hS : rplainS r n = ([], ⟨r.Row, r.Row.length, 7, r.c⟩) := by unfold rplainS; rw [if_neg hn0, if_neg hc, if_neg (by omega)]
       rw [hS]
       exact ⟨fun _ => rfl, fun h4 => by simp at h4⟩
def rplainFS (r : FReader) (n : Int) : List UInt8 × FReader := ((rplainS r.Reader n).1, ⟨(rplainS r.Reader n).2, r.f⟩)
theorem rplainF_ok (r : FReader) (n : Int) (h : (0 ≤ r.Reader.At ∧ r.Reader.At ≤ (r.Reader.Row.length : Int) ∧ r.Reader.Row.length ≤ 1000000) ∧ n ≤ 1000000) : rplainF_vc r n (fun q => q = rplainFS r n) :=
 rplainF_lift r n (rplain_mono (by rintro _ rfl; rfl) (rplain_ok r.Reader n h))
def byb : Nat → List UInt8 → List Int
 | 0, _ => []
 | k + 1, b => (val (b.take 8) : Int) :: byb k (b.drop 8)
def bbytesS (b : List UInt8) : List Int × Int := if bcheckS b ≠ 0 then ([], bcheckS b) else if b.length % 8 ≠ 0 then ([], 4) else (byb (b.length / 8) b, 0)
theorem bbytes_ok (b : List UInt8) : bbytes_vc b (fun r => r = bbytesS b) := by
 have hm : ((b.length : Int).tmod 8 != 0) = decide (b.length % 8 ≠ 0) := by
  rw [Int.tmod_eq_emod_of_nonneg (by omega)]
  by_cases h : b.length % 8 = 0
  · have : (b.length : Int) % 8 = 0 := by omega
    simp [this, h]
  · have : ¬ (b.length : Int) % 8 = 0 := by omega
    rw [decide_eq_true h]
    exact bne_iff_ne.2 this
 unfold bbytes_vc
 rw [hm]
 refine ⟨fun h => ?_, fun h => ⟨fun h1 => ?_, fun h1 => ?_⟩⟩
 · have h : bcheckS b ≠ 0 := by simpa using h
   unfold bbytesS
   rw [if_pos h]
 all_goals
  have h : ¬ bcheckS b ≠ 0 := by simpa using h
 · unfold bbytesS
   rw [if_neg h, if_pos (of_decide_eq_true h1)]
 · have h1 := of_decide_eq_false h1
   have hS : bbytesS b = (byb (b.length / 8) b, 0) := by unfold bbytesS; rw [if_neg h, if_neg h1]
   obtain ⟨hl, hr⟩ := (bcheck_zero b).1 (by simpa using h)
   rw [hS]
   refine ⟨fun x y => ∃ k : Nat, x.length = 8 * k ∧ x.length ≤ b.length ∧ isRow x = true ∧ y.length + k = b.length / 8 ∧ y ++ byb k x = byb (b.length / 8) b, fun x _ => x.length, ⟨b.length / 8, by omega, Nat.le_refl _, hr, by simp, by simp⟩, ?_⟩
   rintro x y ⟨k, hx, hxb, hxr, hyk, hyx⟩
   refine ⟨fun h2 => ?_, fun h2 => ?_⟩
   · have h2 := of_decide_eq_true h2
     obtain ⟨j, rfl⟩ : ∃ j, k = j + 1 := ⟨k - 1, by omega⟩
     have e8 : (8 : Int).toNat = 8 := rfl
     rw [e8]
     have htr := isRow_take hxr 8
     have htl : (x.take 8).length = 8 := by rw [List.length_take]; omega
     have hv := val_lt htr
     rw [htl] at hv
     have hw : w8 (breadS (x.take 8)) = (val (x.take 8) : Int) := w8_eq _ (by unfold breadS; have : (2 : Nat) ^ 8 = 256 := rfl; omega)
     rw [hw]
     refine ⟨by omega, ⟨by omega, htr⟩, by omega, by omega, ⟨j, by rw [List.length_drop]; omega, by rw [List.length_drop]; omega, isRow_drop hxr 8, by simp; omega, ?_⟩, by (try dsimp only); rw [List.length_drop]; omega⟩
     rw [← hyx, byb]
     simp
   · have h2 := of_decide_eq_false h2
     have : k = 0 := by omega
     subst this
     rw [byb, List.append_nil] at hyx
     rw [hyx]
def beqS (a b : List Int) : Bool := decide (a = b)
theorem list_eq_at {α : Type} {a b : List α} (hl : a.length = b.length) (h : ∀ (k : Nat) (x y : α), a[k]? = some x → b[k]? = some y → x = y) : a = b := by
 apply List.ext_getElem? 
 intro k
 rcases Nat.lt_or_ge k a.length with hk | hk
 · have h1 := List.getElem?_eq_getElem hk
   have h2 := List.getElem?_eq_getElem (l := b) (show k < b.length by omega)
   rw [h1, h2, h k _ _ h1 h2]
 · rw [List.getElem?_eq_none hk, List.getElem?_eq_none (by omega)]
theorem beq_ok (a b : List Int) : beq_vc a b (fun r => r = beqS a b) := by
 intro ha hb
 refine ⟨fun h => ?_, fun h => ?_⟩
 · have h : ¬ (a.length : Int) = (b.length : Int) := by simpa using h
   unfold beqS
   rw [decide_eq_false]
   intro e
   rw [e] at h
   exact h rfl
 · have h : a.length = b.length := by
     have h : (a.length : Int) = (b.length : Int) := by simpa only [bne_eq_false_iff_eq] using h
     omega
   refine ⟨fun i => ∃ k : Nat, i = k ∧ k ≤ a.length ∧ ∀ (j : Nat) (x y : Int), j < k → a[j]? = some x → b[j]? = some y → x = y, fun i => a.length - i.toNat, ⟨0, rfl, by omega, fun j _ _ hj => absurd hj (Nat.not_lt_zero _)⟩, ?_⟩
   rintro _ ⟨k, rfl, hk, hj⟩
   refine ⟨fun h1 => ?_, fun h1 => ?_⟩
   · have hk : k < a.length := by have := of_decide_eq_true h1; omega
     rw [w64_succ k (by omega)]
     refine ⟨by omega, fun q hq => ⟨by omega, fun p hp => ⟨fun h2 => ?_, fun h2 => ?_⟩⟩⟩
     · unfold beqS
       rw [decide_eq_false]
       rintro rfl
       rw [hq] at hp
       cases hp
       simp at h2
     · have h2 : q = p := by simpa using h2
       rw [Int.toNat_natCast] at hq hp
       refine ⟨⟨k + 1, rfl, by omega, fun j x y hj1 hx hy => ?_⟩, by (try dsimp only); omega⟩
       rcases Nat.lt_or_ge j k with hc | hc
       · exact hj j x y hc hx hy
       · have : j = k := by omega
         subst this
         rw [hq] at hx
         rw [hp] at hy
         cases hx; cases hy; exact h2
   · have : k = a.length := by have := of_decide_eq_false h1; omega
     subst this
     unfold beqS
     rw [decide_eq_true]
     exact list_eq_at h fun k x y hx hy => hj k x y (List.getElem?_eq_some_iff.1 hx).1 hx hy
def cnt4 (n : Nat) : List UInt8 := [[48, 48, 48, 48], [48, 48, 49, 49], [48, 49, 49, 48], [48, 49, 48, 49], [49, 49, 48, 48], [49, 49, 49, 49], [49, 48, 49, 48], [49, 48, 48, 49]].getD (n % 8) []
def fcountS (n : Int) : List UInt8 := cnt4 n.toNat
theorem fcount_ok (n : Int) (h : 0 ≤ n) : fcount_vc n (fun r => r = fcountS n) := by
 have key : ∀ m : Fin 8, (0 ≤ wu64 (bXor .i64 ((m.val : Nat) : Int) (bShr .i64 ((m.val : Nat) : Int) 1)) ∧ wu64 (bXor .i64 ((m.val : Nat) : Int) (bShr .i64 ((m.val : Nat) : Int) 1)) < 2 ^ 62) ∧
   bwriteS (wu64 (bXor .i64 ((m.val : Nat) : Int) (bShr .i64 ((m.val : Nat) : Int) 1))) 3 ++ fbit ((count1S (bwriteS (wu64 (bXor .i64 ((m.val : Nat) : Int) (bShr .i64 ((m.val : Nat) : Int) 1))) 3) [49]).tmod 2 == 1) = cnt4 m.val := by decide +kernel
 obtain ⟨k, rfl⟩ : ∃ k : Nat, n = k := ⟨n.toNat, by omega⟩
 have e : (k : Int).tmod 8 = ((k % 8 : Nat) : Int) := by rw [Int.tmod_eq_emod_of_nonneg (by omega)]; omega
 unfold fcount_vc
 rw [e]
 obtain ⟨⟨k1, k2⟩, k3⟩ := key ⟨k % 8, Nat.mod_lt _ (by decide)⟩
 dsimp only at k1 k2 k3
 have hlb : ∀ n s : Int, (bwriteS n s).length = s.toNat := fun n s => wr_length _ _
 refine ⟨⟨by decide, by decide, k1, k2⟩, by decide, by rw [hlb, fbit_len]; decide, ?_⟩
 dsimp only
 rw [k3]
 unfold fcountS cnt4
 rw [Int.toNat_natCast, Nat.mod_mod]
theorem rtakeFS_f (r : FReader) (n : Int) : (rtakeFS r n).2.f = r.f := rfl
theorem rplainFS_f (r : FReader) (n : Int) : (rplainFS r n).2.f = r.f := rfl
end Go.Proofs.YtmnlahbngbigdaaGreatDoor
set_option linter.unusedVariables false
set_option linter.unusedSimpArgs false
namespace Go.Proofs.YtmnlahbngbigdaaGreatDoor
open Go.Sy Go.RowKit
def fhead_vc (u0 : Frame) (K : (List UInt8) → Prop) : Prop := (u0.Data.length ≤ 140737488355328 → (((!u0.Remote) = true → ((0 ≤ u0.ID ∧ u0.ID ≤ 536870911) ∧ (((([48] : List UInt8).length : Int) + ((fnameS u0).length : Int) ≤ 9223372036854775807) ∧ ((u0.Fast = true → ((((([48] : List UInt8) ++ (fnameS u0)).length : Int) + (([49, 48, 49, 48] : List UInt8).length : Int) ≤ 9223372036854775807) ∧ ((∀ x ∈ u0.Data, 0 ≤ x ∧ x ≤ 255) ∧ ((0 ≤ (4 : Int) ∧ (4 : Int) ≤ 64 ∧ 0 ≤ (wu64 (sindexS fsizes (u0.Data.length : Int))) ∧ (wu64 (sindexS fsizes (u0.Data.length : Int))) < 2 ^ 62) ∧ (((((([48] : List UInt8) ++ (fnameS u0)) ++ ([49, 48, 49, 48] : List UInt8)).length : Int) + ((bwriteS (wu64 (sindexS fsizes (u0.Data.length : Int))) 4).length : Int) ≤ 9223372036854775807) ∧ ((((((([48] : List UInt8) ++ (fnameS u0)) ++ ([49, 48, 49, 48] : List UInt8)) ++ (bwriteS (wu64 (sindexS fsizes (u0.Data.length : Int))) 4)).length : Int) + ((bofS u0.Data).1.length : Int) ≤ 9223372036854775807) ∧ (K ((((([48] : List UInt8) ++ (fnameS u0)) ++ ([49, 48, 49, 48] : List UInt8)) ++ (bwriteS (wu64 (sindexS fsizes (u0.Data.length : Int))) 4)) ++ (bofS u0.Data).1)))))))) ∧ (u0.Fast = false → ((u0.Long = true → ((((([48] : List UInt8) ++ (fnameS u0)).length : Int) + (([48, 48] : List UInt8).length : Int) ≤ 9223372036854775807) ∧ ((∀ x ∈ u0.Data, 0 ≤ x ∧ x ≤ 255) ∧ ((0 ≤ (4 : Int) ∧ (4 : Int) ≤ 64 ∧ 0 ≤ (wu64 (sindexS fsizes (u0.Data.length : Int))) ∧ (wu64 (sindexS fsizes (u0.Data.length : Int))) < 2 ^ 62) ∧ (((((([48] : List UInt8) ++ (fnameS u0)) ++ ([48, 48] : List UInt8)).length : Int) + ((bwriteS (wu64 (sindexS fsizes (u0.Data.length : Int))) 4).length : Int) ≤ 9223372036854775807) ∧ ((((((([48] : List UInt8) ++ (fnameS u0)) ++ ([48, 48] : List UInt8)) ++ (bwriteS (wu64 (sindexS fsizes (u0.Data.length : Int))) 4)).length : Int) + ((bofS u0.Data).1.length : Int) ≤ 9223372036854775807) ∧ (K ((((([48] : List UInt8) ++ (fnameS u0)) ++ ([48, 48] : List UInt8)) ++ (bwriteS (wu64 (sindexS fsizes (u0.Data.length : Int))) 4)) ++ (bofS u0.Data).1)))))))) ∧ (u0.Long = false → ((((([48] : List UInt8) ++ (fnameS u0)).length : Int) + (([48] : List UInt8).length : Int) ≤ 9223372036854775807) ∧ ((∀ x ∈ u0.Data, 0 ≤ x ∧ x ≤ 255) ∧ ((0 ≤ (4 : Int) ∧ (4 : Int) ≤ 64 ∧ 0 ≤ (wu64 (sindexS fsizes (u0.Data.length : Int))) ∧ (wu64 (sindexS fsizes (u0.Data.length : Int))) < 2 ^ 62) ∧ (((((([48] : List UInt8) ++ (fnameS u0)) ++ ([48] : List UInt8)).length : Int) + ((bwriteS (wu64 (sindexS fsizes (u0.Data.length : Int))) 4).length : Int) ≤ 9223372036854775807) ∧ ((((((([48] : List UInt8) ++ (fnameS u0)) ++ ([48] : List UInt8)) ++ (bwriteS (wu64 (sindexS fsizes (u0.Data.length : Int))) 4)).length : Int) + ((bofS u0.Data).1.length : Int) ≤ 9223372036854775807) ∧ (K ((((([48] : List UInt8) ++ (fnameS u0)) ++ ([48] : List UInt8)) ++ (bwriteS (wu64 (sindexS fsizes (u0.Data.length : Int))) 4)) ++ (bofS u0.Data).1)))))))))))))) ∧ ((!u0.Remote) = false → ((0 ≤ u0.ID ∧ u0.ID ≤ 536870911) ∧ (((([48] : List UInt8).length : Int) + ((fnameS u0).length : Int) ≤ 9223372036854775807) ∧ ((u0.Fast = true → ((((([48] : List UInt8) ++ (fnameS u0)).length : Int) + (([49, 48, 49, 48] : List UInt8).length : Int) ≤ 9223372036854775807) ∧ ((∀ x ∈ u0.Data, 0 ≤ x ∧ x ≤ 255) ∧ ((0 ≤ (4 : Int) ∧ (4 : Int) ≤ 64 ∧ 0 ≤ (wu64 u0.Size) ∧ (wu64 u0.Size) < 2 ^ 62) ∧ (((((([48] : List UInt8) ++ (fnameS u0)) ++ ([49, 48, 49, 48] : List UInt8)).length : Int) + ((bwriteS (wu64 u0.Size) 4).length : Int) ≤ 9223372036854775807) ∧ ((((((([48] : List UInt8) ++ (fnameS u0)) ++ ([49, 48, 49, 48] : List UInt8)) ++ (bwriteS (wu64 u0.Size) 4)).length : Int) + ((bofS u0.Data).1.length : Int) ≤ 9223372036854775807) ∧ (K ((((([48] : List UInt8) ++ (fnameS u0)) ++ ([49, 48, 49, 48] : List UInt8)) ++ (bwriteS (wu64 u0.Size) 4)) ++ (bofS u0.Data).1)))))))) ∧ (u0.Fast = false → ((u0.Long = true → ((((([48] : List UInt8) ++ (fnameS u0)).length : Int) + (([48, 48] : List UInt8).length : Int) ≤ 9223372036854775807) ∧ ((∀ x ∈ u0.Data, 0 ≤ x ∧ x ≤ 255) ∧ ((0 ≤ (4 : Int) ∧ (4 : Int) ≤ 64 ∧ 0 ≤ (wu64 u0.Size) ∧ (wu64 u0.Size) < 2 ^ 62) ∧ (((((([48] : List UInt8) ++ (fnameS u0)) ++ ([48, 48] : List UInt8)).length : Int) + ((bwriteS (wu64 u0.Size) 4).length : Int) ≤ 9223372036854775807) ∧ ((((((([48] : List UInt8) ++ (fnameS u0)) ++ ([48, 48] : List UInt8)) ++ (bwriteS (wu64 u0.Size) 4)).length : Int) + ((bofS u0.Data).1.length : Int) ≤ 9223372036854775807) ∧ (K ((((([48] : List UInt8) ++ (fnameS u0)) ++ ([48, 48] : List UInt8)) ++ (bwriteS (wu64 u0.Size) 4)) ++ (bofS u0.Data).1)))))))) ∧ (u0.Long = false → ((((([48] : List UInt8) ++ (fnameS u0)).length : Int) + (([48] : List UInt8).length : Int) ≤ 9223372036854775807) ∧ ((∀ x ∈ u0.Data, 0 ≤ x ∧ x ≤ 255) ∧ ((0 ≤ (4 : Int) ∧ (4 : Int) ≤ 64 ∧ 0 ≤ (wu64 u0.Size) ∧ (wu64 u0.Size) < 2 ^ 62) ∧ (((((([48] : List UInt8) ++ (fnameS u0)) ++ ([48] : List UInt8)).length : Int) + ((bwriteS (wu64 u0.Size) 4).length : Int) ≤ 9223372036854775807) ∧ ((((((([48] : List UInt8) ++ (fnameS u0)) ++ ([48] : List UInt8)) ++ (bwriteS (wu64 u0.Size) 4)).length : Int) + ((bofS u0.Data).1.length : Int) ≤ 9223372036854775807) ∧ (K ((((([48] : List UInt8) ++ (fnameS u0)) ++ ([48] : List UInt8)) ++ (bwriteS (wu64 u0.Size) 4)) ++ (bofS u0.Data).1))))))))))))))))
def rSame_vc (u0 : Frame) (u1 : Frame) (K : Bool → Prop) : Prop := (u0.Data.length ≤ 140737488355328 → (u1.Data.length ≤ 140737488355328 → (K ((((((u0.ID == u1.ID) && (u0.Long == u1.Long)) && (u0.Fast == u1.Fast)) && (u0.Remote == u1.Remote)) && (u0.Size == u1.Size)) && (beqS u0.Data u1.Data)))))
def rfail_vc (u0 : FReader) (u1 : Int) (K : FReader → Prop) : Prop := (u0.f.Data.length ≤ 140737488355328 → (((u0.Reader.Code == 0) = true → (K (⟨(⟨u0.Reader.Row, u0.Reader.At, u1, u0.Reader.c⟩ : Reader), u0.f⟩ : FReader))) ∧ ((u0.Reader.Code == 0) = false → (K u0))))
theorem fcheckfr_zero {f : Frame} (h : fcheckfr f = 0) : 0 ≤ f.ID ∧ f.ID ≤ 536870911 ∧ (f.Long = false → f.ID ≤ 2047) ∧ (f.Remote = true → f.Fast = false ∧ f.Data.length = 0) ∧ 0 ≤ f.Size ∧ f.Size ≤ 8 ∧ (f.Remote = false → f.Size = 0) ∧ f.Data.length ≤ 64 ∧ (f.Fast = false → f.Data.length ≤ 8) ∧ scontainsS fsizes (f.Data.length : Int) = true := by
 unfold fcheckfr at h
 cases h1 : ((decide (f.ID < 0)) || ((!f.Long) && (decide (f.ID > 2047)))) || (decide (f.ID > 536870911)) with
 | true => rw [h1] at h; cases h
 | false =>
  rw [h1, cond_false] at h
  cases h2 : f.Remote && (f.Fast || (decide ((f.Data.length : Int) > 0))) with
  | true => rw [h2] at h; cases h
  | false =>
   rw [h2, cond_false] at h
   cases h3 : ((decide (f.Size < 0)) || (decide (f.Size > 8))) || ((!f.Remote) && (f.Size != 0)) with
   | true => rw [h3] at h; cases h
   | false =>
    rw [h3, cond_false] at h
    cases h4 : (decide ((f.Data.length : Int) > 64)) || ((!f.Fast) && (decide ((f.Data.length : Int) > 8))) with
    | true => rw [h4] at h; cases h
    | false =>
     rw [h4, cond_false] at h
     cases h5 : !(scontainsS fsizes (f.Data.length : Int)) with
     | true => rw [h5] at h; cases h
     | false =>
      simp at h1 h2 h3 h4 h5
      refine ⟨by omega, by omega, fun e => by have := h1.1.2 e; omega, fun e => ?_, by omega, by omega, fun e => h3.2 e, by omega, fun e => by have := h4.2 e; omega, h5⟩
      have := h2 e
      exact ⟨this.1, by simp [this.2]⟩
def fheadpre (f : Frame) : Prop := 0 ≤ f.ID ∧ f.ID ≤ 536870911 ∧ 0 ≤ f.Size ∧ f.Size ≤ 8 ∧ f.Data.length ≤ 64 ∧ (∀ x ∈ f.Data, 0 ≤ x ∧ x ≤ 255) ∧ (f.Remote = false → scontainsS fsizes (f.Data.length : Int) = true)
def fcode (f : Frame) : Nat := (if f.Remote = false then sindexS fsizes (f.Data.length : Int) else f.Size).toNat
def fctl (f : Frame) : List UInt8 := if f.Fast = true then [49, 48, 49, 48] else if f.Long = true then [48, 48] else [48]
def fheadS (f : Frame) : List UInt8 := ((([48] ++ fnameS f) ++ fctl f) ++ wr 4 (fcode f)) ++ ofb f.Data
theorem sindexS_sizes (n : Int) : -1 ≤ sindexS fsizes n ∧ sindexS fsizes n ≤ 15 := by
 unfold sindexS sidx
 cases h : fsizes.findIdx? (fun q => n == q) with
 | none => dsimp only; omega
 | some i =>
  rw [List.findIdx?_eq_some_iff_getElem] at h
  obtain ⟨h1, _⟩ := h
  have : fsizes.length = 16 := rfl
  dsimp only
  omega
theorem fhead_ok (f : Frame) (h : fheadpre f) : fhead_vc f (fun r => r = fheadS f) := by
 obtain ⟨h1, h2, h3, h4, h5, h6, h7⟩ := h
 intro hl
 have p62 : (2 : Int) ^ 62 = 4611686018427387904 := rfl
 have hlb : ∀ n s : Int, (bwriteS n s).length = s.toNat := fun n s => wr_length _ _
 have hof : (bofS f.Data).1 = ofb f.Data := by unfold bofS; rw [if_neg (by omega)]
 have hofl := ofb_length f.Data
 have hnl : (fnameS f).length ≤ 32 := by rw [fnameS_len]; split <;> omega
 have key : ∀ c : Int, 0 ≤ c → c < 16 → (f.Remote = false → c = sindexS fsizes (f.Data.length : Int)) → (f.Remote = true → c = f.Size) → wu64 c = c ∧ bwriteS c 4 = wr 4 (fcode f) := by
  intro c c0 c1 c2 c3
  refine ⟨wu64_eq _ (by omega), ?_⟩
  have : c.toNat = fcode f := by
   unfold fcode
   cases hr : f.Remote with
   | false => rw [if_pos rfl, c2 hr]
   | true => rw [if_neg (by simp), c3 hr]
  unfold bwriteS
  rw [this]
  rfl
 have hs := sindexS_sizes (f.Data.length : Int)
 refine ⟨fun h8 => ⟨⟨h1, h2⟩, by simp only [List.length_cons, List.length_nil]; omega, ?_⟩, fun h8 => ⟨⟨h1, h2⟩, by simp only [List.length_cons, List.length_nil]; omega, ?_⟩⟩
 · have hr : f.Remote = false := by simpa using h8
   have hge : 0 ≤ sindexS fsizes (f.Data.length : Int) := by
    have := sidx_ge (fun q => (f.Data.length : Int) == q) fsizes
    have h9 := h7 hr
    unfold scontainsS at h9
    rw [h9] at this
    exact of_decide_eq_true this
   obtain ⟨k1, k2⟩ := key (sindexS fsizes (f.Data.length : Int)) hge (by omega) (fun _ => rfl) (fun e => by rw [hr] at e; cases e)
   rw [k1, hof]
   refine ⟨fun h10 => ⟨by simp; omega, h6, by omega, by simp [hlb]; omega, by simp [hlb, hofl]; omega, ?_⟩, fun h10 => ⟨fun h11 => ⟨by simp; omega, h6, by omega, by simp [hlb]; omega, by simp [hlb, hofl]; omega, ?_⟩, fun h11 => ⟨by simp; omega, h6, by omega, by simp [hlb]; omega, by simp [hlb, hofl]; omega, ?_⟩⟩⟩
   all_goals
    rw [k2]
    unfold fheadS fctl
   · rw [if_pos h10]
   · rw [if_neg (by simp [h10]), if_pos h11]
   · rw [if_neg (by simp [h10]), if_neg (by simp [h11])]
 · have hr : f.Remote = true := by simpa using h8
   obtain ⟨k1, k2⟩ := key f.Size h3 (by omega) (fun e => by rw [hr] at e; cases e) (fun _ => rfl)
   rw [k1, hof]
   refine ⟨fun h10 => ⟨by simp; omega, h6, by omega, by simp [hlb]; omega, by simp [hlb, hofl]; omega, ?_⟩, fun h10 => ⟨fun h11 => ⟨by simp; omega, h6, by omega, by simp [hlb]; omega, by simp [hlb, hofl]; omega, ?_⟩, fun h11 => ⟨by simp; omega, h6, by omega, by simp [hlb]; omega, by simp [hlb, hofl]; omega, ?_⟩⟩⟩
   all_goals
    rw [k2]
    unfold fheadS fctl
   · rw [if_pos h10]
   · rw [if_neg (by simp [h10]), if_pos h11]
   · rw [if_neg (by simp [h10]), if_neg (by simp [h11])]
def deBruijn64 : List Int := [0, 1, 56, 2, 57, 49, 28, 3, 61, 58, 42, 50, 38, 29, 17, 4, 62, 47, 59, 36, 45, 43, 51, 22, 53, 39, 33, 30, 24, 18, 12, 5, 63, 55, 48, 27, 60, 41, 37, 16, 46, 35, 44, 21, 52, 32, 23, 11, 54, 26, 40, 15, 34, 20, 31, 10, 25, 14, 19, 9, 13, 8, 7, 6]
def sameS (a b : Frame) : Bool := decide (a = b)
theorem same_eq (a b : Frame) : ((((((a.ID == b.ID) && (a.Long == b.Long)) && (a.Fast == b.Fast)) && (a.Remote == b.Remote)) && (a.Size == b.Size)) && (beqS a.Data b.Data)) = sameS a b := by
 obtain ⟨a1, a2, a3, a4, a5, a6⟩ := a
 obtain ⟨b1, b2, b3, b4, b5, b6⟩ := b
 rw [Bool.eq_iff_iff]
 simp [sameS, beqS, and_assoc]
theorem rSame_ok (a b : Frame) : rSame_vc a b (fun r => r = sameS a b) := fun _ _ => same_eq a b
def rfailS (r : FReader) (e : Int) : FReader := if r.Reader.Code = 0 then ⟨⟨r.Reader.Row, r.Reader.At, e, r.Reader.c⟩, r.f⟩ else r
theorem rfail_ok (r : FReader) (e : Int) : rfail_vc r e (fun q => q = rfailS r e) := by
 intro _
 refine ⟨fun h => ?_, fun h => ?_⟩
 · unfold rfailS
   rw [if_pos (by simpa using h)]
 · unfold rfailS
   rw [if_neg (by simpa using h)]
theorem rfailS_f (r : FReader) (e : Int) : (rfailS r e).f = r.f := by unfold rfailS; split <;> rfl
theorem rfailS_Rok {r : FReader} {e : Int} (h : Rok r.Reader) : Rok (rfailS r e).Reader := by unfold rfailS; split <;> exact h
theorem rtakeS_Rok {r : Reader} (n : Int) (h : Rok r) : Rok (rtakeS r n).2 ∧ (rtakeS r n).2.Row = r.Row ∧ (r.Code ≠ 0 → rtakeS r n = ([], r)) ∧ ((rtakeS r n).2.Code ≠ 0 → (rtakeS r n).1 = []) := by
 by_cases hc : r.Code = 0
 · have := rloop_take n.toNat r [] h hc
   unfold rtakeS
   obtain ⟨a0, a1, a2, a3, a4, a5⟩ := h
   cases hT : takeF r.c (r.Row.drop r.At.toNat) n.toNat with
   | ok q =>
    rw [hT] at this
    obtain ⟨g1, g2, g3, g4, g5, g6, g7⟩ := this
    rw [g1]
    exact ⟨⟨by (try dsimp only); omega, by (try dsimp only); omega, a2, a3, g5, g6⟩, rfl, fun e => absurd hc e, fun e => absurd rfl e⟩
   | error e =>
    rw [hT] at this
    obtain ⟨q, g1, g2, g3, g4, g5⟩ := this
    rw [g1]
    exact ⟨g5, g4, fun e => absurd hc e, fun _ => rfl⟩
 · have e : rtakeS r n = ([], r) := by unfold rtakeS; exact rloop_bad _ _ _ hc
   rw [e]
   exact ⟨h, rfl, fun _ => rfl, fun _ => rfl⟩
theorem rtakeS_take {r : Reader} {n : Nat} (h : Rok r) (hc : r.Code = 0) : match takeF r.c (r.Row.drop r.At.toNat) n with
  | .ok q => rtakeS r n = (q.1, ⟨r.Row, (r.Row.length : Int) - (q.2.1.length : Int), 0, q.2.2⟩) ∧ q.2.1.length ≤ r.Row.length ∧ q.2.1 = r.Row.drop (r.Row.length - q.2.1.length) ∧ r.At.toNat + n + q.2.1.length ≤ r.Row.length ∧ 0 ≤ q.2.2.n ∧ q.2.2.n ≤ 4 ∧ q.1.length = n
  | .error e => ∃ q, rtakeS r n = ([], q) ∧ q.Code = e ∧ e ≠ 0 ∧ q.Row = r.Row ∧ Rok q := by
 have := rloop_take n r [] h hc
 unfold rtakeS
 rw [Int.toNat_natCast]
 exact this
theorem takeF_row : ∀ (n : Nat) (c : Counter) (r : List UInt8) q, isRow r = true → takeF c r n = .ok q → isRow q.1 = true := by
 intro n
 induction n with
 | zero => intro c r q _ h; rw [takeF] at h; cases h; rfl
 | succ n ih =>
  intro c r q hr h
  cases r with
  | nil => rw [takeF] at h; cases h
  | cons b r =>
   rw [isRow_cons, Bool.and_eq_true] at hr
   rw [takeF_cons] at h
   split at h
   · cases r with
     | nil => cases h
     | cons y r' =>
      rw [isRow_cons, Bool.and_eq_true] at hr
      dsimp only at h
      split at h
      · cases hT : takeF (nx (nx c b) (flip b)) r' n with
        | error e => rw [hT] at h; cases h
        | ok p => rw [hT] at h; cases h; rw [isRow_cons, hr.1, ih _ _ _ hr.2.2 hT]; rfl
      · cases h
   · cases hT : takeF (nx c b) r n with
     | error e => rw [hT] at h; cases h
     | ok p => rw [hT] at h; cases h; rw [isRow_cons, hr.1, ih _ _ _ hr.2 hT]; rfl
theorem rtakeS_row {r : Reader} {n : Int} (h : Rok r) : isRow (rtakeS r n).1 = true ∧ (rtakeS r n).1.length ≤ n.toNat ∧ ((rtakeS r n).2.Code = 0 → (rtakeS r n).1.length = n.toNat) := by
 by_cases hc : r.Code = 0
 · have := rloop_take n.toNat r [] h hc
   unfold rtakeS
   cases hT : takeF r.c (r.Row.drop r.At.toNat) n.toNat with
   | ok q =>
    rw [hT] at this
    obtain ⟨g1, g2, g3, g4, g5, g6, g7⟩ := this
    rw [g1]
    refine ⟨takeF_row _ _ _ _ (isRow_drop h.2.2.2.1 _) hT, by simp [g7], fun _ => by simp [g7]⟩
   | error e =>
    rw [hT] at this
    obtain ⟨q, g1, g2, g3, g4, g5⟩ := this
    rw [g1]
    exact ⟨rfl, by simp, fun e2 => absurd (g2.symm.trans e2) g3⟩
 · have e : rtakeS r n = ([], r) := by unfold rtakeS; exact rloop_bad _ _ _ hc
   rw [e]
   exact ⟨rfl, by simp, fun e2 => absurd e2 hc⟩
end Go.Proofs.YtmnlahbngbigdaaGreatDoor
set_option linter.unusedVariables false
set_option linter.unusedSimpArgs false
namespace Go.Proofs.YtmnlahbngbigdaaGreatDoor
open Go.Sy Go.RowKit
structure BInt where
 neg : Bool
 abs : List Int
 deriving DecidableEq, Inhabited
def BInt.rep (Z : Fz) (cs : List Value) (x : BInt) : Prop := ∃ (ao0 : Option Addr) (cap0 : Nat), cs = [.bool x.neg, .slice ao0 x.abs.length cap0] ∧ SlR (tyInt .u32) Z ao0 cap0 x.abs
def gtrim_vc (u0 : List Int) (K : (List Int) → Prop) : Prop := (u0.length ≤ 140737488355328 → (∃ inv16 : Int → Prop, ∃ mu16 : Int → Nat, inv16 (u0.length : Int) ∧ (∀ (x3 : Int), inv16 x3 → (((decide (x3 > 0)) = true → ((0 ≤ w64 (x3 - 1) ∧ w64 (x3 - 1) < (u0.length : Int)) ∧ (∀ q50, u0[(w64 (x3 - 1)).toNat]? = some q50 → (((q50 == 0) = true → (inv16 (w64 (x3 - 1)) ∧ mu16 (w64 (x3 - 1)) < mu16 x3)) ∧ ((q50 == 0) = false → ((0 ≤ x3 ∧ x3 ≤ (u0.length : Int)) ∧ (K (u0.take x3.toNat)))))))) ∧ ((decide (x3 > 0)) = false → ((0 ≤ x3 ∧ x3 ≤ (u0.length : Int)) ∧ (K (u0.take x3.toNat))))))))
def glength_vc (u0 : List Int) (K : Int → Prop) : Prop := (u0.length ≤ 140737488355328 → ((((u0.length : Int) == 0) = true → (K 0)) ∧ (((u0.length : Int) == 0) = false → ((0 ≤ w64 ((u0.length : Int) - 1) ∧ w64 ((u0.length : Int) - 1) < (u0.length : Int)) ∧ (∀ q38, u0[(w64 ((u0.length : Int) - 1)).toNat]? = some q38 → (∃ inv50 : Int → Int → Prop, ∃ mu50 : Int → Int → Nat, inv50 0 q38 ∧ (∀ (x3 : Int) (x4 : Int), inv50 x3 x4 → (((x4 != 0) = true → (inv50 (w64 (x3 + 1)) (bShr .u32 x4 1) ∧ mu50 (w64 (x3 + 1)) (bShr .u32 x4 1) < mu50 x3 x4)) ∧ ((x4 != 0) = false → (K (w64 ((w64 ((w64 ((u0.length : Int) - 1)) * 32)) + x3))))))))))))
def wv : List Int → Nat
 | [] => 0
 | x :: r => x.toNat + 4294967296 * wv r
def wok (l : List Int) : Prop := ∀ x ∈ l, 0 ≤ x ∧ x < 4294967296
def ws (n : Nat) : List Int := if n = 0 then [] else ((n % 4294967296 : Nat) : Int) :: ws (n / 4294967296)
 termination_by n
 decreasing_by omega
theorem ws_zero : ws 0 = [] := by rw [ws]; rfl
theorem ws_pos {n : Nat} (h : n ≠ 0) : ws n = ((n % 4294967296 : Nat) : Int) :: ws (n / 4294967296) := by rw [ws, if_neg h]
theorem wv_ws : ∀ n : Nat, wv (ws n) = n := by
 intro n
 induction n using Nat.strongRecOn with
 | ind n ih =>
  by_cases h : n = 0
  · subst h; rw [ws_zero]; rfl
  · rw [ws_pos h, wv, ih _ (by omega), Int.toNat_natCast]
    omega
theorem ws_wok : ∀ n : Nat, wok (ws n) := by
 intro n
 induction n using Nat.strongRecOn with
 | ind n ih =>
  by_cases h : n = 0
  · subst h; rw [ws_zero]; intro x hx; cases hx
  · rw [ws_pos h]
    intro x hx
    rcases List.mem_cons.1 hx with rfl | hx
    · omega
    · exact ih _ (by omega) x hx
theorem ws_len : ∀ (k n : Nat), n < 4294967296 ^ k → (ws n).length ≤ k := by
 intro k
 induction k with
 | zero => intro n h; have : n = 0 := by simpa using h
           subst this; rw [ws_zero]; simp
 | succ k ih =>
  intro n h
  by_cases h0 : n = 0
  · subst h0; rw [ws_zero]; simp
  · rw [ws_pos h0, List.length_cons]
    have : n / 4294967296 < 4294967296 ^ k := by
     rw [Nat.div_lt_iff_lt_mul (by decide)]
     rwa [Nat.pow_succ] at h
    have := ih _ this
    omega
theorem wok_nil : wok [] := fun x hx => by cases hx
theorem wok_cons {x : Int} {r : List Int} (h : wok (x :: r)) : (0 ≤ x ∧ x < 4294967296) ∧ wok r := ⟨h x (List.mem_cons_self ..), fun y hy => h y (List.mem_cons_of_mem _ hy)⟩
theorem wok_at {l : List Int} (h : wok l) {k : Nat} {q : Int} (hq : l[k]? = some q) : ∃ n : Nat, q = n ∧ n < 4294967296 := by
 have := h q (List.mem_of_getElem? hq)
 exact ⟨q.toNat, by omega, by omega⟩
theorem wok_set {l : List Int} (h : wok l) (k : Nat) (n : Nat) (hn : n < 4294967296) : wok (l.set k (n : Int)) := by
 intro x hx
 rcases List.mem_or_eq_of_mem_set hx with hx | rfl
 · exact h x hx
 · omega
theorem wok_rep (n : Nat) : wok (List.replicate n (0 : Int)) := fun x hx => by rw [(List.mem_replicate.1 hx).2]; omega
theorem wok_app {a b : List Int} (ha : wok a) (hb : wok b) : wok (a ++ b) := fun x hx => (List.mem_append.1 hx).elim (ha x) (hb x)
theorem wv_append (a b : List Int) : wv (a ++ b) = wv a + 4294967296 ^ a.length * wv b := by
 induction a with
 | nil => simp [wv]
 | cons x r ih => rw [List.cons_append, wv, ih, wv, List.length_cons, Nat.pow_succ, Nat.mul_add, Nat.add_assoc, Nat.mul_comm (4294967296 ^ r.length) 4294967296, Nat.mul_assoc]
theorem wv_rep (n : Nat) : wv (List.replicate n (0 : Int)) = 0 := by
 induction n with
 | zero => rfl
 | succ n ih => rw [List.replicate_succ, wv, ih]; rfl
theorem wv_next {l : List Int} {k n : Nat} (h : l[k]? = some (n : Int)) : wv (l.take (k + 1)) = wv (l.take k) + 4294967296 ^ k * n := by
 have hk := (List.getElem?_eq_some_iff.1 h).1
 rw [take_next l k _ h, wv_append, List.length_take, Nat.min_eq_left (by omega)]
 simp [wv]
theorem wv_set : ∀ (l : List Int) (k q n : Nat), l[k]? = some (q : Int) → wv (l.set k (n : Int)) + 4294967296 ^ k * q = wv l + 4294967296 ^ k * n := by
 intro l
 induction l with
 | nil => intro k q n h; simp at h
 | cons x r ih =>
  intro k q n h
  cases k with
  | zero =>
   cases h
   simp [wv]
   omega
  | succ k =>
   have := ih k q n (by simpa using h)
   rw [List.set_cons_succ, wv, wv, Nat.pow_succ, Nat.mul_comm (4294967296 ^ k) 4294967296, Nat.mul_assoc, Nat.mul_assoc]
   omega
theorem wv_lt {l : List Int} (h : wok l) : wv l < 4294967296 ^ l.length := by
 induction l with
 | nil => simp [wv]
 | cons x r ih =>
  obtain ⟨h1, h2⟩ := wok_cons h
  have := ih h2
  rw [wv, List.length_cons, Nat.pow_succ]
  omega
def gtrimS : List Int → List Int
 | [] => []
 | x :: r => match gtrimS r with
  | [] => if x = 0 then [] else [x]
  | y :: q => x :: y :: q
theorem gtrim_ws {l : List Int} (h : wok l) : gtrimS l = ws (wv l) := by
 induction l with
 | nil => rw [wv, ws_zero]; rfl
 | cons x r ih =>
  obtain ⟨h1, h2⟩ := wok_cons h
  rw [gtrimS, ih h2, wv]
  by_cases h0 : wv r = 0
  · rw [h0, ws_zero]
    by_cases hx : x = 0
    · subst hx
      rw [if_pos rfl]
      show [] = ws 0
      rw [ws_zero]
    · rw [if_neg hx, ws_pos (by omega)]
      have e1 : (x.toNat + 4294967296 * 0) % 4294967296 = x.toNat := by omega
      have e2 : (x.toNat + 4294967296 * 0) / 4294967296 = 0 := by omega
      rw [e1, e2, ws_zero, Int.toNat_of_nonneg h1.1]
  · have e1 : (x.toNat + 4294967296 * wv r) % 4294967296 = x.toNat := by omega
    have e2 : (x.toNat + 4294967296 * wv r) / 4294967296 = wv r := by omega
    rw [ws_pos (n := x.toNat + 4294967296 * wv r) (by omega), e1, e2]
    have e3 : ((x.toNat : Nat) : Int) = x := Int.toNat_of_nonneg h1.1
    rw [e3]
    rw [ws_pos h0]
theorem ws_trim (n : Nat) : gtrimS (ws n) = ws n := by rw [gtrim_ws (ws_wok n), wv_ws]
theorem gtrim_len (l : List Int) : (gtrimS l).length ≤ l.length := by
 induction l with
 | nil => exact Nat.le_refl _
 | cons x r ih =>
  rw [gtrimS]
  split
  · split <;> simp
  · rename_i y q e
    rw [e] at ih
    simpa using ih
theorem gtrim_snoc0 (l : List Int) : gtrimS (l ++ [0]) = gtrimS l := by
 induction l with
 | nil => rfl
 | cons x r ih => rw [List.cons_append, gtrimS, ih, gtrimS]
theorem gtrim_snoc (l : List Int) (x : Int) (hx : x ≠ 0) : gtrimS (l ++ [x]) = l ++ [x] := by
 induction l with
 | nil => show (if x = 0 then [] else [x]) = [x]; rw [if_neg hx]
 | cons y r ih =>
  rw [List.cons_append, gtrimS, ih]
  cases hr : r ++ [x] with
  | nil => simp at hr
  | cons a b => rfl
theorem gtrim_ok (l : List Int) : gtrim_vc l (fun r => r = gtrimS l) := by
 intro hl
 refine ⟨fun i => ∃ k : Nat, i = k ∧ k ≤ l.length ∧ gtrimS (l.take k) = gtrimS l, fun i => i.toNat, ⟨l.length, rfl, Nat.le_refl _, by rw [List.take_length]⟩, ?_⟩
 rintro _ ⟨k, rfl, hk, hg⟩
 refine ⟨fun h => ?_, fun h => ?_⟩
 · have h : 0 < k := by have := of_decide_eq_true h; omega
   have e : w64 ((k : Int) - 1) = ((k - 1 : Nat) : Int) := by rw [w64_eq _ (by omega)]; omega
   rw [e]
   refine ⟨by omega, fun q hq => ?_⟩
   rw [Int.toNat_natCast] at hq
   have ht := take_next l (k - 1) q hq
   have e1 : k - 1 + 1 = k := by omega
   rw [e1] at ht
   refine ⟨fun h1 => ?_, fun h1 => ?_⟩
   · have h1 : q = 0 := by simpa using h1
     subst h1
     rw [ht, gtrim_snoc0] at hg
     exact ⟨⟨k - 1, rfl, by omega, hg⟩, by (try dsimp only); omega⟩
   · have h1 : q ≠ 0 := by simpa using h1
     refine ⟨by omega, ?_⟩
     rw [Int.toNat_natCast, ← hg, ht, gtrim_snoc _ _ h1]
 · have h : k = 0 := by have := of_decide_eq_false h; omega
   subst h
   refine ⟨by omega, ?_⟩
   rw [← hg]
   rfl
def blen (n : Nat) : Nat := if n = 0 then 0 else Nat.log2 n + 1
theorem blen_lt (n : Nat) : n < 2 ^ blen n := by
 unfold blen
 split
 · subst_vars; decide
 · rename_i h
   exact (Nat.log2_lt h).1 (by omega)
theorem blen_ge {n : Nat} (h : n ≠ 0) : 2 ^ (blen n - 1) ≤ n := by
 unfold blen
 rw [if_neg h, Nat.add_sub_cancel]
 exact (Nat.le_log2 h).1 (Nat.le_refl _)
theorem blen_eq {n k : Nat} (h1 : n < 2 ^ (k + 1)) (h2 : 2 ^ k ≤ n) : blen n = k + 1 := by
 have p := Nat.two_pow_pos k
 have h0 : n ≠ 0 := by omega
 unfold blen
 rw [if_neg h0, (Nat.log2_eq_iff h0).2 ⟨h2, h1⟩]
def glengthS (l : List Int) : Int := (blen (wv l) : Int)
theorem shru (n s : Nat) (hs : s ≤ 64) (k : IntKind) (hk : s ≤ k.bits) : bShr k (n : Int) (s : Int) = ((n / 2 ^ s : Nat) : Int) := by
 unfold bShr
 have : min (s : Int).toNat k.bits = s := by rw [Int.toNat_natCast]; omega
 rw [this, Int.fdiv_eq_ediv_of_nonneg _ (Int.le_of_lt (Int.pow_pos (by decide)))]
 norm_cast
theorem wu32_nat (n : Nat) : wu32 (n : Int) = ((n % 4294967296 : Nat) : Int) := by
 show IntKind.u32.wrap (n : Int) = _
 rw [IntKind.wrap_u32]
 omega
theorem ws_last {n : Nat} (h : n ≠ 0) : ∃ (p : List Int) (q : Nat), ws n = p ++ [(q : Int)] ∧ q ≠ 0 ∧ q < 4294967296 := by
 have hne : ws n ≠ [] := by rw [ws_pos h]; simp
 obtain ⟨p, x, hp⟩ : ∃ p x, ws n = p ++ [x] := ⟨(ws n).dropLast, (ws n).getLast hne, (List.dropLast_concat_getLast hne).symm⟩
 have hx := ws_wok n x (by rw [hp]; simp)
 refine ⟨p, x.toNat, by rw [hp]; congr 2; omega, fun h0 => ?_, by omega⟩
 have h1 : x = 0 := by omega
 have h2 := ws_trim n
 rw [hp, h1, gtrim_snoc0] at h2
 have h3 := gtrim_len p
 rw [h2] at h3
 rw [List.length_append, List.length_singleton] at h3
 omega
theorem glength_ok (l : List Int) (h : l = ws (wv l) ∧ l.length ≤ 1000000) : glength_vc l (fun r => r = glengthS l) := by
 obtain ⟨h, hb⟩ := h
 intro hl
 refine ⟨fun h1 => ?_, fun h1 => ?_⟩
 · have h2 : (l.length : Int) = 0 := by simpa only [beq_iff_eq] using h1
   have h1 : l = [] := List.eq_nil_of_length_eq_zero (by omega)
   subst h1
   rfl
 · have h0 : wv l ≠ 0 := by
     intro e
     rw [e, ws_zero] at h
     subst h
     cases h1
   obtain ⟨p, q, hp, hq0, hq1⟩ := ws_last h0
   rw [← h] at hp
   have hpl : l.length = p.length + 1 := by rw [hp]; simp
   have e : w64 ((l.length : Int) - 1) = (p.length : Int) := by rw [w64_eq _ (by omega)]; omega
   rw [e]
   refine ⟨by omega, fun x hx => ?_⟩
   have hx : x = (q : Int) := by
    rw [Int.toNat_natCast, hp] at hx
    simp at hx
    exact hx.symm
   subst hx
   refine ⟨fun i t => ∃ k : Nat, i = k ∧ k ≤ 32 ∧ t = ((q / 2 ^ k : Nat) : Int) ∧ (k = 0 ∨ q / 2 ^ (k - 1) ≠ 0), fun _ t => t.toNat, ⟨0, rfl, by omega, by simp, .inl rfl⟩, ?_⟩
   rintro _ _ ⟨k, rfl, hk, rfl, hge⟩
   refine ⟨fun h2 => ?_, fun h2 => ?_⟩
   · have h2 : q / 2 ^ k ≠ 0 := by
       intro e2
       rw [e2] at h2
       cases h2
     have hk2 : k < 32 := by
      rcases Nat.lt_or_ge k 32 with hc | hc
      · exact hc
      · exfalso
        have : k = 32 := by omega
        subst this
        exact h2 (Nat.div_eq_of_lt hq1)
     have e3 : bShr .u32 ((q / 2 ^ k : Nat) : Int) 1 = ((q / 2 ^ k / 2 : Nat) : Int) := shru (q / 2 ^ k) 1 (by omega) .u32 (by decide)
     rw [e3, w64_succ k (by omega)]
     refine ⟨⟨k + 1, rfl, by omega, by rw [Nat.pow_succ, Nat.div_div_eq_div_mul], .inr (by rw [Nat.add_sub_cancel]; exact h2)⟩, ?_⟩
     show (((q / 2 ^ k / 2 : Nat)) : Int).toNat < (((q / 2 ^ k : Nat)) : Int).toNat
     rw [Int.toNat_natCast, Int.toNat_natCast]
     exact Nat.div_lt_self (Nat.pos_of_ne_zero h2) (by decide)
   · have h2 : q / 2 ^ k = 0 := by
       have : (((q / 2 ^ k : Nat) : Int)) = 0 := by simpa only [bne_eq_false_iff_eq] using h2
       omega
     have hk0 : k ≠ 0 := by
      rintro rfl
      rw [Nat.pow_zero, Nat.div_one] at h2
      exact hq0 h2
     obtain ⟨j, rfl⟩ : ∃ j, k = j + 1 := ⟨k - 1, by omega⟩
     have hge : q / 2 ^ j ≠ 0 := by
      rcases hge with hge | hge
      · omega
      · simpa using hge
     have a1 : q < 2 ^ (j + 1) := by
      rcases Nat.lt_or_ge q (2 ^ (j + 1)) with hc | hc
      · exact hc
      · have := Nat.div_pos hc (Nat.two_pow_pos _)
        omega
     have a2 : 2 ^ j ≤ q := by
      rcases Nat.lt_or_ge q (2 ^ j) with hc | hc
      · exact absurd (Nat.div_eq_of_lt hc) hge
      · exact hc
     rw [w64_eq ((p.length : Int) * 32) (by omega), w64_eq _ (by omega)]
     unfold glengthS
     have hpw : (4294967296 : Nat) ^ p.length = 2 ^ (32 * p.length) := by rw [Nat.pow_mul]
     have hvl : wv l = wv p + 2 ^ (32 * p.length) * q := by
      rw [hp, wv_append, hpw]
      simp [wv]
     have hpl2 : wv p < 2 ^ (32 * p.length) := by
      have : wok p := fun y hy => by
       have := ws_wok (wv l) y (by rw [← h, hp]; exact List.mem_append_left _ hy)
       exact this
      have := wv_lt this
      rwa [hpw] at this
     have b1 : wv l < 2 ^ (32 * p.length + j + 1) := by
      rw [hvl, Nat.add_assoc, Nat.pow_add]
      have : 2 ^ (32 * p.length) * (q + 1) ≤ 2 ^ (32 * p.length) * 2 ^ (j + 1) := Nat.mul_le_mul_left _ (by omega)
      rw [Nat.mul_add] at this
      omega
     have b2 : 2 ^ (32 * p.length + j) ≤ wv l := by
      rw [hvl, Nat.pow_add]
      have : 2 ^ (32 * p.length) * 2 ^ j ≤ 2 ^ (32 * p.length) * q := Nat.mul_le_mul_left _ a2
      omega
     rw [blen_eq b1 b2]
     omega
end Go.Proofs.YtmnlahbngbigdaaGreatDoor
set_option linter.unusedVariables false
set_option linter.unusedSimpArgs false
namespace Go.Proofs.YtmnlahbngbigdaaGreatDoor
open Go.Sy Go.RowKit
def gtwin_vc (u0 : List Int) (K : (List Int) → Prop) : Prop := (u0.length ≤ 140737488355328 → (((([] : List Int).length + u0.length) * 4 ≤ 140737488355328) ∧ (K (([] : List Int) ++ u0))))
def gwords_vc (u0 : Int) (K : (List Int) → Prop) : Prop := ((gtrimS ([wu32 u0, wu32 (bShr .u64 u0 32)] : List Int)).length ≤ 140737488355328 → (K (gtrimS ([wu32 u0, wu32 (bShr .u64 u0 32)] : List Int))))
def gadd_vc (u0 : List Int) (u1 : List Int) (K : (List Int) → Prop) : Prop := (u0.length ≤ 140737488355328 → (u1.length ≤ 140737488355328 → (((decide ((u0.length : Int) < (u1.length : Int))) = true → ((0 ≤ (w64 ((u1.length : Int) + 1)) ∧ (w64 ((u1.length : Int) + 1)) ≤ (w64 ((u1.length : Int) + 1)) ∧ (w64 ((u1.length : Int) + 1)) * 4 ≤ 140737488355328) ∧ (∃ inv58 : Int → Int → (List Int) → Prop, ∃ mu58 : Int → Int → (List Int) → Nat, inv58 0 0 (List.replicate (w64 ((u1.length : Int) + 1)).toNat (0 : Int)) ∧ (∀ (x6 : Int) (x7 : Int) (zg430 : List Int), inv58 x6 x7 zg430 → (((decide (x7 < (u1.length : Int))) = true → ((0 ≤ x7 ∧ x7 < (u1.length : Int)) ∧ (∀ q94, u1[x7.toNat]? = some q94 → (((decide (x7 < (u0.length : Int))) = true → ((0 ≤ x7 ∧ x7 < (u0.length : Int)) ∧ (∀ q132, u0[x7.toNat]? = some q132 → ((0 ≤ x7 ∧ x7 < (zg430.length : Int)) ∧ (inv58 (bShr .u64 (wu64 ((wu64 (x6 + (wu64 q94))) + (wu64 q132))) 32) (w64 (x7 + 1)) (zg430.set x7.toNat (wu32 (wu64 ((wu64 (x6 + (wu64 q94))) + (wu64 q132))))) ∧ mu58 (bShr .u64 (wu64 ((wu64 (x6 + (wu64 q94))) + (wu64 q132))) 32) (w64 (x7 + 1)) (zg430.set x7.toNat (wu32 (wu64 ((wu64 (x6 + (wu64 q94))) + (wu64 q132))))) < mu58 x6 x7 zg430))))) ∧ ((decide (x7 < (u0.length : Int))) = false → ((0 ≤ x7 ∧ x7 < (zg430.length : Int)) ∧ (inv58 (bShr .u64 (wu64 (x6 + (wu64 q94))) 32) (w64 (x7 + 1)) (zg430.set x7.toNat (wu32 (wu64 (x6 + (wu64 q94))))) ∧ mu58 (bShr .u64 (wu64 (x6 + (wu64 q94))) 32) (w64 (x7 + 1)) (zg430.set x7.toNat (wu32 (wu64 (x6 + (wu64 q94))))) < mu58 x6 x7 zg430))))))) ∧ ((decide (x7 < (u1.length : Int))) = false → ((0 ≤ (u1.length : Int) ∧ (u1.length : Int) < (zg430.length : Int)) ∧ ((gtrimS (zg430.set (u1.length : Int).toNat (wu32 x6))).length ≤ 140737488355328 → (K (gtrimS (zg430.set (u1.length : Int).toNat (wu32 x6)))))))))))) ∧ ((decide ((u0.length : Int) < (u1.length : Int))) = false → ((0 ≤ (w64 ((u0.length : Int) + 1)) ∧ (w64 ((u0.length : Int) + 1)) ≤ (w64 ((u0.length : Int) + 1)) ∧ (w64 ((u0.length : Int) + 1)) * 4 ≤ 140737488355328) ∧ (∃ inv282 : Int → Int → (List Int) → Prop, ∃ mu282 : Int → Int → (List Int) → Nat, inv282 0 0 (List.replicate (w64 ((u0.length : Int) + 1)).toNat (0 : Int)) ∧ (∀ (x6 : Int) (x7 : Int) (zg2670 : List Int), inv282 x6 x7 zg2670 → (((decide (x7 < (u0.length : Int))) = true → ((0 ≤ x7 ∧ x7 < (u0.length : Int)) ∧ (∀ q318, u0[x7.toNat]? = some q318 → (((decide (x7 < (u1.length : Int))) = true → ((0 ≤ x7 ∧ x7 < (u1.length : Int)) ∧ (∀ q356, u1[x7.toNat]? = some q356 → ((0 ≤ x7 ∧ x7 < (zg2670.length : Int)) ∧ (inv282 (bShr .u64 (wu64 ((wu64 (x6 + (wu64 q318))) + (wu64 q356))) 32) (w64 (x7 + 1)) (zg2670.set x7.toNat (wu32 (wu64 ((wu64 (x6 + (wu64 q318))) + (wu64 q356))))) ∧ mu282 (bShr .u64 (wu64 ((wu64 (x6 + (wu64 q318))) + (wu64 q356))) 32) (w64 (x7 + 1)) (zg2670.set x7.toNat (wu32 (wu64 ((wu64 (x6 + (wu64 q318))) + (wu64 q356))))) < mu282 x6 x7 zg2670))))) ∧ ((decide (x7 < (u1.length : Int))) = false → ((0 ≤ x7 ∧ x7 < (zg2670.length : Int)) ∧ (inv282 (bShr .u64 (wu64 (x6 + (wu64 q318))) 32) (w64 (x7 + 1)) (zg2670.set x7.toNat (wu32 (wu64 (x6 + (wu64 q318))))) ∧ mu282 (bShr .u64 (wu64 (x6 + (wu64 q318))) 32) (w64 (x7 + 1)) (zg2670.set x7.toNat (wu32 (wu64 (x6 + (wu64 q318))))) < mu282 x6 x7 zg2670))))))) ∧ ((decide (x7 < (u0.length : Int))) = false → ((0 ≤ (u0.length : Int) ∧ (u0.length : Int) < (zg2670.length : Int)) ∧ ((gtrimS (zg2670.set (u0.length : Int).toNat (wu32 x6))).length ≤ 140737488355328 → (K (gtrimS (zg2670.set (u0.length : Int).toNat (wu32 x6)))))))))))))))
def gmul_vc (u0 : List Int) (u1 : List Int) (K : (List Int) → Prop) : Prop := (u0.length ≤ 140737488355328 → (u1.length ≤ 140737488355328 → (((((u0.length : Int) == 0) || ((u1.length : Int) == 0)) = true → (K [])) ∧ ((((u0.length : Int) == 0) || ((u1.length : Int) == 0)) = false → ((0 ≤ (w64 ((u0.length : Int) + (u1.length : Int))) ∧ (w64 ((u0.length : Int) + (u1.length : Int))) ≤ (w64 ((u0.length : Int) + (u1.length : Int))) ∧ (w64 ((u0.length : Int) + (u1.length : Int))) * 4 ≤ 140737488355328) ∧ (∃ inv61 : Int → (List Int) → Prop, ∃ mu61 : Int → (List Int) → Nat, inv61 0 (List.replicate (w64 ((u0.length : Int) + (u1.length : Int))).toNat (0 : Int)) ∧ (∀ (x6 : Int) (zg490 : List Int), inv61 x6 zg490 → (((decide (x6 < (u0.length : Int))) = true → (∃ inv92 : Int → Int → (List Int) → Prop, ∃ mu92 : Int → Int → (List Int) → Nat, inv92 0 0 zg490 ∧ (∀ (x7 : Int) (x8 : Int) (zg490v : List Int), inv92 x7 x8 zg490v → (((decide (x8 < (u1.length : Int))) = true → ((0 ≤ x6 ∧ x6 < (u0.length : Int)) ∧ (∀ q145, u0[x6.toNat]? = some q145 → ((0 ≤ x8 ∧ x8 < (u1.length : Int)) ∧ (∀ q163, u1[x8.toNat]? = some q163 → ((0 ≤ w64 (x6 + x8) ∧ w64 (x6 + x8) < (zg490v.length : Int)) ∧ (∀ q185, zg490v[(w64 (x6 + x8)).toNat]? = some q185 → ((0 ≤ w64 (x6 + x8) ∧ w64 (x6 + x8) < (zg490v.length : Int)) ∧ (inv92 (bShr .u64 (wu64 (x7 + (wu64 ((wu64 ((wu64 q145) * (wu64 q163))) + (wu64 q185))))) 32) (w64 (x8 + 1)) (zg490v.set (w64 (x6 + x8)).toNat (wu32 (wu64 (x7 + (wu64 ((wu64 ((wu64 q145) * (wu64 q163))) + (wu64 q185))))))) ∧ mu92 (bShr .u64 (wu64 (x7 + (wu64 ((wu64 ((wu64 q145) * (wu64 q163))) + (wu64 q185))))) 32) (w64 (x8 + 1)) (zg490v.set (w64 (x6 + x8)).toNat (wu32 (wu64 (x7 + (wu64 ((wu64 ((wu64 q145) * (wu64 q163))) + (wu64 q185))))))) < mu92 x7 x8 zg490v))))))))) ∧ ((decide (x8 < (u1.length : Int))) = false → ((0 ≤ w64 (x6 + (u1.length : Int)) ∧ w64 (x6 + (u1.length : Int)) < (zg490v.length : Int)) ∧ (inv61 (w64 (x6 + 1)) (zg490v.set (w64 (x6 + (u1.length : Int))).toNat (wu32 x7)) ∧ mu61 (w64 (x6 + 1)) (zg490v.set (w64 (x6 + (u1.length : Int))).toNat (wu32 x7)) < mu61 x6 zg490))))))) ∧ ((decide (x6 < (u0.length : Int))) = false → ((gtrimS zg490).length ≤ 140737488355328 → (K (gtrimS zg490))))))))))))
def gleft_vc (u0 : List Int) (u1 : Int) (K : (List Int) → Prop) : Prop := (u0.length ≤ 140737488355328 → ((((u0.length : Int) == 0) = true → (K [])) ∧ (((u0.length : Int) == 0) = false → ((0 ≤ (w64 ((w64 ((u0.length : Int) + (w64 (wu64 (u1.tdiv 32))))) + 1)) ∧ (w64 ((w64 ((u0.length : Int) + (w64 (wu64 (u1.tdiv 32))))) + 1)) ≤ (w64 ((w64 ((u0.length : Int) + (w64 (wu64 (u1.tdiv 32))))) + 1)) ∧ (w64 ((w64 ((u0.length : Int) + (w64 (wu64 (u1.tdiv 32))))) + 1)) * 4 ≤ 140737488355328) ∧ (∃ inv61 : Int → (List Int) → Prop, ∃ mu61 : Int → (List Int) → Nat, inv61 0 (List.replicate (w64 ((w64 ((u0.length : Int) + (w64 (wu64 (u1.tdiv 32))))) + 1)).toNat (0 : Int)) ∧ (∀ (x8 : Int) (zg490 : List Int), inv61 x8 zg490 → (((decide (x8 < (u0.length : Int))) = true → ((0 ≤ x8 ∧ x8 < (u0.length : Int)) ∧ (∀ q95, u0[x8.toNat]? = some q95 → ((0 ≤ u1.tmod 32) ∧ ((0 ≤ w64 (x8 + (w64 (wu64 (u1.tdiv 32)))) ∧ w64 (x8 + (w64 (wu64 (u1.tdiv 32)))) < (zg490.length : Int)) ∧ (∀ q129, zg490[(w64 (x8 + (w64 (wu64 (u1.tdiv 32))))).toNat]? = some q129 → ((0 ≤ w64 (x8 + (w64 (wu64 (u1.tdiv 32)))) ∧ w64 (x8 + (w64 (wu64 (u1.tdiv 32)))) < (zg490.length : Int)) ∧ ((0 ≤ w64 ((w64 (x8 + (w64 (wu64 (u1.tdiv 32))))) + 1) ∧ w64 ((w64 (x8 + (w64 (wu64 (u1.tdiv 32))))) + 1) < ((zg490.set (w64 (x8 + (w64 (wu64 (u1.tdiv 32))))).toNat (bOr .u32 q129 (wu32 (bShl .u64 (wu64 q95) (u1.tmod 32))))).length : Int)) ∧ (∀ q170, (zg490.set (w64 (x8 + (w64 (wu64 (u1.tdiv 32))))).toNat (bOr .u32 q129 (wu32 (bShl .u64 (wu64 q95) (u1.tmod 32)))))[(w64 ((w64 (x8 + (w64 (wu64 (u1.tdiv 32))))) + 1)).toNat]? = some q170 → ((0 ≤ w64 ((w64 (x8 + (w64 (wu64 (u1.tdiv 32))))) + 1) ∧ w64 ((w64 (x8 + (w64 (wu64 (u1.tdiv 32))))) + 1) < ((zg490.set (w64 (x8 + (w64 (wu64 (u1.tdiv 32))))).toNat (bOr .u32 q129 (wu32 (bShl .u64 (wu64 q95) (u1.tmod 32))))).length : Int)) ∧ (inv61 (w64 (x8 + 1)) ((zg490.set (w64 (x8 + (w64 (wu64 (u1.tdiv 32))))).toNat (bOr .u32 q129 (wu32 (bShl .u64 (wu64 q95) (u1.tmod 32))))).set (w64 ((w64 (x8 + (w64 (wu64 (u1.tdiv 32))))) + 1)).toNat (bOr .u32 q170 (wu32 (bShr .u64 (bShl .u64 (wu64 q95) (u1.tmod 32)) 32)))) ∧ mu61 (w64 (x8 + 1)) ((zg490.set (w64 (x8 + (w64 (wu64 (u1.tdiv 32))))).toNat (bOr .u32 q129 (wu32 (bShl .u64 (wu64 q95) (u1.tmod 32))))).set (w64 ((w64 (x8 + (w64 (wu64 (u1.tdiv 32))))) + 1)).toNat (bOr .u32 q170 (wu32 (bShr .u64 (bShl .u64 (wu64 q95) (u1.tmod 32)) 32)))) < mu61 x8 zg490))))))))))) ∧ ((decide (x8 < (u0.length : Int))) = false → ((gtrimS zg490).length ≤ 140737488355328 → (K (gtrimS zg490)))))))))))
def ggive_vc (u0 : BInt) (u1 : Bool) (u2 : List Int) (K : BInt → Prop) : Prop := (u0.abs.length ≤ 140737488355328 → (u2.length ≤ 140737488355328 → (K (⟨u1 && (decide ((u2.length : Int) > 0)), u2⟩ : BInt))))
def ggive (u0 : BInt) (u1 : Bool) (u2 : List Int) : BInt :=
 (⟨u1 && (decide ((u2.length : Int) > 0)), u2⟩ : BInt)
theorem ggive_ok (u0 : BInt) (u1 : Bool) (u2 : List Int) : ggive_vc u0 u1 u2 (fun r => r = ggive u0 u1 u2) := (fun _ => (fun _ => (by rfl)))
def glow_vc (u0 : BInt) (u1 : Int) (K : ((List Int) × BInt) → Prop) : Prop := (u0.abs.length ≤ 140737488355328 → ((0 ≤ u1 ∧ u1 ≤ u1 ∧ u1 * 4 ≤ 140737488355328) ∧ ((u0.neg = false) ∧ (K (((List.replicate u1.toNat (0 : Int)).take 0 ++ u0.abs.take (min u0.abs.length (List.replicate u1.toNat (0 : Int)).length) ++ (List.replicate u1.toNat (0 : Int)).drop (0 + min u0.abs.length (List.replicate u1.toNat (0 : Int)).length)), u0)))))
def guint64_vc (u0 : BInt) (K : (Int × BInt) → Prop) : Prop := (u0.abs.length ≤ 140737488355328 → (((decide ((u0.abs.length : Int) > 0)) = true → ((0 ≤ (0 : Int) ∧ (0 : Int) < (u0.abs.length : Int)) ∧ (∀ q41, u0.abs[(0 : Int).toNat]? = some q41 → (((decide ((u0.abs.length : Int) > 1)) = true → ((0 ≤ (1 : Int) ∧ (1 : Int) < (u0.abs.length : Int)) ∧ (∀ q85, u0.abs[(1 : Int).toNat]? = some q85 → (K (bOr .u64 (wu64 q41) (bShl .u64 (wu64 q85) 32), u0))))) ∧ ((decide ((u0.abs.length : Int) > 1)) = false → (K (wu64 q41, u0))))))) ∧ ((decide ((u0.abs.length : Int) > 0)) = false → (((decide ((u0.abs.length : Int) > 1)) = true → ((0 ≤ (1 : Int) ∧ (1 : Int) < (u0.abs.length : Int)) ∧ (∀ q145, u0.abs[(1 : Int).toNat]? = some q145 → (K (bOr .u64 0 (bShl .u64 (wu64 q145) 32), u0))))) ∧ ((decide ((u0.abs.length : Int) > 1)) = false → (K (0, u0)))))))
theorem shr32 (n : Nat) : bShr .u64 (n : Int) 32 = ((n / 2 ^ 32 : Nat) : Int) := shru n 32 (by omega) .u64 (by decide)
theorem take_set_self {α : Type} (l : List α) (k : Nat) (x : α) : (l.set k x).take k = l.take k := by
 apply List.ext_getElem?
 intro j
 rw [List.getElem?_take, List.getElem?_take]
 split
 · rw [List.getElem?_set_ne (by omega)]
 · rfl
theorem wv_take_set {l : List Int} {k d : Nat} (h : k < l.length) : wv ((l.set k (d : Int)).take (k + 1)) = wv (l.take k) + 4294967296 ^ k * d := by
 have h1 : (l.set k (d : Int))[k]? = some (d : Int) := by rw [List.getElem?_set_self (by omega)]
 rw [wv_next h1, take_set_self]
theorem bor64 (x y : Nat) (hx : x < 18446744073709551616) (hy : y < 18446744073709551616) : bOr .u64 (x : Int) (y : Int) = ((x ||| y : Nat) : Int) := by
 have e : (BitVec.ofInt IntKind.u64.bits (x : Int) ||| BitVec.ofInt IntKind.u64.bits (y : Int)).toNat = x ||| y := by
  rw [BitVec.toNat_or]
  show (BitVec.ofInt 64 (x : Int)).toNat ||| (BitVec.ofInt 64 (y : Int)).toNat = _
  rw [ofInt_toNat x hx, ofInt_toNat y hy]
 unfold bOr
 rw [e]
 have := Nat.or_lt_two_pow (x := x) (y := y) (n := 64) hx hy
 exact wu64_eq _ (by omega)
theorem ofInt32_toNat (a : Nat) (h : a < 4294967296) : (BitVec.ofInt 32 (a : Int)).toNat = a := by simp; omega
theorem wu32_eq (n : Nat) (h : n < 4294967296) : wu32 (n : Int) = (n : Int) := by rw [wu32_nat, Nat.mod_eq_of_lt h]
theorem bor32 (x y : Nat) (hx : x < 4294967296) (hy : y < 4294967296) : bOr .u32 (x : Int) (y : Int) = ((x ||| y : Nat) : Int) := by
 have e : (BitVec.ofInt IntKind.u32.bits (x : Int) ||| BitVec.ofInt IntKind.u32.bits (y : Int)).toNat = x ||| y := by
  rw [BitVec.toNat_or]
  show (BitVec.ofInt 32 (x : Int)).toNat ||| (BitVec.ofInt 32 (y : Int)).toNat = _
  rw [ofInt32_toNat x hx, ofInt32_toNat y hy]
 unfold bOr
 rw [e]
 exact wu32_eq _ (Nat.or_lt_two_pow (n := 32) hx hy)
theorem bxor32 (x y : Nat) (hx : x < 4294967296) (hy : y < 4294967296) : bXor .u32 (x : Int) (y : Int) = ((x ^^^ y : Nat) : Int) := by
 have e : (BitVec.ofInt IntKind.u32.bits (x : Int) ^^^ BitVec.ofInt IntKind.u32.bits (y : Int)).toNat = x ^^^ y := by
  rw [BitVec.toNat_xor]
  show (BitVec.ofInt 32 (x : Int)).toNat ^^^ (BitVec.ofInt 32 (y : Int)).toNat = _
  rw [ofInt32_toNat x hx, ofInt32_toNat y hy]
 unfold bXor
 rw [e]
 exact wu32_eq _ (Nat.xor_lt_two_pow (n := 32) hx hy)
theorem shlu (n s : Nat) (hs : s ≤ 64) (h : n * 2 ^ s < 18446744073709551616) : bShl .u64 (n : Int) (s : Int) = ((n * 2 ^ s : Nat) : Int) := by
 unfold bShl
 have e : min (s : Int).toNat IntKind.u64.bits = s := by rw [Int.toNat_natCast]; exact Nat.min_eq_left hs
 rw [e]
 have e2 : (n : Int) * 2 ^ s = ((n * 2 ^ s : Nat) : Int) := by norm_cast
 rw [e2]
 exact wu64_eq _ (by omega)
def gtwinS (l : List Int) : List Int := l
theorem gtwin_ok (l : List Int) (h : l.length ≤ 1000000) : gtwin_vc l (fun r => r = gtwinS l) := fun _ => ⟨by simp; omega, rfl⟩
def gwordsS (x : Int) : List Int := ws x.toNat
theorem gwords_ok (x : Int) (h : 0 ≤ x ∧ x ≤ 18446744073709551615) : gwords_vc x (fun r => r = gwordsS x) := by
 intro _
 obtain ⟨n, rfl⟩ : ∃ n : Nat, x = n := ⟨x.toNat, by omega⟩
 have e : bShr .u64 (n : Int) 32 = ((n / 2 ^ 32 : Nat) : Int) := shru n 32 (by omega) .u64 (by decide)
 rw [e, wu32_nat, wu32_nat]
 have hw : wok [((n % 4294967296 : Nat) : Int), ((n / 2 ^ 32 % 4294967296 : Nat) : Int)] := by
  intro y hy
  rcases List.mem_cons.1 hy with rfl | hy
  · omega
  · rw [List.mem_singleton.1 hy]; omega
 rw [gtrim_ws hw]
 unfold gwordsS
 congr 1
 simp only [wv, Int.toNat_natCast]
 omega
def gaddS (a b : List Int) : List Int := ws (wv a + wv b)
theorem gadd_loop (a b : List Int) (hab : b.length ≤ a.length) (ha : wok a) (hb : wok b) (hl : a.length ≤ 1000000) {Q : List Int → Prop} (hQ : ∀ l, l = ws (wv a + wv b) → Q l) : ((0 ≤ (w64 ((a.length : Int) + 1)) ∧ (w64 ((a.length : Int) + 1)) ≤ (w64 ((a.length : Int) + 1)) ∧ (w64 ((a.length : Int) + 1)) * 4 ≤ 140737488355328) ∧ (∃ inv59 : Int → Int → (List Int) → Prop, ∃ mu59 : Int → Int → (List Int) → Nat, inv59 0 0 (List.replicate (w64 ((a.length : Int) + 1)).toNat (0 : Int)) ∧ (∀ (x6 : Int) (x7 : Int) (zg430 : List Int), inv59 x6 x7 zg430 → (((decide (x7 < (a.length : Int))) = true → ((0 ≤ x7 ∧ x7 < (a.length : Int)) ∧ (∀ q95, a[x7.toNat]? = some q95 → (((decide (x7 < (b.length : Int))) = true → ((0 ≤ x7 ∧ x7 < (b.length : Int)) ∧ (∀ q134, b[x7.toNat]? = some q134 → ((0 ≤ x7 ∧ x7 < (zg430.length : Int)) ∧ (inv59 (bShr .u64 (wu64 ((wu64 (x6 + (wu64 q95))) + (wu64 q134))) 32) (w64 (x7 + 1)) (zg430.set x7.toNat (wu32 (wu64 ((wu64 (x6 + (wu64 q95))) + (wu64 q134))))) ∧ mu59 (bShr .u64 (wu64 ((wu64 (x6 + (wu64 q95))) + (wu64 q134))) 32) (w64 (x7 + 1)) (zg430.set x7.toNat (wu32 (wu64 ((wu64 (x6 + (wu64 q95))) + (wu64 q134))))) < mu59 x6 x7 zg430))))) ∧ ((decide (x7 < (b.length : Int))) = false → ((0 ≤ x7 ∧ x7 < (zg430.length : Int)) ∧ (inv59 (bShr .u64 (wu64 (x6 + (wu64 q95))) 32) (w64 (x7 + 1)) (zg430.set x7.toNat (wu32 (wu64 (x6 + (wu64 q95))))) ∧ mu59 (bShr .u64 (wu64 (x6 + (wu64 q95))) 32) (w64 (x7 + 1)) (zg430.set x7.toNat (wu32 (wu64 (x6 + (wu64 q95))))) < mu59 x6 x7 zg430))))))) ∧ ((decide (x7 < (a.length : Int))) = false → ((0 ≤ (a.length : Int) ∧ (a.length : Int) < (zg430.length : Int)) ∧ ((gtrimS (zg430.set (a.length : Int).toNat (wu32 x6))).length ≤ 140737488355328 → (Q (gtrimS (zg430.set (a.length : Int).toNat (wu32 x6))))))))))) := by
 have e0 : w64 ((a.length : Int) + 1) = ((a.length + 1 : Nat) : Int) := w64_succ _ (by omega)
 rw [e0]
 refine ⟨by omega, fun c i z => ∃ (cn k : Nat), c = cn ∧ i = k ∧ k ≤ a.length ∧ cn ≤ 1 ∧ z.length = a.length + 1 ∧ wok z ∧ wv (z.take k) + 4294967296 ^ k * cn = wv (a.take k) + wv (b.take k), fun _ i _ => a.length - i.toNat, ⟨0, 0, rfl, rfl, by omega, by omega, by simp, wok_rep _, by simp [wv]⟩, ?_⟩
 rintro _ _ z ⟨c, k, rfl, rfl, hk, hc, hz, hw, hv⟩
 have hmax : k < a.length → ∀ s : Nat, s ≤ 8589934591 → ∀ p n : Nat, s = c + n + p → a[k]? = some (n : Int) → wv (b.take (k + 1)) = wv (b.take k) + 4294967296 ^ k * p →
   (∃ (cn j : Nat), bShr .u64 (s : Int) 32 = cn ∧ w64 ((k : Int) + 1) = j ∧ j ≤ a.length ∧ cn ≤ 1 ∧ (z.set k (wu32 (s : Int))).length = a.length + 1 ∧ wok (z.set k (wu32 (s : Int))) ∧ wv ((z.set k (wu32 (s : Int))).take j) + 4294967296 ^ j * cn = wv (a.take j) + wv (b.take j)) ∧ a.length - (w64 ((k : Int) + 1)).toNat < a.length - k := by
  intro hka s hs p n hsum hn hp
  rw [w64_succ k (by omega), wu32_nat, shr32 s]
  refine ⟨⟨s / 2 ^ 32, k + 1, rfl, rfl, by omega, by omega, by rw [List.length_set]; exact hz, wok_set hw _ _ (Nat.mod_lt _ (by decide)), ?_⟩, by rw [Int.toNat_natCast]; omega⟩
  rw [wv_take_set (by omega), wv_next hn, hp, Nat.pow_succ]
  have h1 : 4294967296 ^ k * s = 4294967296 ^ k * (s % 4294967296) + 4294967296 ^ k * 4294967296 * (s / 2 ^ 32) := by
   rw [Nat.mul_assoc, ← Nat.mul_add]
   congr 1
   omega
  have h2 : 4294967296 ^ k * s = 4294967296 ^ k * c + 4294967296 ^ k * n + 4294967296 ^ k * p := by rw [hsum, Nat.mul_add, Nat.mul_add]
  generalize 4294967296 ^ k * s = A1 at *
  omega
 refine ⟨fun h1 => ?_, fun h1 => ?_⟩
 · have hka : k < a.length := by have := of_decide_eq_true h1; omega
   refine ⟨by omega, fun q hq => ?_⟩
   rw [Int.toNat_natCast] at hq
   obtain ⟨n, rfl, hn⟩ := wok_at ha hq
   rw [wu64_eq (n : Int) (by omega), wu64_eq ((c : Int) + n) (by omega)]
   refine ⟨fun h2 => ⟨by have := of_decide_eq_true h2; omega, fun p hp => ⟨by omega, ?_⟩⟩, fun h2 => ⟨by omega, ?_⟩⟩
   · rw [Int.toNat_natCast] at hp ⊢
     obtain ⟨m, rfl, hm⟩ := wok_at hb hp
     rw [wu64_eq (m : Int) (by omega), wu64_eq ((c : Int) + n + m) (by omega)]
     exact hmax hka (c + n + m) (by omega) m n rfl hq (wv_next hp)
   · rw [Int.toNat_natCast]
     have hkb : b.length ≤ k := by have := of_decide_eq_false h2; omega
     refine hmax hka (c + n) (by omega) 0 n rfl hq ?_
     have t1 : b.take (k + 1) = b := List.take_of_length_le (by omega)
     have t2 : b.take k = b := List.take_of_length_le hkb
     rw [t1, t2]
     rfl
 · have hka : k = a.length := by have := of_decide_eq_false h1; omega
   subst hka
   refine ⟨by omega, fun _ => hQ _ ?_⟩
   rw [Int.toNat_natCast, wu32_nat, gtrim_ws (wok_set hw _ _ (Nat.mod_lt _ (by decide)))]
   congr 1
   have h2 := wv_take_set (l := z) (k := a.length) (d := c % 4294967296) (by omega)
   have t1 : (z.set a.length ((c % 4294967296 : Nat) : Int)).take (a.length + 1) = z.set a.length ((c % 4294967296 : Nat) : Int) := List.take_of_length_le (by rw [List.length_set]; omega)
   have t2 : b.take a.length = b := List.take_of_length_le hab
   rw [t1] at h2
   rw [List.take_length, t2] at hv
   rw [h2, Nat.mod_eq_of_lt (by omega)]
   exact hv
theorem gadd_ok (a b : List Int) (h : wok a ∧ wok b ∧ a.length ≤ 1000000 ∧ b.length ≤ 1000000) : gadd_vc a b (fun r => r = gaddS a b) := by
 obtain ⟨ha, hb, la, lb⟩ := h
 intro _ _
 refine ⟨fun h1 => ?_, fun h1 => ?_⟩
 · exact gadd_loop (Q := fun r => r = gaddS a b) b a (by have := of_decide_eq_true h1; omega) hb ha lb fun l h => by
     show l = ws (wv a + wv b)
     rw [h, Nat.add_comm]
 · exact gadd_loop (Q := fun r => r = gaddS a b) a b (by have := of_decide_eq_false h1; omega) ha hb la fun l h => h
def gmulS (a b : List Int) : List Int := ws (wv a * wv b)
theorem mul_lt32 {n p : Nat} (hn : n < 4294967296) (hp : p < 4294967296) : n * p ≤ 18446744065119617025 :=
 Nat.mul_le_mul (Nat.le_of_lt_succ hn) (Nat.le_of_lt_succ hp)
theorem gmul_ok (a b : List Int) (h : wok a ∧ wok b ∧ a.length ≤ 1000 ∧ b.length ≤ 1000) : gmul_vc a b (fun r => r = gmulS a b) := by
 obtain ⟨ha, hb, la, lb⟩ := h
 intro _ _
 refine ⟨fun h1 => ?_, fun h1 => ?_⟩
 · have : a = [] ∨ b = [] := by
     rcases (show ((a.length : Int) == 0) = true ∨ ((b.length : Int) == 0) = true by simpa only [Bool.or_eq_true] using h1) with h1 | h1
     · have h2 : (a.length : Int) = 0 := by simpa only [beq_iff_eq] using h1
       exact .inl (List.eq_nil_of_length_eq_zero (by omega))
     · have h2 : (b.length : Int) = 0 := by simpa only [beq_iff_eq] using h1
       exact .inr (List.eq_nil_of_length_eq_zero (by omega))
   unfold gmulS
   rcases this with rfl | rfl
   · rw [wv, Nat.zero_mul, ws_zero]
   · rw [wv, Nat.mul_zero, ws_zero]
 · have e0 : w64 ((a.length : Int) + (b.length : Int)) = ((a.length + b.length : Nat) : Int) := by rw [w64_eq _ (by omega)]; rfl
   rw [e0]
   refine ⟨by omega, fun i z => ∃ k : Nat, i = k ∧ k ≤ a.length ∧ z.length = a.length + b.length ∧ wok z ∧ wv z = wv (a.take k) * wv b ∧ ∀ j, k + b.length ≤ j → j < a.length + b.length → z[j]? = some 0, fun i _ => a.length - i.toNat, ⟨0, rfl, by omega, by rw [List.length_replicate, Int.toNat_natCast], wok_rep _, by rw [wv_rep]; simp [wv], fun j _ hj => by rw [Int.toNat_natCast, List.getElem?_replicate, if_pos hj]⟩, ?_⟩
   rintro _ z ⟨k, rfl, hk, hz, hw, hv, h0⟩
   refine ⟨fun h2 => ?_, fun h2 => ?_⟩
   · have hka : k < a.length := by have := of_decide_eq_true h2; omega
     obtain ⟨x, hx⟩ : ∃ x, a[k]? = some x := ⟨_, List.getElem?_eq_getElem hka⟩
     obtain ⟨n, rfl, hn⟩ := wok_at ha hx
     refine ⟨fun c j y => ∃ (cn m : Nat), c = cn ∧ j = m ∧ m ≤ b.length ∧ cn < 4294967296 ∧ y.length = a.length + b.length ∧ wok y ∧ wv y + 4294967296 ^ (k + m) * cn = wv z + 4294967296 ^ k * (n * wv (b.take m)) ∧ ∀ i, k + b.length ≤ i → i < a.length + b.length → y[i]? = some 0, fun _ j _ => b.length - j.toNat, ⟨0, 0, rfl, rfl, by omega, by omega, hz, hw, by simp [wv], h0⟩, ?_⟩
     rintro _ _ y ⟨c, m, rfl, rfl, hm, hc, hy, hwy, hvy, h0y⟩
     refine ⟨fun h3 => ?_, fun h3 => ?_⟩
     · have hmb : m < b.length := by have := of_decide_eq_true h3; omega
       have e1 : w64 ((k : Int) + (m : Int)) = ((k + m : Nat) : Int) := by rw [w64_eq _ (by omega)]; rfl
       rw [e1]
       refine ⟨by omega, fun q hq => ⟨by omega, fun p hp => ⟨by omega, fun t ht => ⟨by omega, ?_⟩⟩⟩⟩
       rw [Int.toNat_natCast] at hq hp ht ⊢
       rw [hx] at hq
       cases hq
       obtain ⟨p, rfl, hpp⟩ := wok_at hb hp
       obtain ⟨t, rfl, htt⟩ := wok_at hwy ht
       have hnp := mul_lt32 hn hpp
       have e2 : (n : Int) * (p : Int) = ((n * p : Nat) : Int) := by norm_cast
       rw [wu64_eq (n : Int) (by omega), wu64_eq (p : Int) (by omega), wu64_eq (t : Int) (by omega), e2]
       have hvb := wv_next hp
       generalize hs : n * p = np at *
       rw [wu64_eq (np : Int) (by omega), wu64_eq ((np : Int) + t) (by omega), wu64_eq ((c : Int) + ((np : Int) + t)) (by omega)]
       have e3 : ((c : Int) + ((np : Int) + t)) = ((c + (np + t) : Nat) : Int) := by norm_cast
       rw [e3, w64_succ m (by omega), wu32_nat, shr32]
       have hset := wv_set y (k + m) t ((c + (np + t)) % 4294967296) ht
       refine ⟨⟨(c + (np + t)) / 2 ^ 32, m + 1, rfl, rfl, by omega, by omega, by rw [List.length_set]; exact hy, wok_set hwy _ _ (Nat.mod_lt _ (by decide)), ?_, fun i hi1 hi2 => ?_⟩, by (try dsimp only); omega⟩
       · rw [hvb, Nat.mul_add, Nat.mul_add, ← Nat.add_assoc k m 1, Nat.pow_succ]
         have h4 : 4294967296 ^ k * (n * (4294967296 ^ m * p)) = 4294967296 ^ (k + m) * np := by
          rw [Nat.pow_add, Nat.mul_left_comm n, hs, Nat.mul_assoc]
         rw [h4]
         have h5 : 4294967296 ^ (k + m) * (c + (np + t)) = 4294967296 ^ (k + m) * ((c + (np + t)) % 4294967296) + 4294967296 ^ (k + m) * 4294967296 * ((c + (np + t)) / 2 ^ 32) := by
          rw [Nat.mul_assoc, ← Nat.mul_add]
          congr 1
          omega
         rw [Nat.mul_add, Nat.mul_add] at h5
         generalize 4294967296 ^ (k + m) * np = A1 at *
         generalize 4294967296 ^ (k + m) * t = A2 at *
         generalize 4294967296 ^ (k + m) * c = A3 at *
         generalize 4294967296 ^ (k + m) * ((c + (np + t)) % 4294967296) = A4 at *
         generalize 4294967296 ^ (k + m) * 4294967296 * ((c + (np + t)) / 2 ^ 32) = A5 at *
         generalize 4294967296 ^ k * (n * wv (b.take m)) = A6 at *
         omega
       · rw [List.getElem?_set_ne (by omega)]
         exact h0y i hi1 hi2
     · have hmb : m = b.length := by have := of_decide_eq_false h3; omega
       subst hmb
       have e1 : w64 ((k : Int) + (b.length : Int)) = ((k + b.length : Nat) : Int) := by rw [w64_eq _ (by omega)]; rfl
       have hz0 : y[k + b.length]? = some ((0 : Nat) : Int) := h0y (k + b.length) (by omega) (by omega)
       rw [e1]
       refine ⟨by omega, ?_⟩
       rw [Int.toNat_natCast, w64_succ k (by omega), wu32_eq c hc]
       have hset := wv_set y (k + b.length) 0 c hz0
       rw [Nat.mul_zero, Nat.add_zero] at hset
       refine ⟨⟨k + 1, rfl, by omega, by rw [List.length_set]; exact hy, wok_set hwy _ _ hc, ?_, fun j hj1 hj2 => ?_⟩, by (try dsimp only); omega⟩
       · rw [hset, hvy, List.take_length, wv_next hx, hv, Nat.add_mul, Nat.mul_assoc]
       · rw [List.getElem?_set_ne (by omega)]
         exact h0y j (by omega) hj2
   · have hka : k = a.length := by have := of_decide_eq_false h2; omega
     subst hka
     intro _
     rw [gtrim_ws hw, hv, List.take_length]
     rfl
def gleftS (a : List Int) (s : Int) : List Int := ws (wv a * 2 ^ s.toNat)
theorem or_add {t lo r m : Nat} (ht : t < 2 ^ r) (hlo : lo = m * 2 ^ r) : t ||| lo = t + lo := by
 have := Nat.shiftLeft_add_eq_or_of_lt (i := r) (b := t) ht m
 rw [Nat.shiftLeft_eq, ← hlo] at this
 rw [Nat.or_comm, ← this, Nat.add_comm]
theorem gleft_ok (a : List Int) (s : Int) (h : wok a ∧ a.length ≤ 1000 ∧ 0 ≤ s ∧ s ≤ 100000) : gleft_vc a s (fun r => r = gleftS a s) := by
 obtain ⟨ha, la, hs0, hs1⟩ := h
 obtain ⟨s, rfl⟩ : ∃ n : Nat, s = n := ⟨s.toNat, by omega⟩
 intro _
 refine ⟨fun h1 => ?_, fun h1 => ?_⟩
 · have h2 : (a.length : Int) = 0 := by simpa only [beq_iff_eq] using h1
   have h3 : a = [] := List.eq_nil_of_length_eq_zero (by omega)
   subst h3
   unfold gleftS
   rw [wv, Nat.zero_mul, ws_zero]
 · have t1 : ((s : Int).tdiv 32) = ((s / 32 : Nat) : Int) := by rw [Int.tdiv_eq_ediv_of_nonneg (by omega)]; omega
   have t2 : ((s : Int).tmod 32) = ((s % 32 : Nat) : Int) := by rw [Int.tmod_eq_emod_of_nonneg (by omega)]; omega
   rw [t1, t2]
   have hsd : s = 32 * (s / 32) + s % 32 := by omega
   have hr : s % 32 < 32 := by omega
   have hwb : s / 32 ≤ 3125 := by omega
   have hpow : 2 ^ s = 4294967296 ^ (s / 32) * 2 ^ (s % 32) := by
    rw [show (4294967296 : Nat) = 2 ^ 32 from rfl, ← Nat.pow_mul, ← Nat.pow_add, ← hsd]
   unfold gleftS
   rw [Int.toNat_natCast, hpow]
   generalize s / 32 = w at *
   generalize s % 32 = r at *
   have e1 : wu64 (w : Int) = (w : Int) := wu64_eq _ (by omega)
   have e2 : w64 (w : Int) = (w : Int) := w64_eq _ (by omega)
   have e3 : w64 ((a.length : Int) + w) = ((a.length + w : Nat) : Int) := by rw [w64_eq _ (by omega)]; rfl
   rw [e1, e2, e3, w64_succ _ (by omega)]
   have p32 : 2 ^ 32 = 2 ^ (32 - r) * 2 ^ r := by rw [← Nat.pow_add]; congr 1; omega
   have pr0 := Nat.two_pow_pos r
   have pr1 : 2 ^ r ≤ 2147483648 := (show 2 ^ r ≤ 2 ^ 31 from Nat.pow_le_pow_right (by omega) (by omega))
   refine ⟨by omega, fun i z => ∃ k : Nat, i = k ∧ k ≤ a.length ∧ z.length = a.length + w + 1 ∧ wok z ∧ wv z = wv (a.take k) * (4294967296 ^ w * 2 ^ r) ∧ (∀ j, k + w + 1 ≤ j → j < a.length + w + 1 → z[j]? = some 0) ∧ ∃ t : Nat, z[k + w]? = some (t : Int) ∧ t < 2 ^ r, fun i _ => a.length - i.toNat, ⟨0, rfl, by omega, by rw [List.length_replicate, Int.toNat_natCast], wok_rep _, by rw [wv_rep]; simp [wv], fun j _ hj => by rw [Int.toNat_natCast, List.getElem?_replicate, if_pos hj], 0, by rw [Int.toNat_natCast, List.getElem?_replicate, if_pos (by omega)]; rfl, pr0⟩, ?_⟩
   rintro _ z ⟨k, rfl, hk, hz, hw, hv, h0, t, ht, htr⟩
   refine ⟨fun h2 => ?_, fun h2 => ?_⟩
   · have hka : k < a.length := by have := of_decide_eq_true h2; omega
     refine ⟨by omega, fun q hq => ⟨by omega, ?_⟩⟩
     rw [Int.toNat_natCast] at hq
     obtain ⟨n, rfl, hn⟩ := wok_at ha hq
     have e4 : w64 ((k : Int) + w) = ((k + w : Nat) : Int) := by rw [w64_eq _ (by omega)]; rfl
     have hvb : n * 2 ^ r < 18446744073709551616 := by
      have := Nat.mul_le_mul (Nat.le_of_lt_succ (show n < 4294967295 + 1 from hn)) pr1
      omega
     rw [e4, w64_succ _ (by omega), wu64_eq (n : Int) (by omega), shlu n r (by omega) hvb, wu32_nat, shr32]
     have hlo : (n * 2 ^ r) % 4294967296 = (n % 2 ^ (32 - r)) * 2 ^ r := by
      rw [show (4294967296 : Nat) = 2 ^ 32 from rfl, p32, Nat.mul_mod_mul_right]
     have hhi : (n * 2 ^ r) / 2 ^ 32 < 2 ^ r := by
      rw [Nat.div_lt_iff_lt_mul (by decide), Nat.mul_comm (2 ^ r)]
      exact Nat.mul_lt_mul_of_pos_right (show n < 2 ^ 32 from hn) pr0
     have hvv : n * 2 ^ r = (n * 2 ^ r) % 4294967296 + 4294967296 * ((n * 2 ^ r) / 2 ^ 32) := by omega
     have hlt : (n * 2 ^ r) % 4294967296 < 4294967296 := Nat.mod_lt _ (by decide)
     generalize hV : n * 2 ^ r = V at *
     generalize V % 4294967296 = lo at *
     generalize V / 2 ^ 32 = hi at *
     refine ⟨by omega, fun t' ht' => ?_⟩
     rw [Int.toNat_natCast] at ht'
     rw [ht] at ht'
     cases ht'
     have hor : t ||| lo = t + lo := or_add htr hlo
     have hsum : t + lo < 4294967296 := by
      rw [← hor]
      exact Nat.or_lt_two_pow (n := 32) (by omega) hlt
     rw [bor32 t lo (by omega) hlt, hor]
     refine ⟨by omega, by rw [List.length_set]; omega, fun u hu => ?_⟩
     rw [Int.toNat_natCast, Int.toNat_natCast] at *
     have hz0 := h0 (k + w + 1) (by omega) (by omega)
     rw [List.getElem?_set_ne (by omega), hz0] at hu
     cases hu
     have hb0 : bOr .u32 0 (wu32 (hi : Int)) = ((hi : Nat) : Int) := by
      have hih : hi < 4294967296 := by omega
      rw [wu32_eq hi hih]
      have := bor32 0 hi (by omega) hih
      rw [Nat.zero_or] at this
      exact this
     refine ⟨by rw [List.length_set]; omega, ?_⟩
     rw [hb0, w64_succ k (by omega)]
     have s1 := wv_set z (k + w) t (t + lo) ht
     have hz1 : (z.set (k + w) ((t + lo : Nat) : Int))[k + w + 1]? = some ((0 : Nat) : Int) := by rw [List.getElem?_set_ne (by omega)]; exact hz0
     have s2 := wv_set (z.set (k + w) ((t + lo : Nat) : Int)) (k + w + 1) 0 hi hz1
     refine ⟨⟨k + 1, rfl, by omega, by rw [List.length_set, List.length_set]; exact hz, wok_set (wok_set hw _ _ hsum) _ _ (by omega), ?_, fun j hj1 hj2 => ?_, hi, ?_, hhi⟩, by (try dsimp only); omega⟩
     · rw [Nat.mul_zero, Nat.add_zero] at s2
       rw [s2, wv_next hq, Nat.add_mul, ← hv]
       have h5 : 4294967296 ^ k * n * (4294967296 ^ w * 2 ^ r) = 4294967296 ^ (k + w) * V := by
        rw [← hV, Nat.pow_add, Nat.mul_assoc, Nat.mul_assoc, Nat.mul_left_comm n]
       rw [h5, hvv, Nat.mul_add, Nat.pow_succ, Nat.mul_assoc (4294967296 ^ (k + w))]
       rw [Nat.mul_add] at s1
       generalize 4294967296 ^ (k + w) * t = A1 at *
       generalize 4294967296 ^ (k + w) * lo = A2 at *
       generalize 4294967296 ^ (k + w) * (4294967296 * hi) = A3 at *
       omega
     · rw [List.getElem?_set_ne (by omega), List.getElem?_set_ne (by omega)]
       exact h0 j (by omega) hj2
     · have e9 : k + 1 + w = k + w + 1 := by omega
       rw [e9, List.getElem?_set_self (by rw [List.length_set]; omega)]
   · have hka : k = a.length := by have := of_decide_eq_false h2; omega
     subst hka
     intro _
     rw [gtrim_ws hw, hv, List.take_length]
def glowS (x : BInt) (n : Int) : List Int × BInt := (x.abs ++ List.replicate (n.toNat - x.abs.length) 0, x)
theorem glow_ok (x : BInt) (n : Int) (h : x.neg = false ∧ (x.abs.length : Int) ≤ n ∧ n ≤ 1000000) : glow_vc x n (fun r => r = glowS x n) := by
 obtain ⟨h1, h2, h3⟩ := h
 intro _
 refine ⟨by omega, h1, ?_⟩
 unfold glowS
 congr 1
 rw [List.length_replicate, Nat.min_eq_left (by omega), List.take_zero, List.nil_append, List.take_length, Nat.zero_add, List.drop_replicate]
def guint64S (x : BInt) : Int × BInt := (((wv x.abs % 18446744073709551616 : Nat) : Int), x)
theorem guint64_ok (x : BInt) (h : wok x.abs) : guint64_vc x (fun r => r = guint64S x) := by
 intro _
 unfold guint64S
 have key : ∀ n m : Nat, n < 4294967296 → m < 4294967296 → bOr .u64 (n : Int) (bShl .u64 (m : Int) 32) = ((n + 4294967296 * m : Nat) : Int) := by
  intro n m hn hm
  have e1 : bShl .u64 (m : Int) 32 = ((m * 2 ^ 32 : Nat) : Int) := shlu m 32 (by omega) (by omega)
  rw [e1, bor64 n _ (by omega) (by omega), or_add (r := 32) hn rfl]
  congr 1
  omega
 obtain ⟨neg, l⟩ := x
 cases l with
 | nil => exact ⟨fun h1 => (by cases h1), fun _ => ⟨fun h1 => (by cases h1), fun _ => rfl⟩⟩
 | cons a l =>
  obtain ⟨h1, h2⟩ := wok_cons h
  obtain ⟨a, rfl⟩ : ∃ n : Nat, a = n := ⟨a.toNat, by omega⟩
  refine ⟨fun _ => ⟨by (simp <;> omega), fun q hq => ?_⟩, fun h3 => ?_⟩
  · cases hq
    rw [wu64_eq (a : Int) (by omega)]
    cases l with
    | nil => exact ⟨fun h3 => absurd h3 (by simp), fun _ => by simp only [wv, Int.toNat_natCast, Nat.mul_zero, Nat.add_zero]; rw [Nat.mod_eq_of_lt (by omega)]⟩
    | cons b l =>
     obtain ⟨h3, h4⟩ := wok_cons h2
     obtain ⟨b, rfl⟩ : ∃ n : Nat, b = n := ⟨b.toNat, by omega⟩
     refine ⟨fun _ => ⟨by (simp <;> omega), fun p hp => ?_⟩, fun h5 => absurd (of_decide_eq_false h5) (by simp <;> omega)⟩
     cases hp
     rw [wu64_eq (b : Int) (by omega), key a b (by omega) (by omega)]
     simp only [wv, Int.toNat_natCast]
     congr 2
     omega
  · exact absurd (of_decide_eq_false h3) (by simp <;> omega)
end Go.Proofs.YtmnlahbngbigdaaGreatDoor
set_option linter.unusedVariables false
set_option linter.unusedSimpArgs false
namespace Go.Proofs.YtmnlahbngbigdaaGreatDoor
open Go.Sy Go.RowKit
def gof_vc (u0 : BInt) (u1 : List Int) (K : BInt → Prop) : Prop := (u0.abs.length ≤ 140737488355328 → (u1.length ≤ 140737488355328 → (((decide ((u1.length : Int) > 0)) = true → ((0 ≤ w64 ((u1.length : Int) - 1) ∧ w64 ((u1.length : Int) - 1) < (u1.length : Int)) ∧ (∀ q38, u1[(w64 ((u1.length : Int) - 1)).toNat]? = some q38 → ((((bShr .u32 q38 31) == 1) = false) ∧ ((gtrimS u1).length ≤ 140737488355328 → (∀ r80, (ggive u0 false (gtrimS u1)) = r80 → (r80.abs.length ≤ 140737488355328 → (K r80)))))))) ∧ ((decide ((u1.length : Int) > 0)) = false → ((gtrimS u1).length ≤ 140737488355328 → (∀ r138, (ggive u0 false (gtrimS u1)) = r138 → (r138.abs.length ≤ 140737488355328 → (K r138))))))))
def gseti_vc (u0 : BInt) (u1 : Int) (K : BInt → Prop) : Prop := (u0.abs.length ≤ 140737488355328 → (((decide (u1 < 0)) = true → ((0 ≤ (wu64 (0 - (wu64 u1))) ∧ (wu64 (0 - (wu64 u1))) ≤ 18446744073709551615) ∧ ((gwordsS (wu64 (0 - (wu64 u1)))).length ≤ 140737488355328 → (∀ r56, (ggive u0 (decide (u1 < 0)) (gwordsS (wu64 (0 - (wu64 u1))))) = r56 → (r56.abs.length ≤ 140737488355328 → (K r56)))))) ∧ ((decide (u1 < 0)) = false → ((0 ≤ (wu64 u1) ∧ (wu64 u1) ≤ 18446744073709551615) ∧ ((gwordsS (wu64 u1)).length ≤ 140737488355328 → (∀ r96, (ggive u0 (decide (u1 < 0)) (gwordsS (wu64 u1))) = r96 → (r96.abs.length ≤ 140737488355328 → (K r96))))))))
def glsh_vc (u0 : BInt) (u1 : BInt) (u2 : Int) (K : (BInt × BInt) → Prop) : Prop := (u0.abs.length ≤ 140737488355328 → (u1.abs.length ≤ 140737488355328 → ((wok u1.abs ∧ u1.abs.length ≤ 1000 ∧ 0 ≤ u2 ∧ u2 ≤ 100000) ∧ (K ((ggive u0 u1.neg (gleftS u1.abs u2)), u1)))))
def glshA_vc (u0 : BInt) (u2 : Int) (K : BInt → Prop) : Prop := (u0.abs.length ≤ 140737488355328 → ((wok u0.abs ∧ u0.abs.length ≤ 1000 ∧ 0 ≤ u2 ∧ u2 ≤ 100000) ∧ (K (ggive u0 u0.neg (gleftS u0.abs u2)))))
def gblen_vc (u0 : BInt) (K : (Int × BInt) → Prop) : Prop := (u0.abs.length ≤ 140737488355328 → ((u0.abs = ws (wv u0.abs) ∧ u0.abs.length ≤ 1000000) ∧ (K ((glengthS u0.abs), u0))))
def gint64_vc (u0 : BInt) (K : (Int × BInt) → Prop) : Prop := (u0.abs.length ≤ 140737488355328 → ((wok u0.abs) ∧ (∀ r18, (guint64S u0) = r18 → (r18.2.abs.length ≤ 140737488355328 → ((r18.2.neg = false) ∧ (K (w64 r18.1, r18.2)))))))
def gsetstr_vc (u0 : BInt) (u1 : List UInt8) (K : (Bool × Bool × BInt) → Prop) : Prop := (u0.abs.length ≤ 140737488355328 → (((decide ((u1.length : Int) > 0)) = true) ∧ ((0 ≤ (0 : Int) ∧ (0 : Int) < (u1.length : Int)) ∧ (∀ c30, u1[(0 : Int).toNat]? = some c30 → ((((c30.toNat : Int) == 45) = false) ∧ ((0 ≤ (0 : Int) ∧ (0 : Int) < (u1.length : Int)) ∧ (∀ c46, u1[(0 : Int).toNat]? = some c46 → ((((c46.toNat : Int) == 43) = false) ∧ ((((((u1.length : Int) == 0) || false) || false) = false) ∧ (∃ inv100 : (List Int) → Int → Prop, ∃ mu100 : (List Int) → Int → Nat, inv100 ([] : List Int) 0 ∧ (∀ (x9 : List Int) (x10 : Int), inv100 x9 x10 → (((decide (x10 < (u1.length : Int))) = true → ((0 ≤ x10 ∧ x10 < (u1.length : Int)) ∧ (∀ c135, u1[x10.toNat]? = some c135 → ((((decide ((c135.toNat : Int) ≥ 48)) && (decide ((c135.toNat : Int) ≤ 57))) = true) ∧ (((decide ((w64 (w8 ((c135.toNat : Int) - 48))) ≥ 2)) = false) ∧ ((0 ≤ (2 : Int) ∧ (2 : Int) ≤ 18446744073709551615) ∧ ((gwordsS 2).length ≤ 140737488355328 → ((wok x9 ∧ wok (gwordsS 2) ∧ x9.length ≤ 1000 ∧ (gwordsS 2).length ≤ 1000) ∧ ((gmulS x9 (gwordsS 2)).length ≤ 140737488355328 → ((0 ≤ (wu64 (w64 (w8 ((c135.toNat : Int) - 48)))) ∧ (wu64 (w64 (w8 ((c135.toNat : Int) - 48)))) ≤ 18446744073709551615) ∧ ((gwordsS (wu64 (w64 (w8 ((c135.toNat : Int) - 48))))).length ≤ 140737488355328 → ((wok (gmulS x9 (gwordsS 2)) ∧ wok (gwordsS (wu64 (w64 (w8 ((c135.toNat : Int) - 48))))) ∧ (gmulS x9 (gwordsS 2)).length ≤ 1000000 ∧ (gwordsS (wu64 (w64 (w8 ((c135.toNat : Int) - 48))))).length ≤ 1000000) ∧ ((gaddS (gmulS x9 (gwordsS 2)) (gwordsS (wu64 (w64 (w8 ((c135.toNat : Int) - 48)))))).length ≤ 140737488355328 → (inv100 (gaddS (gmulS x9 (gwordsS 2)) (gwordsS (wu64 (w64 (w8 ((c135.toNat : Int) - 48)))))) (w64 (x10 + 1)) ∧ mu100 (gaddS (gmulS x9 (gwordsS 2)) (gwordsS (wu64 (w64 (w8 ((c135.toNat : Int) - 48)))))) (w64 (x10 + 1)) < mu100 x9 x10)))))))))))))) ∧ ((decide (x10 < (u1.length : Int))) = false → (∀ r264, (ggive u0 false x9) = r264 → (r264.abs.length ≤ 140737488355328 → (K (true, true, r264)))))))))))))))))
def gset_vc (u0 : BInt) (K : BInt → Prop) : Prop := (u0.abs.length ≤ 140737488355328 → ((u0.abs.length ≤ 1000000) ∧ (K (ggive u0 u0.neg (gtwinS u0.abs)))))
def bigN (n : Nat) : BInt := ⟨false, ws n⟩
def gofS (z : BInt) (l : List Int) : BInt := bigN (wv l)
theorem gof_ok (z : BInt) (l : List Int) (h : wok l ∧ l.length ≤ 1000000 ∧ ∀ q, l[l.length - 1]? = some q → q < 2147483648) : gof_vc z l (fun r => r = gofS z l) := by
 obtain ⟨hw, hl, hq⟩ := h
 have hg : ∀ r, ggive z false (gtrimS l) = r → r = gofS z l := by
  rintro _ rfl
  unfold ggive gofS bigN
  rw [gtrim_ws hw]
  rfl
 intro _ _
 refine ⟨fun h1 => ?_, fun h1 _ r hr _ => hg r hr⟩
 have h1 : 0 < l.length := by have := of_decide_eq_true h1; omega
 have e : w64 ((l.length : Int) - 1) = ((l.length - 1 : Nat) : Int) := by rw [w64_eq _ (by omega)]; omega
 rw [e]
 refine ⟨by omega, fun q hqq => ?_⟩
 rw [Int.toNat_natCast] at hqq
 have hlt := hq q hqq
 obtain ⟨n, rfl, hn⟩ := wok_at hw hqq
 have e2 : bShr .u32 (n : Int) 31 = ((n / 2 ^ 31 : Nat) : Int) := shru n 31 (by omega) .u32 (by decide)
 have e3 : n < 2 ^ 31 := by
  have : (2 : Nat) ^ 31 = 2147483648 := rfl
  omega
 rw [e2, Nat.div_eq_of_lt e3]
 exact ⟨rfl, fun _ r hr _ => hg r hr⟩
def gsetiS (z : BInt) (x : Int) : BInt := bigN x.toNat
theorem gseti_ok (z : BInt) (x : Int) (h : 0 ≤ x ∧ x ≤ 9223372036854775807) : gseti_vc z x (fun r => r = gsetiS z x) := by
 intro _
 have e : wu64 x = x := wu64_eq _ (by omega)
 refine ⟨fun h1 => absurd (of_decide_eq_true h1) (by omega), fun h1 => ?_⟩
 rw [e, h1]
 refine ⟨by omega, fun _ r hr _ => ?_⟩
 subst hr
 rfl
def glshS (z x : BInt) (n : Int) : BInt × BInt := (bigN (wv x.abs * 2 ^ n.toNat), x)
theorem glsh_ok (z x : BInt) (n : Int) (h : x.neg = false ∧ wok x.abs ∧ x.abs.length ≤ 1000 ∧ 0 ≤ n ∧ n ≤ 100000) : glsh_vc z x n (fun r => r = glshS z x n) := by
 obtain ⟨h1, h2⟩ := h
 intro _ _
 refine ⟨h2, ?_⟩
 unfold ggive glshS bigN gleftS
 rw [h1]
 rfl
def glshAS (x : BInt) (n : Int) : BInt := bigN (wv x.abs * 2 ^ n.toNat)
theorem glshA_ok (x : BInt) (n : Int) (h : x.neg = false ∧ wok x.abs ∧ x.abs.length ≤ 1000 ∧ 0 ≤ n ∧ n ≤ 100000) : glshA_vc x n (fun r => r = glshAS x n) := by
 obtain ⟨h1, h2⟩ := h
 intro _
 refine ⟨h2, ?_⟩
 unfold ggive glshAS bigN gleftS
 rw [h1]
 rfl
def gblenS (x : BInt) : Int × BInt := ((blen (wv x.abs) : Int), x)
theorem gblen_ok (x : BInt) (h : x.abs = ws (wv x.abs) ∧ x.abs.length ≤ 1000000) : gblen_vc x (fun r => r = gblenS x) := fun _ => ⟨h, rfl⟩
def gint64S (x : BInt) : Int × BInt := (((wv x.abs : Nat) : Int), x)
theorem gint64_ok (x : BInt) (h : x.neg = false ∧ wok x.abs ∧ wv x.abs < 9223372036854775808) : gint64_vc x (fun r => r = gint64S x) := by
 obtain ⟨h1, h2, h3⟩ := h
 intro _
 refine ⟨h2, ?_⟩
 rintro _ rfl _
 refine ⟨h1, ?_⟩
 unfold guint64S gint64S
 dsimp only
 rw [Nat.mod_eq_of_lt (by omega), w64_eq _ (by omega)]
def gsetS (x : BInt) : BInt := x
def gsetstrS (z : BInt) (s : List UInt8) : Bool × Bool × BInt := (true, true, bigN (val s))
theorem two_words : gwordsS 2 = [2] := by
 unfold gwordsS
 rw [ws_pos (by decide)]
 show [((2 : Nat) : Int)] ++ ws 0 = [2]
 rw [ws_zero]
 rfl
theorem pow_words_k {n k m : Nat} (h : n < 2 ^ k) (hk : k ≤ 32 * m) : (ws n).length ≤ m := by
 refine ws_len m n (Nat.lt_of_lt_of_le h ?_)
 rw [show (4294967296 : Nat) = 2 ^ 32 from rfl, ← Nat.pow_mul]
 exact Nat.pow_le_pow_right (by decide) hk
theorem pow_words {n k : Nat} (h : n < 2 ^ k) (hk : k ≤ 32 * 900) : (ws n).length ≤ 900 := pow_words_k h hk
theorem gsetstr_ok (z : BInt) (s : List UInt8) (h : isRow s = true ∧ s ≠ [] ∧ s.length ≤ 1000) : gsetstr_vc z s (fun r => r = gsetstrS z s) := by
 obtain ⟨hr, hne, hl⟩ := h
 have hpos : 0 < s.length := List.length_pos_iff.2 hne
 intro _
 refine ⟨decide_eq_true (by omega), by omega, fun c hc => ?_⟩
 have hb := isRow_mem hr (List.mem_of_getElem? hc)
 refine ⟨by rcases hb with rfl | rfl <;> rfl, by omega, fun c2 hc2 => ?_⟩
 rw [hc] at hc2
 cases hc2
 refine ⟨by rcases hb with rfl | rfl <;> rfl, ?_, ?_⟩
 · simp only [Bool.or_false, beq_eq_false_iff_ne]
   omega
 · refine ⟨fun x i => ∃ k : Nat, i = k ∧ k ≤ s.length ∧ x = ws (val (s.take k)), fun _ i => s.length - i.toNat, ⟨0, rfl, by omega, by rw [List.take_zero, val, ws_zero]⟩, ?_⟩
   rintro _ _ ⟨k, rfl, hk, rfl⟩
   refine ⟨fun h2 => ?_, fun h2 => ?_⟩
   · have hks : k < s.length := by have := of_decide_eq_true h2; omega
     have hvl : val (s.take k) < 2 ^ k := by
      have := val_lt (isRow_take hr k)
      rwa [List.length_take, Nat.min_eq_left (by omega)] at this
     have hwl : (ws (val (s.take k))).length ≤ 900 := pow_words hvl (by omega)
     refine ⟨by omega, fun q hq => ?_⟩
     · rw [Int.toNat_natCast] at hq
       have hqb := isRow_mem hr (List.mem_of_getElem? hq)
       have hdig : wu64 (w64 (w8 ((q.toNat : Int) - 48))) = ((q.toNat - 48 : Nat) : Int) := by rcases hqb with rfl | rfl <;> rfl
       have hd2 : q.toNat - 48 < 2 := by rcases hqb with rfl | rfl <;> decide
       refine ⟨by rcases hqb with rfl | rfl <;> rfl, by rcases hqb with rfl | rfl <;> rfl, ?_⟩
       rw [two_words, hdig]
       have w2 : wok [(2 : Int)] := fun y hy => by rw [List.mem_singleton.1 hy]; omega
       refine ⟨by omega, fun _ => ⟨⟨ws_wok _, w2, by omega, by decide⟩, fun _ => ⟨by omega, fun _ => ?_⟩⟩⟩
       have hm : gmulS (ws (val (s.take k))) [2] = ws (2 * val (s.take k)) := by
        unfold gmulS
        rw [wv_ws, Nat.mul_comm]
        rfl
       have hml : (ws (2 * val (s.take k))).length ≤ 900 := pow_words (k := k + 1) (by rw [Nat.pow_succ]; omega) (by omega)
       have hdl : (gwordsS ((q.toNat - 48 : Nat) : Int)).length ≤ 900 := by
        unfold gwordsS
        rw [Int.toNat_natCast]
        exact pow_words (k := 1) hd2 (by omega)
       rw [hm]
       refine ⟨⟨ws_wok _, ws_wok _, by omega, by omega⟩, fun _ => ?_⟩
       unfold gaddS gwordsS
       rw [wv_ws, wv_ws, Int.toNat_natCast, w64_succ k (by omega)]
       exact ⟨⟨k + 1, rfl, by omega, by rw [take_next s k q hq, val_snoc]⟩, by (try dsimp only); omega⟩
   · have hks : k = s.length := by have := of_decide_eq_false h2; omega
     subst hks
     rintro r hr2 _
     rw [← hr2, List.take_length]
     rfl
theorem gset_ok (x : BInt) (h : x.neg = false ∧ x.abs.length ≤ 1000000) : gset_vc x (fun r => r = gsetS x) := by
 intro _
 refine ⟨h.2, ?_⟩
 obtain ⟨n, l⟩ := x
 have h1 : n = false := h.1
 subst h1
 rfl
end Go.Proofs.YtmnlahbngbigdaaGreatDoor
set_option linter.unusedVariables false
set_option linter.unusedSimpArgs false
namespace Go.Proofs.YtmnlahbngbigdaaGreatDoor
open Go.Sy Go.RowKit
def gxor_vc (u0 : BInt) (u2 : BInt) (K : (BInt × BInt) → Prop) : Prop := (u0.abs.length ≤ 140737488355328 → (u2.abs.length ≤ 140737488355328 → ((u0.neg = false ∧ (u0.abs.length : Int) ≤ (w64 ((max (u0.abs.length : Int) (u2.abs.length : Int)) + 1)) ∧ (w64 ((max (u0.abs.length : Int) (u2.abs.length : Int)) + 1)) ≤ 1000000) ∧ (∀ r68, (glowS u0 (w64 ((max (u0.abs.length : Int) (u2.abs.length : Int)) + 1))) = r68 → (r68.1.length ≤ 140737488355328 → (r68.2.abs.length ≤ 140737488355328 → ((u2.neg = false ∧ (u2.abs.length : Int) ≤ (w64 ((max (u0.abs.length : Int) (u2.abs.length : Int)) + 1)) ∧ (w64 ((max (u0.abs.length : Int) (u2.abs.length : Int)) + 1)) ≤ 1000000) ∧ (∀ r92, (glowS u2 (w64 ((max (u0.abs.length : Int) (u2.abs.length : Int)) + 1))) = r92 → (r92.1.length ≤ 140737488355328 → (r92.2.abs.length ≤ 140737488355328 → (∃ inv114 : Int → (List Int) → Prop, ∃ mu114 : Int → (List Int) → Nat, inv114 0 r68.1 ∧ (∀ (x10 : Int) (zao72 : List Int), inv114 x10 zao72 → (((decide (x10 < (w64 ((max (u0.abs.length : Int) (u2.abs.length : Int)) + 1)))) = true → ((0 ≤ x10 ∧ x10 < (r92.1.length : Int)) ∧ (∀ q160, r92.1[x10.toNat]? = some q160 → ((0 ≤ x10 ∧ x10 < (zao72.length : Int)) ∧ (∀ q178, zao72[x10.toNat]? = some q178 → ((0 ≤ x10 ∧ x10 < (zao72.length : Int)) ∧ (inv114 (w64 (x10 + 1)) (zao72.set x10.toNat (bXor .u32 q178 q160)) ∧ mu114 (w64 (x10 + 1)) (zao72.set x10.toNat (bXor .u32 q178 q160)) < mu114 x10 zao72))))))) ∧ ((decide (x10 < (w64 ((max (u0.abs.length : Int) (u2.abs.length : Int)) + 1)))) = false → ((wok zao72 ∧ zao72.length ≤ 1000000 ∧ ∀ q, zao72[zao72.length - 1]? = some q → q < 2147483648) ∧ (∀ r219, (gofS r68.2 zao72) = r219 → (r219.abs.length ≤ 140737488355328 → (K (r219, r92.2)))))))))))))))))))
def gsetbit_vc (u0 : BInt) (u2 : Int) (u3 : Int) (K : BInt → Prop) : Prop := (u0.abs.length ≤ 140737488355328 → (((decide (u2 < 0)) = true → ((u0.neg = false ∧ u0.abs.length ≤ 1000000) ∧ (∀ r27, (gsetS u0) = r27 → (r27.abs.length ≤ 140737488355328 → (K r27))))) ∧ ((decide (u2 < 0)) = false → ((u0.neg = false ∧ (u0.abs.length : Int) ≤ (w64 ((max (u0.abs.length : Int) (w64 ((w64 (u2.tdiv 32)) + 1))) + 1)) ∧ (w64 ((max (u0.abs.length : Int) (w64 ((w64 (u2.tdiv 32)) + 1))) + 1)) ≤ 1000000) ∧ (∀ r75, (glowS u0 (w64 ((max (u0.abs.length : Int) (w64 ((w64 (u2.tdiv 32)) + 1))) + 1))) = r75 → (r75.1.length ≤ 140737488355328 → (r75.2.abs.length ≤ 140737488355328 → ((0 ≤ w64 (u2.tdiv 32) ∧ w64 (u2.tdiv 32) < (r75.1.length : Int)) ∧ (∀ q104, r75.1[(w64 (u2.tdiv 32)).toNat]? = some q104 → ((0 ≤ (wu64 u2).tmod 32) ∧ ((0 ≤ w64 (u2.tdiv 32) ∧ w64 (u2.tdiv 32) < (r75.1.length : Int)) ∧ ((0 ≤ w64 (u2.tdiv 32) ∧ w64 (u2.tdiv 32) < ((r75.1.set (w64 (u2.tdiv 32)).toNat (bAndNot .u32 q104 (bShl .u32 1 ((wu64 u2).tmod 32)))).length : Int)) ∧ (∀ q147, (r75.1.set (w64 (u2.tdiv 32)).toNat (bAndNot .u32 q104 (bShl .u32 1 ((wu64 u2).tmod 32))))[(w64 (u2.tdiv 32)).toNat]? = some q147 → ((0 ≤ (wu64 u2).tmod 32) ∧ ((0 ≤ w64 (u2.tdiv 32) ∧ w64 (u2.tdiv 32) < ((r75.1.set (w64 (u2.tdiv 32)).toNat (bAndNot .u32 q104 (bShl .u32 1 ((wu64 u2).tmod 32)))).length : Int)) ∧ ((wok ((r75.1.set (w64 (u2.tdiv 32)).toNat (bAndNot .u32 q104 (bShl .u32 1 ((wu64 u2).tmod 32)))).set (w64 (u2.tdiv 32)).toNat (bOr .u32 q147 (bShl .u32 (wu32 (bAnd .u64 u3 1)) ((wu64 u2).tmod 32)))) ∧ ((r75.1.set (w64 (u2.tdiv 32)).toNat (bAndNot .u32 q104 (bShl .u32 1 ((wu64 u2).tmod 32)))).set (w64 (u2.tdiv 32)).toNat (bOr .u32 q147 (bShl .u32 (wu32 (bAnd .u64 u3 1)) ((wu64 u2).tmod 32)))).length ≤ 1000000 ∧ ∀ q, ((r75.1.set (w64 (u2.tdiv 32)).toNat (bAndNot .u32 q104 (bShl .u32 1 ((wu64 u2).tmod 32)))).set (w64 (u2.tdiv 32)).toNat (bOr .u32 q147 (bShl .u32 (wu32 (bAnd .u64 u3 1)) ((wu64 u2).tmod 32))))[((r75.1.set (w64 (u2.tdiv 32)).toNat (bAndNot .u32 q104 (bShl .u32 1 ((wu64 u2).tmod 32)))).set (w64 (u2.tdiv 32)).toNat (bOr .u32 q147 (bShl .u32 (wu32 (bAnd .u64 u3 1)) ((wu64 u2).tmod 32)))).length - 1]? = some q → q < 2147483648) ∧ (∀ r194, (gofS r75.2 ((r75.1.set (w64 (u2.tdiv 32)).toNat (bAndNot .u32 q104 (bShl .u32 1 ((wu64 u2).tmod 32)))).set (w64 (u2.tdiv 32)).toNat (bOr .u32 q147 (bShl .u32 (wu32 (bAnd .u64 u3 1)) ((wu64 u2).tmod 32))))) = r194 → (r194.abs.length ≤ 140737488355328 → (K r194)))))))))))))))))))
def gnew_vc (u0 : Int) (K : BInt → Prop) : Prop := ((0 ≤ u0 ∧ u0 ≤ 9223372036854775807) ∧ (∀ r18, (gsetiS (⟨false, []⟩ : BInt) u0) = r18 → (r18.abs.length ≤ 140737488355328 → (K r18))))
def rvalue_vc (u0 : List UInt8) (K : BInt → Prop) : Prop := (((u0 != ([] : List UInt8)) = true → ((isRow u0 = true ∧ u0 ≠ [] ∧ u0.length ≤ 1000) ∧ (∀ r30, (gsetstrS (⟨false, []⟩ : BInt) u0) = r30 → (r30.2.2.abs.length ≤ 140737488355328 → (K r30.2.2))))) ∧ ((u0 != ([] : List UInt8)) = false → (K (⟨false, []⟩ : BInt))))
def xr (x y : Int) : Int := ((x.toNat ^^^ y.toNat : Nat) : Int)
theorem tb_words {x p : Nat} (hx : x < 4294967296) (i : Nat) : (x + 4294967296 * p).testBit i = if i < 32 then x.testBit i else p.testBit (i - 32) := by
 rw [Nat.add_comm]
 exact Nat.testBit_two_pow_mul_add p (i := 32) hx i
theorem xor_words {x y p q : Nat} (hx : x < 4294967296) (hy : y < 4294967296) : (x + 4294967296 * p) ^^^ (y + 4294967296 * q) = (x ^^^ y) + 4294967296 * (p ^^^ q) := by
 apply Nat.eq_of_testBit_eq
 intro i
 rw [Nat.testBit_xor, tb_words hx, tb_words hy, tb_words (Nat.xor_lt_two_pow (n := 32) hx hy)]
 split
 · rw [Nat.testBit_xor]
 · rw [Nat.testBit_xor]
theorem xr_zip : ∀ (a b : List Int), wok a → wok b → a.length = b.length → wv (List.zipWith xr a b) = wv a ^^^ wv b ∧ wok (List.zipWith xr a b) := by
 intro a
 induction a with
 | nil => intro b _ _ h; cases b with
  | nil => exact ⟨rfl, wok_nil⟩
  | cons y b => simp at h
 | cons x a ih =>
  intro b ha hb h
  cases b with
  | nil => simp at h
  | cons y b =>
   obtain ⟨h1, h2⟩ := wok_cons ha
   obtain ⟨h3, h4⟩ := wok_cons hb
   obtain ⟨i1, i2⟩ := ih b h2 h4 (by simpa using h)
   have hlt := Nat.xor_lt_two_pow (x := x.toNat) (y := y.toNat) (n := 32) (show _ < 4294967296 by omega) (show _ < 4294967296 by omega)
   have hlt : x.toNat ^^^ y.toNat < 4294967296 := hlt
   rw [List.zipWith_cons_cons, wv, i1, wv, wv, xor_words (by omega) (by omega)]
   refine ⟨?_, fun z hz => ?_⟩
   · unfold xr
     rw [Int.toNat_natCast]
   · rcases List.mem_cons.1 hz with rfl | hz
     · unfold xr
       omega
     · exact i2 z hz
theorem pad_wv (l : List Int) (n : Nat) : wv (l ++ List.replicate n 0) = wv l := by rw [wv_append, wv_rep, Nat.mul_zero, Nat.add_zero]
theorem pad_wok {l : List Int} (h : wok l) (n : Nat) : wok (l ++ List.replicate n 0) := wok_app h (wok_rep n)
def gxorS (z y : BInt) : BInt × BInt := (bigN (wv z.abs ^^^ wv y.abs), y)
theorem gxor_ok (z y : BInt) (h : (z.neg = false ∧ wok z.abs ∧ z.abs.length ≤ 1000) ∧ y.neg = false ∧ wok y.abs ∧ y.abs.length ≤ 1000) : gxor_vc z y (fun r => r = gxorS z y) := by
 obtain ⟨⟨z1, z2, z3⟩, y1, y2, y3⟩ := h
 intro _ _
 have em : (max (z.abs.length : Int) (y.abs.length : Int)) = ((max z.abs.length y.abs.length : Nat) : Int) := by omega
 rw [em, w64_succ _ (by omega)]
 generalize hn : max z.abs.length y.abs.length + 1 = n at *
 refine ⟨⟨z1, by omega, by omega⟩, ?_⟩
 rintro _ rfl _ _
 refine ⟨⟨y1, by omega, by omega⟩, ?_⟩
 rintro _ rfl _ _
 unfold glowS
 dsimp only
 rw [Int.toNat_natCast]
 have la : (z.abs ++ List.replicate (n - z.abs.length) 0).length = n := by simp; omega
 have lb : (y.abs ++ List.replicate (n - y.abs.length) 0).length = n := by simp; omega
 have wa := pad_wok z2 (n - z.abs.length)
 have wb := pad_wok y2 (n - y.abs.length)
 have va := pad_wv z.abs (n - z.abs.length)
 have vb := pad_wv y.abs (n - y.abs.length)
 have ta : (z.abs ++ List.replicate (n - z.abs.length) 0)[n - 1]? = some 0 := by rw [List.getElem?_append_right (by omega), List.getElem?_replicate, if_pos (by omega)]
 have tb : (y.abs ++ List.replicate (n - y.abs.length) 0)[n - 1]? = some 0 := by rw [List.getElem?_append_right (by omega), List.getElem?_replicate, if_pos (by omega)]
 have hgx : gxorS z y = (bigN (wv (z.abs ++ List.replicate (n - z.abs.length) 0) ^^^ wv (y.abs ++ List.replicate (n - y.abs.length) 0)), y) := by rw [va, vb]; rfl
 rw [hgx]
 generalize z.abs ++ List.replicate (n - z.abs.length) 0 = a at *
 generalize y.abs ++ List.replicate (n - y.abs.length) 0 = b at *
 refine ⟨fun i x => ∃ k : Nat, i = k ∧ k ≤ n ∧ x.length = n ∧ (∀ j, k ≤ j → x[j]? = a[j]?) ∧ ∀ j, j < k → x[j]? = (List.zipWith xr a b)[j]?, fun i _ => n - i.toNat, ⟨0, rfl, by omega, la, fun _ _ => rfl, fun j hj => absurd hj (Nat.not_lt_zero _)⟩, ?_⟩
 rintro _ x ⟨k, rfl, hk, hx, h1, h2⟩
 refine ⟨fun h3 => ?_, fun h3 => ?_⟩
 · have hkn : k < n := by have := of_decide_eq_true h3; omega
   refine ⟨by omega, fun p hp => ⟨by omega, fun q hq => ⟨by omega, ?_⟩⟩⟩
   rw [Int.toNat_natCast] at hq hp ⊢
   rw [h1 k (Nat.le_refl _)] at hq
   obtain ⟨u, rfl, hu⟩ := wok_at wa hq
   obtain ⟨v, rfl, hv⟩ := wok_at wb hp
   rw [bxor32 u v hu hv, w64_succ k (by omega)]
   refine ⟨⟨k + 1, rfl, by omega, by rw [List.length_set]; exact hx, fun j hj => ?_, fun j hj => ?_⟩, by (try dsimp only); omega⟩
   · rw [List.getElem?_set_ne (by omega)]
     exact h1 j (by omega)
   · rcases Nat.lt_or_ge j k with hc | hc
     · rw [List.getElem?_set_ne (by omega)]
       exact h2 j hc
     · have : j = k := by omega
       subst this
       rw [List.getElem?_set_self (by omega), List.getElem?_zipWith, hq, hp]
       rfl
 · have hkn : k = n := by have := of_decide_eq_false h3; omega
   subst hkn
   obtain ⟨g1, g2⟩ := xr_zip a b wa wb (by omega)
   have hxe : x = List.zipWith xr a b := by
    apply List.ext_getElem?
    intro j
    rcases Nat.lt_or_ge j k with hc | hc
    · exact h2 j hc
    · rw [List.getElem?_eq_none (by omega), List.getElem?_eq_none (by rw [List.length_zipWith]; omega)]
   subst hxe
   refine ⟨⟨g2, by omega, fun q hq => ?_⟩, fun r hr _ => ?_⟩
   · rw [hx, List.getElem?_zipWith, ta, tb] at hq
     cases hq
     decide
   · unfold gofS at hr
     rw [g1] at hr
     rw [hr]
def gsetbitS (z : BInt) (i b : Int) : BInt := bigN (wv z.abs + 2 ^ i.toNat)
theorem but_small {v i : Nat} (h : v < 2 ^ i) : but v (2 ^ i) = v := by
 apply Nat.eq_of_testBit_eq
 intro j
 rw [testBit_but, Nat.testBit_two_pow]
 by_cases e : i = j
 · subst e
   rw [Nat.testBit_lt_two_pow h]
   rfl
 · simp [e]
theorem bandnot32 (a b : Nat) (ha : a < 4294967296) (hb : b < 4294967296) : bAndNot .u32 (a : Int) (b : Int) = ((but a b : Nat) : Int) := by
 have h := but_le a b
 unfold bAndNot
 have e : (BitVec.ofInt IntKind.u32.bits (a : Int) &&& ~~~BitVec.ofInt IntKind.u32.bits (b : Int)).toNat = but a b := by
  show (BitVec.ofInt 32 (a : Int) &&& ~~~BitVec.ofInt 32 (b : Int)).toNat = _
  apply Nat.eq_of_testBit_eq
  intro i
  rw [testBit_but, BitVec.toNat_and, Nat.testBit_and, ofInt32_toNat a (by omega)]
  have hn : (~~~BitVec.ofInt 32 (b : Int)).toNat.testBit i = (decide (i < 32) && !b.testBit i) := by
   have h1 := BitVec.testBit_toNat (~~~BitVec.ofInt 32 (b : Int)) (i := i)
   rw [h1, BitVec.getLsbD_not]
   have h2 := BitVec.testBit_toNat (BitVec.ofInt 32 (b : Int)) (i := i)
   rw [← h2, ofInt32_toNat b (by omega)]
  rw [hn]
  by_cases hi : i < 32
  · simp [hi]
  · have h63 : 2 ^ 32 ≤ 2 ^ i := Nat.pow_le_pow_right (by omega) (by omega)
    have p32 : (2 : Nat) ^ 32 = 4294967296 := rfl
    have : a.testBit i = false := Nat.testBit_lt_two_pow (by omega)
    simp [this]
 rw [e]
 exact wu32_eq _ (by omega)
theorem shl32 (n s : Nat) (hs : s ≤ 32) (h : n * 2 ^ s < 4294967296) : bShl .u32 (n : Int) (s : Int) = ((n * 2 ^ s : Nat) : Int) := by
 unfold bShl
 have e : min (s : Int).toNat IntKind.u32.bits = s := by rw [Int.toNat_natCast]; exact Nat.min_eq_left hs
 rw [e]
 have e2 : (n : Int) * 2 ^ s = ((n * 2 ^ s : Nat) : Int) := by norm_cast
 rw [e2]
 exact wu32_eq _ h
theorem gsetbit_ok (z : BInt) (i b : Int) (h : z.neg = false ∧ z.abs = ws (wv z.abs) ∧ wv z.abs < 2 ^ i.toNat ∧ 0 ≤ i ∧ i ≤ 30 ∧ b = 1) : gsetbit_vc z i b (fun r => r = gsetbitS z i b) := by
 obtain ⟨h1, h2, h3, h4, h5, rfl⟩ := h
 obtain ⟨i, rfl⟩ : ∃ n : Nat, i = n := ⟨i.toNat, by omega⟩
 rw [Int.toNat_natCast] at h3
 intro _
 refine ⟨fun h6 => absurd (of_decide_eq_true h6) (by omega), fun _ => ?_⟩
 have p30 : 2 ^ i ≤ 1073741824 := (show 2 ^ i ≤ 2 ^ 30 from Nat.pow_le_pow_right (by omega) (by omega))
 have hw : wok z.abs := by rw [h2]; exact ws_wok _
 have hlen : z.abs.length ≤ 1 := by
  rw [h2]
  exact ws_len 1 _ (by omega)
 have e1 : ((i : Int).tdiv 32) = 0 := by rw [Int.tdiv_eq_ediv_of_nonneg (by omega)]; omega
 have e2 : wu64 (i : Int) = (i : Int) := wu64_eq _ (by omega)
 have e3 : (i : Int).tmod 32 = (i : Int) := by rw [Int.tmod_eq_emod_of_nonneg (by omega)]; omega
 have e4 : w64 (0 : Int) = 0 := rfl
 have e5 : w64 ((0 : Int) + 1) = 1 := rfl
 have e6 : w64 (max (z.abs.length : Int) 1 + 1) = 2 := by
  have : max (z.abs.length : Int) 1 = 1 := by omega
  rw [this]
  rfl
 rw [e1, e2, e3, e4, e5, e6]
 refine ⟨⟨h1, by omega, by omega⟩, ?_⟩
 rintro _ rfl _ _
 have hlow : (glowS z 2).1 = [((wv z.abs : Nat) : Int), 0] := by
  unfold glowS
  dsimp only
  by_cases h0 : wv z.abs = 0
  · rw [h0, ws_zero] at h2
    rw [h2]
    rfl
  · have hz : ws (wv z.abs) = [((wv z.abs : Nat) : Int)] := by
      rw [ws_pos h0, Nat.mod_eq_of_lt (by omega), Nat.div_eq_of_lt (by omega), ws_zero]
    rw [h2, wv_ws, hz]
    rfl
 rw [hlow]
 have s1 : bShl .u32 1 (i : Int) = ((2 ^ i : Nat) : Int) := by
  have := shl32 1 i (by omega) (by omega)
  rw [Nat.one_mul] at this
  exact this
 have s2 : wu32 (bAnd .u64 1 1) = 1 := rfl
 have l2 : ∀ u v : Int, (0 ≤ (0 : Int) ∧ (0 : Int) < ((([u, v] : List Int).length : Nat) : Int)) := fun u v => ⟨by omega, by simp⟩
 refine ⟨l2 _ _, fun q hq => ?_⟩
 cases hq
 rw [s1, bandnot32 _ _ (by omega) (by omega), but_small h3]
 refine ⟨by omega, l2 _ _, l2 _ _, fun q hq => ?_⟩
 cases hq
 have s3 : bOr .u32 ((wv z.abs : Nat) : Int) ((2 ^ i : Nat) : Int) = ((wv z.abs + 2 ^ i : Nat) : Int) := by
  rw [bor32 _ _ (by omega) (by omega), or_add (r := i) (m := 1) h3 (by rw [Nat.one_mul])]
 rw [s2, s1, s3]
 have hfin : ((([((wv z.abs : Nat) : Int), 0] : List Int).set (0 : Int).toNat ((wv z.abs : Nat) : Int)).set (0 : Int).toNat ((wv z.abs + 2 ^ i : Nat) : Int)) = [((wv z.abs + 2 ^ i : Nat) : Int), 0] := rfl
 rw [hfin]
 refine ⟨by omega, l2 _ _, ⟨?_, by simp, fun q hq => ?_⟩, fun r hr _ => ?_⟩
 · intro y hy
   rcases List.mem_cons.1 hy with rfl | hy
   · omega
   · rw [List.mem_singleton.1 hy]; decide
 · cases hq
   decide
 · rw [← hr]
   unfold gofS gsetbitS
   rw [Int.toNat_natCast]
   simp only [wv, Int.toNat_natCast]
   rfl
def gnewS (x : Int) : BInt := bigN x.toNat
theorem gnew_ok (x : Int) (h : 0 ≤ x ∧ x ≤ 9223372036854775807) : gnew_vc x (fun r => r = gnewS x) := by
 refine ⟨h, ?_⟩
 rintro _ rfl _
 rfl
def rvalueS (s : List UInt8) : BInt := bigN (val s)
theorem rvalue_ok (s : List UInt8) (h : isRow s = true ∧ s.length ≤ 1000) : rvalue_vc s (fun r => r = rvalueS s) := by
 refine ⟨fun h1 => ?_, fun h1 => ?_⟩
 · refine ⟨⟨h.1, by simpa using h1, h.2⟩, ?_⟩
   rintro _ rfl _
   rfl
 · have h1 : s = [] := by simpa using h1
   subst h1
   unfold rvalueS bigN
   rw [val, ws_zero]
end Go.Proofs.YtmnlahbngbigdaaGreatDoor
set_option linter.unusedVariables false
set_option linter.unusedSimpArgs false
namespace Go.Proofs.YtmnlahbngbigdaaGreatDoor
open Go.Sy Go.RowKit
end Go.Proofs.YtmnlahbngbigdaaGreatDoor
set_option linter.unusedVariables false
set_option linter.unusedSimpArgs false
namespace Go.Proofs.YtmnlahbngbigdaaGreatDoor
open Go.Sy Go.RowKit
def tz64_vc (u0 : Int) (K : Int → Prop) : Prop := (((u0 == 0) = true → (K 64)) ∧ ((u0 == 0) = false → ((0 ≤ bShr .u64 (wu64 ((bAnd .u64 u0 (wu64 (0 - u0))) * 285870213051353865)) 58 ∧ bShr .u64 (wu64 ((bAnd .u64 u0 (wu64 (0 - u0))) * 285870213051353865)) 58 < 64) ∧ (∀ q33, deBruijn64[(bShr .u64 (wu64 ((bAnd .u64 u0 (wu64 (0 - u0))) * 285870213051353865)) 58).toNat]? = some q33 → (K (w64 q33))))))
def isp2_vc (u0 : Int) (K : Bool → Prop) : Prop := (K ((bAnd .i64 u0 (w64 (u0 - 1))) == 0))
def isp2 (u0 : Int) : Bool :=
 (bAnd .i64 u0 (w64 (u0 - 1))) == 0
theorem isp2_ok (u0 : Int) : isp2_vc u0 (fun r => r = isp2 u0) := (by rfl)
def tz64S (u0 : Int) : Int := 1
theorem tz64_ok (u0 : Int) (h : u0 = 2) : tz64_vc u0 (fun r => r = tz64S u0) := by
 subst h
 have e : deBruijn64[(bShr .u64 (wu64 ((bAnd .u64 2 (wu64 (0 - 2))) * 285870213051353865)) 58).toNat]? = some 1 := by decide +kernel
 refine ⟨fun h => absurd h (by decide), fun _ => ⟨by decide +kernel, fun q hq => ?_⟩⟩
 rw [e] at hq
 cases hq
 decide
def srepS (s : List UInt8) (c : Int) : List UInt8 := (List.replicate c.toNat s).flatten
end Go.Proofs.YtmnlahbngbigdaaGreatDoor
set_option linter.unusedVariables false
set_option linter.unusedSimpArgs false
namespace Go.Proofs.YtmnlahbngbigdaaGreatDoor
open Go.Sy Go.RowKit
def tz_vc (u0 : Int) (K : Int → Prop) : Prop := ((u0 = 2) ∧ (K (tz64S u0)))
def fbits_vc (u1 : Int) (u3 : Bool) (K : ((List Int) × (List UInt8)) → Prop) : Prop := ((u3 = false) ∧ (((isp2 2) = true) ∧ (tz_vc 2 fun r58 => (∃ inv85 : Int → Int → (List Int) → Prop, ∃ mu85 : Int → Int → (List Int) → Nat, inv85 u1 65 (List.replicate 65 (0 : Int)) ∧ (∀ (x1 : Int) (x13 : Int) (zb280 : List Int), inv85 x1 x13 zb280 → (((decide (x1 ≥ 2)) = true → ((0 ≤ bAnd .u64 x1 (wu64 (2 - 1)) ∧ bAnd .u64 x1 (wu64 (2 - 1)) < (([48, 49, 50, 51, 52, 53, 54, 55, 56, 57, 97, 98, 99, 100, 101, 102, 103, 104, 105, 106, 107, 108, 109, 110, 111, 112, 113, 114, 115, 116, 117, 118, 119, 120, 121, 122] : List UInt8).length : Int)) ∧ (∀ c125, ([48, 49, 50, 51, 52, 53, 54, 55, 56, 57, 97, 98, 99, 100, 101, 102, 103, 104, 105, 106, 107, 108, 109, 110, 111, 112, 113, 114, 115, 116, 117, 118, 119, 120, 121, 122] : List UInt8)[(bAnd .u64 x1 (wu64 (2 - 1))).toNat]? = some c125 → (((0 ≤ w64 (x13 - 1) ∧ w64 (x13 - 1) < 65) ∧ zb280.length = 65) ∧ ((0 ≤ wu64 r58) ∧ (inv85 (bShr .u64 x1 (wu64 r58)) (w64 (x13 - 1)) (zb280.set (w64 (x13 - 1)).toNat (c125.toNat : Int)) ∧ mu85 (bShr .u64 x1 (wu64 r58)) (w64 (x13 - 1)) (zb280.set (w64 (x13 - 1)).toNat (c125.toNat : Int)) < mu85 x1 x13 zb280)))))) ∧ ((decide (x1 ≥ 2)) = false → ((0 ≤ x1 ∧ x1 < (([48, 49, 50, 51, 52, 53, 54, 55, 56, 57, 97, 98, 99, 100, 101, 102, 103, 104, 105, 106, 107, 108, 109, 110, 111, 112, 113, 114, 115, 116, 117, 118, 119, 120, 121, 122] : List UInt8).length : Int)) ∧ (∀ c164, ([48, 49, 50, 51, 52, 53, 54, 55, 56, 57, 97, 98, 99, 100, 101, 102, 103, 104, 105, 106, 107, 108, 109, 110, 111, 112, 113, 114, 115, 116, 117, 118, 119, 120, 121, 122] : List UInt8)[x1.toNat]? = some c164 → (((0 ≤ w64 (x13 - 1) ∧ w64 (x13 - 1) < 65) ∧ zb280.length = 65) ∧ (((0 ≤ w64 (x13 - 1) ∧ w64 (x13 - 1) ≤ 65) ∧ (zb280.set (w64 (x13 - 1)).toNat (c164.toNat : Int)).length = 65) ∧ (K (([] : List Int), bstr ((zb280.set (w64 (x13 - 1)).toNat (c164.toNat : Int)).drop (w64 (x13 - 1)).toNat))))))))))))))
def binS (n : Nat) : List UInt8 := wr (Nat.log2 n + 1) n
def fbitsS (u1 : Int) (u3 : Bool) : List Int × List UInt8 := ([], binS u1.toNat)
theorem drop_set_at {α : Type} (l : List α) (p : Nat) (x : α) (h : p < l.length) : (l.set p x).drop p = x :: l.drop (p + 1) := by
 rw [List.drop_eq_getElem_cons (by rw [List.length_set]; exact h)]
 congr 1
 · simp
 · apply List.ext_getElem?
   intro j
   rw [List.getElem?_drop, List.getElem?_drop, List.getElem?_set, if_neg (by omega)]
theorem digit_at {d : Nat} (hd : d < 2) {c : UInt8} (h : ([48, 49, 50, 51, 52, 53, 54, 55, 56, 57, 97, 98, 99, 100, 101, 102, 103, 104, 105, 106, 107, 108, 109, 110, 111, 112, 113, 114, 115, 116, 117, 118, 119, 120, 121, 122] : List UInt8)[d]? = some c) : c = UInt8.ofNat (48 + d) := by
 have : d = 0 ∨ d = 1 := by omega
 rcases this with rfl | rfl
 · cases h; rfl
 · cases h; rfl
theorem log2_at {n k : Nat} (h1 : n / 2 ^ k < 2) (h2 : k = 0 ∨ 2 ≤ n / 2 ^ (k - 1)) : Nat.log2 n = k := by
 rcases h2 with rfl | h2
 · rw [Nat.pow_zero, Nat.div_one] at h1
   have : n = 0 ∨ n = 1 := by omega
   rcases this with rfl | rfl <;> decide
 · have hk : k ≠ 0 := by
     rintro rfl
     rw [Nat.zero_sub] at h2
     omega
   obtain ⟨j, rfl⟩ : ∃ j, k = j + 1 := ⟨k - 1, by omega⟩
   rw [Nat.add_sub_cancel] at h2
   have hp : 0 < 2 ^ j := Nat.two_pow_pos j
   have a1 : 2 * 2 ^ j ≤ n := (Nat.le_div_iff_mul_le hp).1 h2
   have a2 : n < 2 * 2 ^ (j + 1) := by rwa [Nat.div_lt_iff_lt_mul (Nat.two_pow_pos _)] at h1
   have hn : n ≠ 0 := by omega
   rw [Nat.log2_eq_iff hn, Nat.pow_succ, Nat.pow_succ, Nat.pow_succ]
   rw [Nat.pow_succ] at a2
   omega
theorem fbits_ok (u1 : Int) (u3 : Bool) (h : u3 = false ∧ 0 ≤ u1 ∧ u1 ≤ 9223372036854775807) : fbits_vc u1 u3 (fun r => r = fbitsS u1 u3) := by
 obtain ⟨rfl, h0, h1⟩ := h
 refine ⟨rfl, by decide, ?_⟩
 refine ⟨rfl, ?_⟩
 obtain ⟨n, rfl⟩ : ∃ n : Nat, u1 = n := ⟨u1.toNat, by omega⟩
 have e1 : wu64 (2 - 1) = 1 := rfl
 have e2 : wu64 (tz64S 2) = 1 := rfl
 rw [e1, e2]
 refine ⟨fun x i z => ∃ k : Nat, x = ((n / 2 ^ k : Nat) : Int) ∧ i = ((65 - k : Nat) : Int) ∧ k ≤ 63 ∧ z.length = 65 ∧ bstr (z.drop (65 - k)) = wr k n ∧ (k = 0 ∨ 2 ≤ n / 2 ^ (k - 1)), fun x _ _ => x.toNat, ⟨0, by simp, rfl, by omega, by simp, rfl, .inl rfl⟩, ?_⟩
 rintro _ _ z ⟨k, rfl, rfl, hk, hz, hb, hge⟩
 have hp : 0 < 2 ^ k := Nat.two_pow_pos k
 have hle : n / 2 ^ k ≤ n := Nat.div_le_self _ _
 have ew : w64 (((65 - k : Nat) : Int) - 1) = ((64 - k : Nat) : Int) := by rw [w64_eq _ (by omega)]; omega
 rw [ew, Int.toNat_natCast]
 have key : ∀ c : UInt8, c = UInt8.ofNat (48 + n / 2 ^ k % 2) → bstr ((z.set (64 - k) (c.toNat : Int)).drop (64 - k)) = wr (k + 1) n := by
  rintro c rfl
  rw [drop_set_at _ _ _ (by omega)]
  have e9 : 64 - k + 1 = 65 - k := by omega
  rw [e9]
  show bstr ([((UInt8.ofNat (48 + n / 2 ^ k % 2)).toNat : Int)] ++ z.drop (65 - k)) = _
  rw [bstr_append, bstr_one, hb]
  rfl
 refine ⟨fun h2 => ?_, fun h2 => ?_⟩
 · have h2 : 2 ≤ n / 2 ^ k := by have := of_decide_eq_true h2; omega
   have hk62 : k ≤ 62 := by
    rcases Nat.lt_or_ge 62 k with hc | hc
    · have : k = 63 := by omega
      subst this
      have p63 : (2 : Nat) ^ 63 = 9223372036854775808 := rfl
      rw [p63] at h2
      omega
    · exact hc
   rw [and1 _ (by omega), shr1]
   refine ⟨⟨by omega, by simp; omega⟩, fun c hc => ⟨⟨by omega, hz⟩, by omega, ?_, ?_⟩⟩
   · rw [Int.toNat_natCast] at hc
     have hcc := digit_at (Nat.mod_lt _ (by omega)) hc
     refine ⟨k + 1, by rw [Nat.pow_succ, Nat.div_div_eq_div_mul], by omega, by omega, by rw [List.length_set]; exact hz, ?_, .inr (by rw [Nat.add_sub_cancel]; exact h2)⟩
     have e9 : 65 - (k + 1) = 64 - k := by omega
     rw [e9]
     exact key c hcc
   · dsimp only
     omega
 · have h2 : n / 2 ^ k < 2 := by have := of_decide_eq_false h2; omega
   refine ⟨⟨Int.natCast_nonneg _, Int.lt_trans (b := 2) (by exact_mod_cast h2) (by decide)⟩, fun c hc => ⟨⟨by omega, hz⟩, ⟨by omega, by rw [List.length_set]; exact hz⟩, ?_⟩⟩
   rw [Int.toNat_natCast] at hc
   have hcc := digit_at h2 hc
   show ([], bstr ((z.set (64 - k) (c.toNat : Int)).drop (64 - k))) = fbitsS (n : Int) false
   rw [key c (by rw [hcc, Nat.mod_eq_of_lt h2])]
   unfold fbitsS binS
   rw [Int.toNat_natCast, log2_at h2 hge]
end Go.Proofs.YtmnlahbngbigdaaGreatDoor
set_option linter.unusedVariables false
set_option linter.unusedSimpArgs false
namespace Go.Proofs.YtmnlahbngbigdaaGreatDoor
open Go.Sy Go.RowKit
def fint0_vc (u0 : Int) (K : (List UInt8) → Prop) : Prop := (((decide (u0 < 0)) = false ∧ 0 ≤ (wu64 u0) ∧ (wu64 u0) ≤ 9223372036854775807) ∧ ((fbitsS (wu64 u0) (decide (u0 < 0))).1.length ≤ 140737488355328 → (K (fbitsS (wu64 u0) (decide (u0 < 0))).2)))
def fintS (u0 : Int) : List UInt8 := binS u0.toNat
theorem fint_ok (u0 : Int) (h : 0 ≤ u0 ∧ u0 ≤ 9223372036854775807) : fint0_vc u0 (fun r => r = fintS u0) := by
 have e : wu64 u0 = u0 := wu64_eq _ (by omega)
 unfold fint0_vc
 rw [e]
 exact ⟨⟨decide_eq_false (by omega), h.1, h.2⟩, fun _ => rfl⟩
end Go.Proofs.YtmnlahbngbigdaaGreatDoor
set_option linter.unusedVariables false
set_option linter.unusedSimpArgs false
namespace Go.Proofs.YtmnlahbngbigdaaGreatDoor
open Go.Sy Go.RowKit
def fint1_vc (u0 : Int) (K : (List UInt8) → Prop) : Prop := ((0 ≤ u0 ∧ u0 ≤ 9223372036854775807) ∧ (K (fintS u0)))
def rrow_vc (u0 : Int) (u1 : Int) (K : ((List UInt8) × Bool) → Prop) : Prop := (((decide (u0 > 0)) = true → (fint1_vc u0 fun r19 => (((decide ((r19.length : Int) > u1)) = true → (K ([], false))) ∧ ((decide ((r19.length : Int) > u1)) = false → ((0 ≤ (w64 (u1 - (r19.length : Int))) ∧ (w64 (u1 - (r19.length : Int))) ≤ 1000000 ∧ (([48] : List UInt8).length : Int) * (w64 (u1 - (r19.length : Int))) ≤ 140737488355328) ∧ ((((srepS ([48] : List UInt8) (w64 (u1 - (r19.length : Int)))).length : Int) + (r19.length : Int) ≤ 9223372036854775807) ∧ (K ((srepS ([48] : List UInt8) (w64 (u1 - (r19.length : Int)))) ++ r19, true)))))))) ∧ ((decide (u0 > 0)) = false → (((decide (0 > u1)) = true → (K ([], false))) ∧ ((decide (0 > u1)) = false → ((0 ≤ (w64 (u1 - 0)) ∧ (w64 (u1 - 0)) ≤ 1000000 ∧ (([48] : List UInt8).length : Int) * (w64 (u1 - 0)) ≤ 140737488355328) ∧ ((((srepS ([48] : List UInt8) (w64 (u1 - 0))).length : Int) + (([] : List UInt8).length : Int) ≤ 9223372036854775807) ∧ (K ((srepS ([48] : List UInt8) (w64 (u1 - 0))) ++ ([] : List UInt8), true))))))))
def rrowS (n size : Int) : List UInt8 × Bool := if (if 0 < n then binS n.toNat else []).length > size then ([], false) else (List.replicate (size.toNat - (if 0 < n then binS n.toNat else []).length) 48 ++ (if 0 < n then binS n.toNat else []), true)
theorem srep_zero (c : Nat) : srepS [48] (c : Int) = List.replicate c 48 := by
 unfold srepS
 rw [Int.toNat_natCast]
 induction c with
 | zero => rfl
 | succ c ih => rw [List.replicate_succ, List.flatten_cons, ih, List.replicate_succ]; rfl
theorem binS_len (n : Nat) : (binS n).length = Nat.log2 n + 1 := wr_length _ _
theorem log2_le {n : Nat} (h : n < 9223372036854775808) : Nat.log2 n ≤ 62 := by
 by_cases h0 : n = 0
 · subst h0; decide
 · have : Nat.log2 n < 63 := (Nat.log2_lt h0).2 h
   omega
theorem rrow_ok (u0 u1 : Int) (h : u0 ≤ 9223372036854775807 ∧ u1 ≤ 1000000) : rrow_vc u0 u1 (fun r => r = rrowS u0 u1) := by
 refine ⟨fun h1 => ?_, fun h1 => ?_⟩
 · have h1 := of_decide_eq_true h1
   have hb := log2_le (n := u0.toNat) (by omega)
   have hl : (fintS u0).length ≤ 63 := by unfold fintS; rw [binS_len]; omega
   have hS : rrowS u0 u1 = if ((fintS u0).length : Int) > u1 then ([], false) else (List.replicate (u1.toNat - (fintS u0).length) 48 ++ fintS u0, true) := by
    unfold rrowS
    rw [if_pos (show 0 < u0 by omega)]
    rfl
   refine ⟨⟨by omega, by omega⟩, fun h2 => ?_, fun h2 => ?_⟩
   · rw [hS, if_pos (of_decide_eq_true h2)]
   · have h2 := of_decide_eq_false h2
     rw [hS, if_neg h2]
     have ew : w64 (u1 - ((fintS u0).length : Int)) = ((u1.toNat - (fintS u0).length : Nat) : Int) := by rw [w64_eq _ (by omega)]; omega
     rw [ew, srep_zero]
     refine ⟨⟨by omega, by omega, by simp only [List.length_cons, List.length_nil]; omega⟩, by rw [List.length_replicate]; omega, rfl⟩
 · have h1 := of_decide_eq_false h1
   have hS : rrowS u0 u1 = if (0 : Int) > u1 then ([], false) else (List.replicate u1.toNat 48, true) := by
    unfold rrowS
    rw [if_neg (show ¬ 0 < u0 by omega)]
    simp
   refine ⟨fun h2 => ?_, fun h2 => ?_⟩
   · rw [hS, if_pos (of_decide_eq_true h2)]
   · have h2 := of_decide_eq_false h2
     have h2 : ¬ (0 : Int) > u1 := h2
     rw [hS, if_neg h2]
     have ew : w64 (u1 - 0) = ((u1.toNat : Nat) : Int) := by
      rw [w64_eq _ (by omega)]; omega
     rw [ew, srep_zero]
     refine ⟨⟨by omega, by omega, by simp only [List.length_cons, List.length_nil]; omega⟩, by rw [List.length_replicate, List.length_nil]; omega, ?_⟩
     rw [List.append_nil]
theorem wr_zeros (n k : Nat) (h : n < 2 ^ k) : ∀ j, wr (j + k) n = List.replicate j 48 ++ wr k n := by
 intro j
 induction j with
 | zero => simp
 | succ j ih =>
  have e : j + 1 + k = (j + k) + 1 := by omega
  rw [e, wr, ih, List.replicate_succ, List.cons_append]
  have : n / 2 ^ (j + k) = 0 := Nat.div_eq_of_lt (Nat.lt_of_lt_of_le h (Nat.pow_le_pow_right (by omega) (by omega)))
  rw [this]
  rfl
theorem wr_split (n b : Nat) : ∀ a, wr (a + b) n = wr a (n / 2 ^ b) ++ wr b n := by
 intro a
 induction a with
 | zero => simp [wr]
 | succ a ih =>
  have e : a + 1 + b = (a + b) + 1 := by omega
  rw [e, wr, ih, wr, List.cons_append, Nat.div_div_eq_div_mul, ← Nat.pow_add, Nat.add_comm b a]
theorem rrow_wr {n size : Int} (h0 : 0 ≤ n) (hs : 0 ≤ size) (h : n.toNat < 2 ^ size.toNat) : rrowS n size = (wr size.toNat n.toNat, true) := by
 unfold rrowS
 by_cases hn : 0 < n
 · rw [if_pos hn, binS_len]
   have hl : Nat.log2 n.toNat < size.toNat := (Nat.log2_lt (by omega)).2 h
   rw [if_neg (by omega)]
   have hb : n.toNat < 2 ^ (Nat.log2 n.toNat + 1) := (Nat.log2_lt (by omega)).1 (by omega)
   have := wr_zeros n.toNat (Nat.log2 n.toNat + 1) hb (size.toNat - (Nat.log2 n.toNat + 1))
   have e : size.toNat - (Nat.log2 n.toNat + 1) + (Nat.log2 n.toNat + 1) = size.toNat := by omega
   rw [e] at this
   rw [this]
   rfl
 · rw [if_neg hn]
   have e : n = 0 := by omega
   subst e
   rw [if_neg (by simp; omega)]
   have := wr_zeros 0 0 (by decide) size.toNat
   rw [Nat.add_zero] at this
   show (List.replicate (size.toNat - 0) 48 ++ [], true) = (wr size.toNat 0, true)
   rw [this]
   rfl
end Go.Proofs.YtmnlahbngbigdaaGreatDoor
set_option linter.unusedVariables false
set_option linter.unusedSimpArgs false
namespace Go.Proofs.YtmnlahbngbigdaaGreatDoor
open Go.Sy Go.RowKit
def rsumof_vc (u0 : Int) (u1 : List UInt8) (K : (List UInt8) → Prop) : Prop := ((0 ≤ u0 ∧ u0 < (([15, 17, 21, 8, 16] : List Int).length : Int)) ∧ (∀ q23, ([15, 17, 21, 8, 16] : List Int)[u0.toNat]? = some q23 → ((0 ≤ u0 ∧ u0 < (([17817, 92251, 1058969, 47, 4129] : List Int).length : Int)) ∧ (∀ q53, ([17817, 92251, 1058969, 47, 4129] : List Int)[u0.toNat]? = some q53 → ((0 ≤ u0 ∧ u0 < (([0, 65536, 1048576, 255, 65535] : List Int).length : Int)) ∧ (∀ q83, ([0, 65536, 1048576, 255, 65535] : List Int)[u0.toNat]? = some q83 → ((0 ≤ u0 ∧ u0 < (([0, 0, 0, 255, 0] : List Int).length : Int)) ∧ (∀ q113, ([0, 0, 0, 255, 0] : List Int)[u0.toNat]? = some q113 → ((isRow u1 = true ∧ u1.length ≤ 1000) ∧ (((rvalueS u1).neg = false ∧ wok (rvalueS u1).abs ∧ (rvalueS u1).abs.length ≤ 1000 ∧ 0 ≤ (wu64 q23) ∧ (wu64 q23) ≤ 100000) ∧ (∀ r157, (glshAS (rvalueS u1) (wu64 q23)) = r157 → (r157.abs.length ≤ 140737488355328 → ((0 ≤ q83 ∧ q83 ≤ 9223372036854775807) ∧ (((gnewS q83).neg = false ∧ wok (gnewS q83).abs ∧ (gnewS q83).abs.length ≤ 1000 ∧ 0 ≤ (wu64 (u1.length : Int)) ∧ (wu64 (u1.length : Int)) ≤ 100000) ∧ (∀ r207, (glshAS (gnewS q83) (wu64 (u1.length : Int))) = r207 → (r207.abs.length ≤ 140737488355328 → (((r157.neg = false ∧ wok r157.abs ∧ r157.abs.length ≤ 1000) ∧ r207.neg = false ∧ wok r207.abs ∧ r207.abs.length ≤ 1000) ∧ (∀ r224, (gxorS r157 r207) = r224 → (r224.1.abs.length ≤ 140737488355328 → (r224.2.abs.length ≤ 140737488355328 → ((0 ≤ q53 ∧ q53 ≤ 9223372036854775807) ∧ (((gnewS q53).neg = false ∧ (gnewS q53).abs = ws (wv (gnewS q53).abs) ∧ wv (gnewS q53).abs < 2 ^ q23.toNat ∧ 0 ≤ q23 ∧ q23 ≤ 30 ∧ (1 : Int) = 1) ∧ (∀ r271, (gsetbitS (gnewS q53) q23 1) = r271 → (r271.abs.length ≤ 140737488355328 → (∃ inv283 : BInt → BInt → Prop, (∃ inv399 : BInt → BInt → Prop, ∃ mu399 : BInt → BInt → Nat, inv399 r271 r224.1 ∧ (∀ (yb249v : BInt) (yb133v : BInt), inv399 yb249v yb133v → ((yb133v.abs = ws (wv yb133v.abs) ∧ yb133v.abs.length ≤ 1000000) ∧ (∀ r439, (gblenS yb133v) = r439 → (r439.2.abs.length ≤ 140737488355328 → (((decide (r439.1 > q23)) = true → ((r439.2.abs = ws (wv r439.2.abs) ∧ r439.2.abs.length ≤ 1000000) ∧ (∀ r476, (gblenS r439.2) = r476 → (r476.2.abs.length ≤ 140737488355328 → ((yb249v.neg = false ∧ wok yb249v.abs ∧ yb249v.abs.length ≤ 1000 ∧ 0 ≤ (wu64 (w64 ((w64 (r476.1 - q23)) - 1))) ∧ (wu64 (w64 ((w64 (r476.1 - q23)) - 1))) ≤ 100000) ∧ (∀ r501, (glshS (⟨false, []⟩ : BInt) yb249v (wu64 (w64 ((w64 (r476.1 - q23)) - 1)))) = r501 → (r501.1.abs.length ≤ 140737488355328 → (r501.2.abs.length ≤ 140737488355328 → (((r476.2.neg = false ∧ wok r476.2.abs ∧ r476.2.abs.length ≤ 1000) ∧ r501.1.neg = false ∧ wok r501.1.abs ∧ r501.1.abs.length ≤ 1000) ∧ (∀ r522, (gxorS r476.2 r501.1) = r522 → (r522.1.abs.length ≤ 140737488355328 → (r522.2.abs.length ≤ 140737488355328 → (inv399 r501.2 r522.1 ∧ mu399 r501.2 r522.1 < mu399 yb249v yb133v))))))))))))) ∧ ((decide (r439.1 > q23)) = false → (inv283 yb249v r439.2)))))))) ∧ (∀ (yb249 : BInt) (yb133 : BInt), inv283 yb249 yb133 → ((0 ≤ q113 ∧ q113 ≤ 9223372036854775807) ∧ (((yb133.neg = false ∧ wok yb133.abs ∧ yb133.abs.length ≤ 1000) ∧ (gnewS q113).neg = false ∧ wok (gnewS q113).abs ∧ (gnewS q113).abs.length ≤ 1000) ∧ (∀ r339, (gxorS yb133 (gnewS q113)) = r339 → (r339.1.abs.length ≤ 140737488355328 → (r339.2.abs.length ≤ 140737488355328 → ((r339.1.neg = false ∧ wok r339.1.abs ∧ wv r339.1.abs < 9223372036854775808) ∧ (∀ r363, (gint64S r339.1) = r363 → (r363.2.abs.length ≤ 140737488355328 → ((r363.1 ≤ 9223372036854775807 ∧ q23 ≤ 1000000) ∧ (K (rrowS r363.1 q23).1))))))))))))))))))))))))))))))))))))
def redN (S d : Nat) : Nat → Nat → Nat
 | 0, n => n
 | k + 1, n => redN S d k (if n.testBit (S + k) = true then n ^^^ d * 2 ^ k else n)
theorem redN_small (S d : Nat) : ∀ (k n : Nat), n < 2 ^ S → redN S d k n = n := by
 intro k
 induction k with
 | zero => intro n _; rfl
 | succ k ih =>
  intro n h
  have : n.testBit (S + k) = false := Nat.testBit_lt_two_pow (Nat.lt_of_lt_of_le h (Nat.pow_le_pow_right (by decide) (by omega)))
  rw [redN, if_neg (by rw [this]; simp)]
  exact ih n h
theorem redN_le (S d : Nat) {n j : Nat} (h : n < 2 ^ (S + j)) : ∀ i, redN S d (j + i) n = redN S d j n := by
 intro i
 induction i with
 | zero => rfl
 | succ i ih =>
  have : n.testBit (S + (j + i)) = false := Nat.testBit_lt_two_pow (Nat.lt_of_lt_of_le h (Nat.pow_le_pow_right (by decide) (by omega)))
  rw [show j + (i + 1) = (j + i) + 1 from rfl, redN, if_neg (by rw [this]; simp)]
  exact ih
theorem tb_mul (n k i : Nat) : (n * 2 ^ k).testBit i = (decide (k ≤ i) && n.testBit (i - k)) := by
 rw [← Nat.shiftLeft_eq, Nat.testBit_shiftLeft]
theorem tb_ge {n k i : Nat} (h : n < 2 ^ k) (hi : k ≤ i) : n.testBit i = false := Nat.testBit_lt_two_pow (Nat.lt_of_lt_of_le h (Nat.pow_le_pow_right (by decide) hi))
theorem lt_of_tb {n k : Nat} (h : ∀ i, k ≤ i → n.testBit i = false) : n < 2 ^ k := Nat.lt_pow_two_of_testBit n h
theorem tb_top {S p : Nat} (hp : p < 2 ^ S) (j : Nat) : (p + 2 ^ S).testBit j = (decide (j = S) || p.testBit j) := by
 have e : p + 2 ^ S = 2 ^ S * 1 + p := by omega
 rw [e, Nat.testBit_two_pow_mul_add 1 hp]
 by_cases h : j < S
 · rw [if_pos h]
   simp [show ¬ j = S by omega]
 · rw [if_neg h, tb_ge hp (by omega)]
   by_cases h2 : j = S
   · subst h2; simp
   · have : j - S ≠ 0 := by omega
     rw [Bool.or_false, decide_eq_false h2]
     exact Nat.testBit_lt_two_pow (Nat.lt_of_lt_of_le (by decide : 1 < 2 ^ 1) (Nat.pow_le_pow_right (by decide) (by omega)))
theorem red_step {S p n k : Nat} (hp : p < 2 ^ S) (hn : n < 2 ^ (S + k + 1)) (ht : n.testBit (S + k) = true) : n ^^^ (p + 2 ^ S) * 2 ^ k < 2 ^ (S + k) := by
 refine lt_of_tb fun i hi => ?_
 rw [Nat.testBit_xor, tb_mul, tb_top hp, decide_eq_true (by omega), Bool.true_and]
 by_cases h : i = S + k
 · subst h
   rw [ht, decide_eq_true (by omega)]
   rfl
 · rw [tb_ge hn (by omega), decide_eq_false (by omega), tb_ge hp (by omega)]
   rfl
theorem tb_val (c : UInt8) (l : List UInt8) (hc : c = 48 ∨ c = 49) (hl : isRow l = true) (j : Nat) : (val (c :: l)).testBit j = if j < l.length then (val l).testBit j else (decide (j = l.length) && isOne c) := by
 have h := val_lt hl
 rw [val, Nat.mul_comm, Nat.testBit_two_pow_mul_add _ h]
 split
 · rfl
 · rename_i hj
   rcases hc with rfl | rfl
   · rw [show (48 : UInt8).toNat - 48 = 0 from rfl, Nat.zero_testBit]
     simp [isOne]
   · rw [show (49 : UInt8).toNat - 48 = 1 from rfl]
     by_cases e : j = l.length
     · subst e
       simp [isOne]
     · rw [decide_eq_false e, Bool.false_and]
       exact Nat.testBit_lt_two_pow (Nat.lt_of_lt_of_le (by decide : 1 < 2 ^ 1) (Nat.pow_le_pow_right (by decide) (by omega)))
theorem tb_crcG {S p r : Nat} {b : Bool} (j : Nat) : (crcG S p r b).testBit j = ((decide (j < S) && (decide (1 ≤ j) && r.testBit (j - 1))) ^^ ((r.testBit (S - 1) != b) && p.testBit j)) := by
 unfold crcG
 have h2 : (2 * r % 2 ^ S).testBit j = (decide (j < S) && (decide (1 ≤ j) && r.testBit (j - 1))) := by
  rw [Nat.testBit_mod_two_pow, Nat.mul_comm, show r * 2 = r <<< 1 from by rw [Nat.shiftLeft_eq], Nat.testBit_shiftLeft]
 have h3 : ∀ c : Bool, (if c = true then p else 0).testBit j = (c && p.testBit j) := fun c => by cases c <;> simp
 rw [Nat.testBit_xor, h2, h3]
theorem red_crc {S p : Nat} (hS : 1 ≤ S) (hp : p < 2 ^ S) : ∀ (l : List UInt8) (r : Nat), isRow l = true → r < 2 ^ S → redN S (p + 2 ^ S) l.length (r * 2 ^ l.length ^^^ val l * 2 ^ S) = crcF S p r l := by
 intro l
 induction l with
 | nil =>
  intro r _ hr
  rw [crcF, val, Nat.zero_mul, Nat.xor_zero]
  show r * 2 ^ 0 = r
  rw [Nat.pow_zero, Nat.mul_one]
 | cons c l ih =>
  intro r hrow hr
  rw [isRow_cons, Bool.and_eq_true] at hrow
  have hc := isBit_or hrow.1
  have hg := crcG_lt (r := r) (b := isOne c) hp
  rw [crcF, ← ih _ hrow.2 hg, List.length_cons, redN]
  congr 1
  have hvl := val_lt hrow.2
  have ht : (r * 2 ^ (l.length + 1) ^^^ val (c :: l) * 2 ^ S).testBit (S + l.length) = (r.testBit (S - 1) != isOne c) := by
   rw [Nat.testBit_xor, tb_mul, tb_mul, tb_val c l hc hrow.2, decide_eq_true (by omega), decide_eq_true (by omega), if_neg (by omega), decide_eq_true (by omega), show S + l.length - (l.length + 1) = S - 1 by omega]
   cases r.testBit (S - 1) <;> cases isOne c <;> rfl
  have key : ∀ t : Bool, t = (r.testBit (S - 1) != isOne c) → ∀ i, ((r * 2 ^ (l.length + 1)).testBit i ^^ ((val (c :: l) * 2 ^ S).testBit i ^^ (t && ((p + 2 ^ S) * 2 ^ l.length).testBit i))) = ((crcG S p r (isOne c) * 2 ^ l.length).testBit i ^^ (val l * 2 ^ S).testBit i) := by
   intro t htt i
   rw [tb_mul, tb_mul, tb_mul, tb_mul, tb_mul, tb_val c l hc hrow.2, tb_crcG, tb_top hp, ← htt]
   by_cases h1 : i < l.length
   · rw [decide_eq_false (by omega : ¬ l.length + 1 ≤ i), decide_eq_false (by omega : ¬ l.length ≤ i)]
     by_cases h2 : S ≤ i
     · rw [decide_eq_true h2, if_pos (by omega)]
       simp
     · rw [decide_eq_false h2]
       simp
   · rw [decide_eq_true (by omega : l.length ≤ i)]
     rcases Nat.lt_trichotomy (i - l.length) S with h3 | h3 | h3
     · rw [decide_eq_false (by omega : ¬ i - l.length = S), decide_eq_true h3]
       have e1 : i - (l.length + 1) = i - l.length - 1 := by omega
       have e2 : decide (l.length + 1 ≤ i) = decide (1 ≤ i - l.length) := by
        rw [decide_eq_decide]; omega
       rw [e1, e2]
       by_cases h2 : S ≤ i
       · rw [decide_eq_true h2, if_pos (by omega)]
         generalize (decide (1 ≤ i - l.length) && r.testBit (i - l.length - 1)) = A
         generalize (val l).testBit (i - S) = B
         generalize p.testBit (i - l.length) = C
         cases A <;> cases B <;> cases C <;> cases t <;> rfl
       · rw [decide_eq_false h2]
         generalize (decide (1 ≤ i - l.length) && r.testBit (i - l.length - 1)) = A
         generalize p.testBit (i - l.length) = C
         cases A <;> cases C <;> cases t <;> rfl
     · rw [decide_eq_true h3, decide_eq_true (by omega : l.length + 1 ≤ i), decide_eq_true (by omega : S ≤ i), if_neg (by omega), decide_eq_true (by omega : i - S = l.length), decide_eq_false (by omega : ¬ i - l.length < S), tb_ge hp (by omega), tb_ge hvl (by omega), show i - (l.length + 1) = S - 1 by omega, htt]
       cases r.testBit (S - 1) <;> cases isOne c <;> rfl
     · rw [decide_eq_false (by omega : ¬ i - l.length = S), decide_eq_true (by omega : S ≤ i), if_neg (by omega), decide_eq_false (by omega : ¬ i - S = l.length), decide_eq_false (by omega : ¬ i - l.length < S), tb_ge hp (by omega), tb_ge hvl (by omega), tb_ge hr (by omega)]
       simp
  apply Nat.eq_of_testBit_eq
  intro i
  have hk := key _ rfl i
  rw [ht]
  rw [Nat.testBit_xor (crcG S p r (isOne c) * 2 ^ l.length), ← hk]
  cases (r.testBit (S - 1) != isOne c)
  · rw [if_neg (by simp), Nat.testBit_xor]
    simp
  · rw [if_pos rfl, Nat.testBit_xor, Nat.testBit_xor]
    simp
theorem kl1 {i q : Int} (h : 0 ≤ i ∧ i < 5) (hq : ([15, 17, 21, 8, 16] : List Int)[i.toNat]? = some q) : q = (kindS i).Size := by rcases kind_cases h with rfl | rfl | rfl | rfl | rfl <;> (cases hq; rfl)
theorem kl2 {i q : Int} (h : 0 ≤ i ∧ i < 5) (hq : ([17817, 92251, 1058969, 47, 4129] : List Int)[i.toNat]? = some q) : q = (kindS i).Poly := by rcases kind_cases h with rfl | rfl | rfl | rfl | rfl <;> (cases hq; rfl)
theorem kl3 {i q : Int} (h : 0 ≤ i ∧ i < 5) (hq : ([0, 65536, 1048576, 255, 65535] : List Int)[i.toNat]? = some q) : q = (kindS i).From := by rcases kind_cases h with rfl | rfl | rfl | rfl | rfl <;> (cases hq; rfl)
theorem kl4 {i q : Int} (h : 0 ≤ i ∧ i < 5) (hq : ([0, 0, 0, 255, 0] : List Int)[i.toNat]? = some q) : q = (kindS i).End := by rcases kind_cases h with rfl | rfl | rfl | rfl | rfl <;> (cases hq; rfl)
theorem toNat_lt {x : Int} {S : Nat} (h0 : 0 ≤ x) (h : x < 2 ^ S) : x.toNat < 2 ^ S := by
 have : (x.toNat : Int) < ((2 ^ S : Nat) : Int) := by push_cast; omega
 exact_mod_cast this
theorem big_wv (n : Nat) : wv (bigN n).abs = n := wv_ws n
theorem big_len {n k : Nat} (h : n < 2 ^ k) (hk : k ≤ 28800) : (bigN n).abs.length ≤ 1000 := by
 have := pow_words h (by omega)
 show (ws n).length ≤ 1000
 omega
theorem rsumof_ok (i : Int) (b : List UInt8) (h : (0 ≤ i ∧ i < 5) ∧ isRow b = true ∧ b.length ≤ 1000) : rsumof_vc i b (fun r => r = sumR i b) := by
 obtain ⟨hk, hr, hl⟩ := h
 obtain ⟨k1, k2, k3, k4, k5, k6, k7, k8, _⟩ := kind_ok hk
 have hsz := kind_size hk
 refine ⟨⟨hk.1, hk.2⟩, fun q1 h1 => ⟨⟨hk.1, hk.2⟩, fun q2 h2 => ⟨⟨hk.1, hk.2⟩, fun q3 h3 => ⟨⟨hk.1, hk.2⟩, fun q4 h4 => ?_⟩⟩⟩⟩
 obtain rfl := kl1 hk h1
 obtain rfl := kl2 hk h2
 obtain rfl := kl3 hk h3
 obtain rfl := kl4 hk h4
 clear h1 h2 h3 h4
 have hP := toNat_lt k3 k4
 have hF := toNat_lt k5 k6
 have hE := toNat_lt k7 k8
 have hsum : sumR i b = wr (kindS i).Size.toNat (crcF (kindS i).Size.toNat (kindS i).Poly.toNat (kindS i).From.toNat b ^^^ (kindS i).End.toNat) := rfl
 rw [hsum]
 clear hsum k4 k6 k8
 generalize (kindS i).Size = s at *
 generalize (kindS i).Poly = p at *
 generalize (kindS i).From = f at *
 generalize (kindS i).End = e at *
 obtain ⟨S, rfl⟩ : ∃ n : Nat, s = n := ⟨s.toNat, by omega⟩
 obtain ⟨P, rfl⟩ : ∃ n : Nat, p = n := ⟨p.toNat, by omega⟩
 obtain ⟨F, rfl⟩ : ∃ n : Nat, f = n := ⟨f.toNat, by omega⟩
 obtain ⟨E, rfl⟩ : ∃ n : Nat, e = n := ⟨e.toNat, by omega⟩
 simp only [Int.toNat_natCast] at *
 have hS1 : 1 ≤ S := by omega
 have hS2 : S ≤ 21 := by omega
 have p21 : 2 ^ S ≤ 2 ^ 21 := Nat.pow_le_pow_right (by decide) hS2
 have v21 : (2 : Nat) ^ 21 = 2097152 := rfl
 have hv := val_lt hr
 have eS : wu64 (S : Int) = (S : Int) := wu64_eq _ (by omega)
 have eL : wu64 (b.length : Int) = (b.length : Int) := wu64_eq _ (by omega)
 rw [eS, eL]
 have x1 : glshAS (rvalueS b) (S : Int) = bigN (val b * 2 ^ S) := by
  unfold glshAS rvalueS
  rw [big_wv, Int.toNat_natCast]
 have x2 : glshAS (gnewS (F : Int)) (b.length : Int) = bigN (F * 2 ^ b.length) := by
  unfold glshAS gnewS
  rw [big_wv, Int.toNat_natCast, Int.toNat_natCast]
 have b1 : val b * 2 ^ S < 2 ^ (S + b.length) := by
  rw [Nat.add_comm, Nat.pow_add]
  exact Nat.mul_lt_mul_of_pos_right hv (Nat.two_pow_pos _)
 have b2 : F * 2 ^ b.length < 2 ^ (S + b.length) := by
  rw [Nat.pow_add]
  exact Nat.mul_lt_mul_of_pos_right hF (Nat.two_pow_pos _)
 refine ⟨⟨hr, hl⟩, ⟨rfl, ws_wok _, big_len hv (by omega), by omega, by omega⟩, ?_⟩
 rw [x1, x2]
 rintro _ rfl _
 refine ⟨by omega, ⟨rfl, ws_wok _, big_len (n := F) (k := 21) (by omega) (by omega), by omega, by omega⟩, ?_⟩
 rintro _ rfl _
 refine ⟨⟨⟨rfl, ws_wok _, big_len b1 (by omega)⟩, rfl, ws_wok _, big_len b2 (by omega)⟩, ?_⟩
 have x3 : gxorS (bigN (val b * 2 ^ S)) (bigN (F * 2 ^ b.length)) = (bigN (F * 2 ^ b.length ^^^ val b * 2 ^ S), bigN (F * 2 ^ b.length)) := by
  unfold gxorS
  rw [big_wv, big_wv, Nat.xor_comm]
 rw [x3]
 rintro _ rfl _ _
 have x4 : gsetbitS (gnewS (P : Int)) (S : Int) 1 = bigN (P + 2 ^ S) := by
  unfold gsetbitS gnewS
  rw [big_wv, Int.toNat_natCast, Int.toNat_natCast]
 have x5 : gnewS (P : Int) = bigN P := rfl
 refine ⟨by omega, ⟨rfl, by rw [x5, big_wv]; rfl, by rw [x5, big_wv]; exact hP, by omega, by omega, by trivial⟩, ?_⟩
 rw [x4]
 rintro _ rfl _
 dsimp only
 have b3 : F * 2 ^ b.length ^^^ val b * 2 ^ S < 2 ^ (S + b.length) := Nat.xor_lt_two_pow b2 b1
 have hred := red_crc hS1 hP b F hr hF
 have hR := crcF_lt hP b hF
 generalize crcF S P F b = R at *
 generalize F * 2 ^ b.length ^^^ val b * 2 ^ S = N at *
 have hD : P + 2 ^ S < 2 ^ (S + 1) := by rw [Nat.pow_succ]; omega
 refine ⟨fun d n => n = bigN R, ⟨fun d n => d = bigN (P + 2 ^ S) ∧ ∃ m k : Nat, n = bigN m ∧ k ≤ 1000 ∧ m < 2 ^ (S + k) ∧ redN S (P + 2 ^ S) k m = R, fun _ n => blen (wv n.abs), ⟨rfl, N, b.length, rfl, hl, b3, hred⟩, ?_⟩, ?_⟩
 · rintro _ _ ⟨rfl, m, k, rfl, hk1, hm, hrd⟩
   have hml := big_len hm (by omega)
   refine ⟨⟨by rw [big_wv]; rfl, by omega⟩, ?_⟩
   rintro _ rfl _
   have y1 : gblenS (bigN m) = ((blen m : Int), bigN m) := by unfold gblenS; rw [big_wv]
   rw [y1]
   dsimp only
   refine ⟨fun h5 => ?_, fun h5 => ?_⟩
   · have h5 : S < blen m := by have := of_decide_eq_true h5; omega
     refine ⟨⟨by rw [big_wv]; rfl, by omega⟩, ?_⟩
     rintro _ rfl _
     rw [y1]
     dsimp only
     have hbm : blen m ≤ S + k := by
      have hm0 : m ≠ 0 := by
       rintro rfl
       simp [blen] at h5
      have h6 := blen_ge hm0
      rcases Nat.lt_or_ge (S + k) (blen m) with hc | hc
      · have : 2 ^ (S + k) ≤ 2 ^ (blen m - 1) := Nat.pow_le_pow_right (by decide) (by omega)
        omega
      · exact hc
     obtain ⟨j, hj⟩ : ∃ j, blen m = S + j + 1 := ⟨blen m - S - 1, by omega⟩
     have ej : wu64 (w64 (w64 ((blen m : Int) - (S : Int)) - 1)) = (j : Int) := by
      rw [w64_eq ((blen m : Int) - (S : Int)) (by omega), w64_eq _ (by omega), wu64_eq _ (by omega)]
      omega
     rw [ej]
     refine ⟨⟨rfl, ws_wok _, big_len hD (by omega), by omega, by omega⟩, ?_⟩
     have y2 : glshS (⟨false, []⟩ : BInt) (bigN (P + 2 ^ S)) (j : Int) = (bigN ((P + 2 ^ S) * 2 ^ j), bigN (P + 2 ^ S)) := by
      unfold glshS
      rw [big_wv, Int.toNat_natCast]
     rw [y2]
     rintro _ rfl _ _
     dsimp only
     have b4 : (P + 2 ^ S) * 2 ^ j < 2 ^ (S + 1 + j) := by
      rw [Nat.pow_add 2 (S + 1)]
      exact Nat.mul_lt_mul_of_pos_right hD (Nat.two_pow_pos _)
     refine ⟨⟨⟨rfl, ws_wok _, hml⟩, rfl, ws_wok _, big_len b4 (by omega)⟩, ?_⟩
     have y3 : gxorS (bigN m) (bigN ((P + 2 ^ S) * 2 ^ j)) = (bigN (m ^^^ (P + 2 ^ S) * 2 ^ j), bigN ((P + 2 ^ S) * 2 ^ j)) := by
      unfold gxorS
      rw [big_wv, big_wv]
     rw [y3]
     rintro _ rfl _ _
     dsimp only
     have hm2 : m < 2 ^ (S + j + 1) := by
      have := blen_lt m
      rwa [hj] at this
     have ht : m.testBit (S + j) = true := by
      have hm0 : m ≠ 0 := by
       rintro rfl
       simp [blen] at h5
      have h6 := blen_ge hm0
      rw [hj, Nat.add_sub_cancel] at h6
      rw [Nat.testBit_eq_decide_div_mod_eq, decide_eq_true_eq]
      have h7 : m / 2 ^ (S + j) < 2 := by
       rw [Nat.div_lt_iff_lt_mul (Nat.two_pow_pos _)]
       rw [Nat.pow_succ] at hm2
       omega
      have h8 : 1 ≤ m / 2 ^ (S + j) := (Nat.le_div_iff_mul_le (Nat.two_pow_pos _)).2 (by omega)
      omega
     have hst := red_step hP hm2 ht
     refine ⟨⟨rfl, _, j, rfl, by omega, hst, ?_⟩, ?_⟩
     · obtain ⟨q, hq⟩ : ∃ q, k = (j + 1) + q := ⟨k - (j + 1), by omega⟩
       rw [hq, redN_le S (P + 2 ^ S) (j := j + 1) hm2, redN, if_pos ht] at hrd
       exact hrd
     · rw [big_wv, big_wv, hj]
       have : blen (m ^^^ (P + 2 ^ S) * 2 ^ j) ≤ S + j := by
        rcases Nat.eq_zero_or_pos (m ^^^ (P + 2 ^ S) * 2 ^ j) with h0 | h0
        · rw [h0]
          simp [blen]
        · have h6 := blen_ge (Nat.pos_iff_ne_zero.1 h0)
          rcases Nat.lt_or_ge (S + j) (blen (m ^^^ (P + 2 ^ S) * 2 ^ j)) with hc | hc
          · have : 2 ^ (S + j) ≤ 2 ^ (blen (m ^^^ (P + 2 ^ S) * 2 ^ j) - 1) := Nat.pow_le_pow_right (by decide) (by omega)
            omega
          · exact hc
       omega
   · have h5 : blen m ≤ S := by have := of_decide_eq_false h5; omega
     have hmS : m < 2 ^ S := Nat.lt_of_lt_of_le (blen_lt m) (Nat.pow_le_pow_right (by decide) h5)
     rw [redN_small S _ k m hmS] at hrd
     rw [hrd]
 · rintro _ _ rfl
   have x6 : gnewS (E : Int) = bigN E := rfl
   rw [x6]
   refine ⟨by omega, ⟨⟨rfl, ws_wok _, big_len hR (by omega)⟩, rfl, ws_wok _, big_len hE (by omega)⟩, ?_⟩
   have x7 : gxorS (bigN R) (bigN E) = (bigN (R ^^^ E), bigN E) := by unfold gxorS; rw [big_wv, big_wv]
   rw [x7]
   rintro _ rfl _ _
   dsimp only
   have hRE : R ^^^ E < 2 ^ S := Nat.xor_lt_two_pow hR hE
   refine ⟨⟨rfl, ws_wok _, by rw [big_wv]; omega⟩, ?_⟩
   have x8 : gint64S (bigN (R ^^^ E)) = (((R ^^^ E : Nat) : Int), bigN (R ^^^ E)) := by unfold gint64S; rw [big_wv]
   rw [x8]
   rintro _ rfl _
   dsimp only
   refine ⟨by omega, ?_⟩
   rw [rrow_wr (by omega) (by omega) (by rw [Int.toNat_natCast, Int.toNat_natCast]; exact hRE), Int.toNat_natCast, Int.toNat_natCast]
end Go.Proofs.YtmnlahbngbigdaaGreatDoor
set_option linter.unusedVariables false
set_option linter.unusedSimpArgs false
namespace Go.Proofs.YtmnlahbngbigdaaGreatDoor
open Go.Sy Go.RowKit
end Go.Proofs.YtmnlahbngbigdaaGreatDoor
set_option linter.unusedVariables false
set_option linter.unusedSimpArgs false
namespace Go.Proofs.YtmnlahbngbigdaaGreatDoor
open Go.Sy Go.RowKit
def rofb_vc (u0 : List Int) (K : (List UInt8) → Prop) : Prop := (u0.length ≤ 140737488355328 → (∃ inv19 : (List UInt8) → Int → Prop, ∃ mu19 : (List UInt8) → Int → Nat, inv19 [] 0 ∧ (∀ (x3 : List UInt8) (x9 : Int), inv19 x3 x9 → (((decide (x9 < (u0.length : Int))) = true → ((0 ≤ x9 ∧ x9 < (u0.length : Int)) ∧ (∀ q43, u0[x9.toNat]? = some q43 → (fint1_vc (w64 q43) fun r59 => ((0 ≤ (w64 (8 - (r59.length : Int))) ∧ (w64 (8 - (r59.length : Int))) ≤ 1000000 ∧ (([48] : List UInt8).length : Int) * (w64 (8 - (r59.length : Int))) ≤ 140737488355328) ∧ ((((srepS ([48] : List UInt8) (w64 (8 - (r59.length : Int)))).length : Int) + (r59.length : Int) ≤ 9223372036854775807) ∧ (((x3.length : Int) + (((srepS ([48] : List UInt8) (w64 (8 - (r59.length : Int)))) ++ r59).length : Int) ≤ 9223372036854775807) ∧ (inv19 (x3 ++ ((srepS ([48] : List UInt8) (w64 (8 - (r59.length : Int)))) ++ r59)) (w64 (x9 + 1)) ∧ mu19 (x3 ++ ((srepS ([48] : List UInt8) (w64 (8 - (r59.length : Int)))) ++ r59)) (w64 (x9 + 1)) < mu19 x3 x9)))))))) ∧ ((decide (x9 < (u0.length : Int))) = false → (K x3))))))
def rname_vc (u0 : Frame) (K : (List UInt8) → Prop) : Prop := (u0.Data.length ≤ 140737488355328 → ((u0.Remote = true → ((u0.Long = true → ((u0.ID ≤ 9223372036854775807 ∧ (29 : Int) ≤ 1000000) ∧ ((0 ≤ (11 : Int) ∧ (11 : Int) ≤ ((rrowS u0.ID 29).1.length : Int)) ∧ (((((rrowS u0.ID 29).1.take (11 : Int).toNat).length : Int) + (([49, 49] : List UInt8).length : Int) ≤ 9223372036854775807) ∧ ((0 ≤ (11 : Int) ∧ (11 : Int) ≤ ((rrowS u0.ID 29).1.length : Int)) ∧ ((((((rrowS u0.ID 29).1.take (11 : Int).toNat) ++ ([49, 49] : List UInt8)).length : Int) + (((rrowS u0.ID 29).1.drop (11 : Int).toNat).length : Int) ≤ 9223372036854775807) ∧ (((((((rrowS u0.ID 29).1.take (11 : Int).toNat) ++ ([49, 49] : List UInt8)) ++ ((rrowS u0.ID 29).1.drop (11 : Int).toNat)).length : Int) + (([49] : List UInt8).length : Int) ≤ 9223372036854775807) ∧ (K (((((rrowS u0.ID 29).1.take (11 : Int).toNat) ++ ([49, 49] : List UInt8)) ++ ((rrowS u0.ID 29).1.drop (11 : Int).toNat)) ++ ([49] : List UInt8)))))))))) ∧ (u0.Long = false → ((u0.ID ≤ 9223372036854775807 ∧ (11 : Int) ≤ 1000000) ∧ ((((rrowS u0.ID 11).1.length : Int) + (([49] : List UInt8).length : Int) ≤ 9223372036854775807) ∧ (((((rrowS u0.ID 11).1 ++ ([49] : List UInt8)).length : Int) + (([48] : List UInt8).length : Int) ≤ 9223372036854775807) ∧ (K (((rrowS u0.ID 11).1 ++ ([49] : List UInt8)) ++ ([48] : List UInt8))))))))) ∧ (u0.Remote = false → ((u0.Long = true → ((u0.ID ≤ 9223372036854775807 ∧ (29 : Int) ≤ 1000000) ∧ ((0 ≤ (11 : Int) ∧ (11 : Int) ≤ ((rrowS u0.ID 29).1.length : Int)) ∧ (((((rrowS u0.ID 29).1.take (11 : Int).toNat).length : Int) + (([49, 49] : List UInt8).length : Int) ≤ 9223372036854775807) ∧ ((0 ≤ (11 : Int) ∧ (11 : Int) ≤ ((rrowS u0.ID 29).1.length : Int)) ∧ ((((((rrowS u0.ID 29).1.take (11 : Int).toNat) ++ ([49, 49] : List UInt8)).length : Int) + (((rrowS u0.ID 29).1.drop (11 : Int).toNat).length : Int) ≤ 9223372036854775807) ∧ (((((((rrowS u0.ID 29).1.take (11 : Int).toNat) ++ ([49, 49] : List UInt8)) ++ ((rrowS u0.ID 29).1.drop (11 : Int).toNat)).length : Int) + (([48] : List UInt8).length : Int) ≤ 9223372036854775807) ∧ (K (((((rrowS u0.ID 29).1.take (11 : Int).toNat) ++ ([49, 49] : List UInt8)) ++ ((rrowS u0.ID 29).1.drop (11 : Int).toNat)) ++ ([48] : List UInt8)))))))))) ∧ (u0.Long = false → ((u0.ID ≤ 9223372036854775807 ∧ (11 : Int) ≤ 1000000) ∧ ((((rrowS u0.ID 11).1.length : Int) + (([48] : List UInt8).length : Int) ≤ 9223372036854775807) ∧ (((((rrowS u0.ID 11).1 ++ ([48] : List UInt8)).length : Int) + (([48] : List UInt8).length : Int) ≤ 9223372036854775807) ∧ (K (((rrowS u0.ID 11).1 ++ ([48] : List UInt8)) ++ ([48] : List UInt8)))))))))))
def rsizes_vc  (K : (List Int) → Prop) : Prop := (K ([0, 1, 2, 3, 4, 5, 6, 7, 8, 12, 16, 20, 24, 32, 48, 64] : List Int))
def rsizes  : (List Int) :=
 ([0, 1, 2, 3, 4, 5, 6, 7, 8, 12, 16, 20, 24, 32, 48, 64] : List Int)
theorem rsizes_ok  : rsizes_vc  (fun r => r = rsizes ) := (by rfl)
def rcheckfr_vc (u0 : Frame) (K : Int → Prop) : Prop := (u0.Data.length ≤ 140737488355328 → ((u0.Long = true → ((((decide (u0.ID < 0)) || (decide (u0.ID > 536870911))) = true → (K 3)) ∧ (((decide (u0.ID < 0)) || (decide (u0.ID > 536870911))) = false → (((u0.Remote && (u0.Fast || ((u0.Data.length : Int) != 0))) = true → (K 4)) ∧ ((u0.Remote && (u0.Fast || ((u0.Data.length : Int) != 0))) = false → (((((decide (u0.Size < 0)) || (decide (u0.Size > 8))) || ((decide (u0.Size > 0)) && (!u0.Remote))) = true → (K 3)) ∧ ((((decide (u0.Size < 0)) || (decide (u0.Size > 8))) || ((decide (u0.Size > 0)) && (!u0.Remote))) = false → ((((decide ((u0.Data.length : Int) > 64)) || ((decide ((u0.Data.length : Int) > 8)) && (!u0.Fast))) = true → (K 2)) ∧ (((decide ((u0.Data.length : Int) > 64)) || ((decide ((u0.Data.length : Int) > 8)) && (!u0.Fast))) = false → (((!(scontainsS rsizes (u0.Data.length : Int))) = true → (K 4)) ∧ ((!(scontainsS rsizes (u0.Data.length : Int))) = false → (K 0)))))))))))) ∧ (u0.Long = false → ((((decide (u0.ID < 0)) || (decide (u0.ID > 2047))) = true → (K 3)) ∧ (((decide (u0.ID < 0)) || (decide (u0.ID > 2047))) = false → (((u0.Remote && (u0.Fast || ((u0.Data.length : Int) != 0))) = true → (K 4)) ∧ ((u0.Remote && (u0.Fast || ((u0.Data.length : Int) != 0))) = false → (((((decide (u0.Size < 0)) || (decide (u0.Size > 8))) || ((decide (u0.Size > 0)) && (!u0.Remote))) = true → (K 3)) ∧ ((((decide (u0.Size < 0)) || (decide (u0.Size > 8))) || ((decide (u0.Size > 0)) && (!u0.Remote))) = false → ((((decide ((u0.Data.length : Int) > 64)) || ((decide ((u0.Data.length : Int) > 8)) && (!u0.Fast))) = true → (K 2)) ∧ (((decide ((u0.Data.length : Int) > 64)) || ((decide ((u0.Data.length : Int) > 8)) && (!u0.Fast))) = false → (((!(scontainsS rsizes (u0.Data.length : Int))) = true → (K 4)) ∧ ((!(scontainsS rsizes (u0.Data.length : Int))) = false → (K 0))))))))))))))
theorem fmt_byte (n : Nat) (h : n < 256) : srepS [48] (8 - ((binS n).length : Int)) ++ binS n = wr 8 n := by
 have hl : Nat.log2 n < 8 := by
  by_cases h0 : n = 0
  · subst h0; decide
  · exact (Nat.log2_lt h0).2 h
 have e : (8 : Int) - ((binS n).length : Int) = ((8 - (Nat.log2 n + 1) : Nat) : Int) := by rw [binS_len]; omega
 rw [e, srep_zero]
 unfold binS
 have hb : n < 2 ^ (Nat.log2 n + 1) := by
  by_cases h0 : n = 0
  · subst h0; decide
  · exact (Nat.log2_lt h0).1 (by omega)
 have := wr_zeros n (Nat.log2 n + 1) hb (8 - (Nat.log2 n + 1))
 rw [← this]
 congr 1
 omega
theorem rofb_ok (l : List Int) (h : (∀ x ∈ l, 0 ≤ x ∧ x ≤ 255) ∧ l.length ≤ 1000) : rofb_vc l (fun r => r = ofb l) := by
 obtain ⟨hb, hl⟩ := h
 intro _
 refine ⟨fun x i => ∃ k : Nat, i = k ∧ k ≤ l.length ∧ x = ofb (l.take k), fun _ i => l.length - i.toNat, ⟨0, rfl, by omega, by simp [ofb]⟩, ?_⟩
 rintro _ _ ⟨k, rfl, hk, rfl⟩
 refine ⟨fun h1 => ?_, fun h1 => ?_⟩
 · have hkl : k < l.length := by have := of_decide_eq_true h1; omega
   refine ⟨by omega, fun q hq => ?_⟩
   rw [Int.toNat_natCast] at hq
   have hqb := hb q (List.mem_of_getElem? hq)
   rw [w64_eq q (by omega)]
   refine ⟨⟨by omega, by omega⟩, ?_⟩
   have hf : fintS q = binS q.toNat := rfl
   have hlen : (binS q.toNat).length ≤ 8 := by
    rw [binS_len]
    by_cases h0 : q.toNat = 0
    · rw [h0]; decide
    · have := (Nat.log2_lt h0).2 (show q.toNat < 2 ^ 8 by omega)
      omega
   rw [hf]
   dsimp only
   rw [w64_eq (8 - ((binS q.toNat).length : Int)) (by omega), fmt_byte q.toNat (by omega)]
   have hol := ofb_length (l.take k)
   rw [List.length_take] at hol
   have hsl : (srepS [48] (8 - ((binS q.toNat).length : Int))).length ≤ 8 := by
    have := congrArg List.length (fmt_byte q.toNat (by omega))
    rw [List.length_append, wr_length] at this
    omega
   refine ⟨⟨by omega, by omega, by simp only [List.length_cons, List.length_nil]; omega⟩, by omega, by rw [wr_length]; omega, ?_⟩
   rw [w64_succ k (by omega)]
   refine ⟨⟨k + 1, rfl, by omega, ?_⟩, by (try dsimp only); omega⟩
   rw [take_next l k q hq, ofb_append]
   show _ = ofb (l.take k) ++ (wr 8 q.toNat ++ [])
   rw [List.append_nil]
 · have hkl : k = l.length := by have := of_decide_eq_false h1; omega
   subst hkl
   show ofb (l.take l.length) = ofb l
   rw [List.take_length]
end Go.Proofs.YtmnlahbngbigdaaGreatDoor
set_option linter.unusedVariables false
set_option linter.unusedSimpArgs false
namespace Go.Proofs.YtmnlahbngbigdaaGreatDoor
open Go.Sy Go.RowKit
def rhead_vc (u0 : Frame) (K : (List UInt8) → Prop) : Prop := (u0.Data.length ≤ 140737488355328 → ((fcheckfr u0 = 0) ∧ (((([48] : List UInt8).length : Int) + ((fnameS u0).length : Int) ≤ 9223372036854775807) ∧ ((u0.Fast = true → ((((([48] : List UInt8) ++ (fnameS u0)).length : Int) + (([49, 48, 49, 48] : List UInt8).length : Int) ≤ 9223372036854775807) ∧ (((!u0.Remote) = true → (((sindexS rsizes (u0.Data.length : Int)) ≤ 9223372036854775807 ∧ (4 : Int) ≤ 1000000) ∧ (((((([48] : List UInt8) ++ (fnameS u0)) ++ ([49, 48, 49, 48] : List UInt8)).length : Int) + ((rrowS (sindexS rsizes (u0.Data.length : Int)) 4).1.length : Int) ≤ 9223372036854775807) ∧ (((∀ x ∈ u0.Data, 0 ≤ x ∧ x ≤ 255) ∧ u0.Data.length ≤ 1000) ∧ ((((((([48] : List UInt8) ++ (fnameS u0)) ++ ([49, 48, 49, 48] : List UInt8)) ++ (rrowS (sindexS rsizes (u0.Data.length : Int)) 4).1).length : Int) + ((ofb u0.Data).length : Int) ≤ 9223372036854775807) ∧ (K ((((([48] : List UInt8) ++ (fnameS u0)) ++ ([49, 48, 49, 48] : List UInt8)) ++ (rrowS (sindexS rsizes (u0.Data.length : Int)) 4).1) ++ (ofb u0.Data)))))))) ∧ ((!u0.Remote) = false → ((u0.Size ≤ 9223372036854775807 ∧ (4 : Int) ≤ 1000000) ∧ (((((([48] : List UInt8) ++ (fnameS u0)) ++ ([49, 48, 49, 48] : List UInt8)).length : Int) + ((rrowS u0.Size 4).1.length : Int) ≤ 9223372036854775807) ∧ (((∀ x ∈ u0.Data, 0 ≤ x ∧ x ≤ 255) ∧ u0.Data.length ≤ 1000) ∧ ((((((([48] : List UInt8) ++ (fnameS u0)) ++ ([49, 48, 49, 48] : List UInt8)) ++ (rrowS u0.Size 4).1).length : Int) + ((ofb u0.Data).length : Int) ≤ 9223372036854775807) ∧ (K ((((([48] : List UInt8) ++ (fnameS u0)) ++ ([49, 48, 49, 48] : List UInt8)) ++ (rrowS u0.Size 4).1) ++ (ofb u0.Data))))))))))) ∧ (u0.Fast = false → ((u0.Long = true → ((((([48] : List UInt8) ++ (fnameS u0)).length : Int) + (([48, 48] : List UInt8).length : Int) ≤ 9223372036854775807) ∧ (((!u0.Remote) = true → (((sindexS rsizes (u0.Data.length : Int)) ≤ 9223372036854775807 ∧ (4 : Int) ≤ 1000000) ∧ (((((([48] : List UInt8) ++ (fnameS u0)) ++ ([48, 48] : List UInt8)).length : Int) + ((rrowS (sindexS rsizes (u0.Data.length : Int)) 4).1.length : Int) ≤ 9223372036854775807) ∧ (((∀ x ∈ u0.Data, 0 ≤ x ∧ x ≤ 255) ∧ u0.Data.length ≤ 1000) ∧ ((((((([48] : List UInt8) ++ (fnameS u0)) ++ ([48, 48] : List UInt8)) ++ (rrowS (sindexS rsizes (u0.Data.length : Int)) 4).1).length : Int) + ((ofb u0.Data).length : Int) ≤ 9223372036854775807) ∧ (K ((((([48] : List UInt8) ++ (fnameS u0)) ++ ([48, 48] : List UInt8)) ++ (rrowS (sindexS rsizes (u0.Data.length : Int)) 4).1) ++ (ofb u0.Data)))))))) ∧ ((!u0.Remote) = false → ((u0.Size ≤ 9223372036854775807 ∧ (4 : Int) ≤ 1000000) ∧ (((((([48] : List UInt8) ++ (fnameS u0)) ++ ([48, 48] : List UInt8)).length : Int) + ((rrowS u0.Size 4).1.length : Int) ≤ 9223372036854775807) ∧ (((∀ x ∈ u0.Data, 0 ≤ x ∧ x ≤ 255) ∧ u0.Data.length ≤ 1000) ∧ ((((((([48] : List UInt8) ++ (fnameS u0)) ++ ([48, 48] : List UInt8)) ++ (rrowS u0.Size 4).1).length : Int) + ((ofb u0.Data).length : Int) ≤ 9223372036854775807) ∧ (K ((((([48] : List UInt8) ++ (fnameS u0)) ++ ([48, 48] : List UInt8)) ++ (rrowS u0.Size 4).1) ++ (ofb u0.Data))))))))))) ∧ (u0.Long = false → ((((([48] : List UInt8) ++ (fnameS u0)).length : Int) + (([48] : List UInt8).length : Int) ≤ 9223372036854775807) ∧ (((!u0.Remote) = true → (((sindexS rsizes (u0.Data.length : Int)) ≤ 9223372036854775807 ∧ (4 : Int) ≤ 1000000) ∧ (((((([48] : List UInt8) ++ (fnameS u0)) ++ ([48] : List UInt8)).length : Int) + ((rrowS (sindexS rsizes (u0.Data.length : Int)) 4).1.length : Int) ≤ 9223372036854775807) ∧ (((∀ x ∈ u0.Data, 0 ≤ x ∧ x ≤ 255) ∧ u0.Data.length ≤ 1000) ∧ ((((((([48] : List UInt8) ++ (fnameS u0)) ++ ([48] : List UInt8)) ++ (rrowS (sindexS rsizes (u0.Data.length : Int)) 4).1).length : Int) + ((ofb u0.Data).length : Int) ≤ 9223372036854775807) ∧ (K ((((([48] : List UInt8) ++ (fnameS u0)) ++ ([48] : List UInt8)) ++ (rrowS (sindexS rsizes (u0.Data.length : Int)) 4).1) ++ (ofb u0.Data)))))))) ∧ ((!u0.Remote) = false → ((u0.Size ≤ 9223372036854775807 ∧ (4 : Int) ≤ 1000000) ∧ (((((([48] : List UInt8) ++ (fnameS u0)) ++ ([48] : List UInt8)).length : Int) + ((rrowS u0.Size 4).1.length : Int) ≤ 9223372036854775807) ∧ (((∀ x ∈ u0.Data, 0 ≤ x ∧ x ≤ 255) ∧ u0.Data.length ≤ 1000) ∧ ((((((([48] : List UInt8) ++ (fnameS u0)) ++ ([48] : List UInt8)) ++ (rrowS u0.Size 4).1).length : Int) + ((ofb u0.Data).length : Int) ≤ 9223372036854775807) ∧ (K ((((([48] : List UInt8) ++ (fnameS u0)) ++ ([48] : List UInt8)) ++ (rrowS u0.Size 4).1) ++ (ofb u0.Data)))))))))))))))))
theorem rname_ok (f : Frame) (h : fcheckfr f = 0) : rname_vc f (fun r => r = fnameS f) := by
 obtain ⟨c1, c2, c3, c4, c5, c6, c7, c8, c9, c10⟩ := fcheckfr_zero h
 intro _
 have p29 : (2 : Nat) ^ 29 = 536870912 := rfl
 have p11 : (2 : Nat) ^ 11 = 2048 := rfl
 have hl : rrowS f.ID 29 = (wr 29 f.ID.toNat, true) := rrow_wr c1 (by decide) (by show _ < 2 ^ 29; omega)
 have hs : f.Long = false → rrowS f.ID 11 = (wr 11 f.ID.toNat, true) := fun e => rrow_wr c1 (by decide) (by have := c3 e; show _ < 2 ^ 11; omega)
 have hsp : wr 29 f.ID.toNat = wr 11 (f.ID.toNat / 2 ^ 18) ++ wr 18 f.ID.toNat := wr_split f.ID.toNat 18 11
 have e11 : (11 : Int).toNat = 11 := rfl
 have ht : (wr 29 f.ID.toNat).take 11 = wr 11 (f.ID.toNat / 2 ^ 18) := by rw [hsp]; exact List.take_left' (wr_length _ _)
 have hdr : (wr 29 f.ID.toNat).drop 11 = wr 18 f.ID.toNat := by rw [hsp]; exact List.drop_left' (wr_length _ _)
 rw [hl]
 dsimp only
 rw [e11, ht, hdr]
 refine ⟨fun hR => ⟨fun hL => ?_, fun hL => ?_⟩, fun hR => ⟨fun hL => ?_, fun hL => ?_⟩⟩
 · refine ⟨by omega, by rw [wr_length]; omega, by rw [wr_length]; simp, by rw [wr_length]; omega, by simp [wr_length], by simp [wr_length], ?_⟩
   unfold fnameS
   rw [if_neg (by rw [hL]; simp), hR]
   rfl
 · rw [hs hL]
   refine ⟨by omega, by simp [wr_length], by simp [wr_length], ?_⟩
   unfold fnameS
   rw [if_pos hL, hR]
   rfl
 · refine ⟨by omega, by rw [wr_length]; omega, by rw [wr_length]; simp, by rw [wr_length]; omega, by simp [wr_length], by simp [wr_length], ?_⟩
   unfold fnameS
   rw [if_neg (by rw [hL]; simp), hR]
   rfl
 · rw [hs hL]
   refine ⟨by omega, by simp [wr_length], by simp [wr_length], ?_⟩
   unfold fnameS
   rw [if_pos hL, hR]
   rfl
theorem fcheck_eq (f : Frame) (c1 c2 c3 c4 : Bool) (h1 : c1 = (((decide (f.ID < 0)) || ((!f.Long) && (decide (f.ID > 2047)))) || (decide (f.ID > 536870911)))) (h2 : c2 = (f.Remote && (f.Fast || (decide ((f.Data.length : Int) > 0))))) (h3 : c3 = (((decide (f.Size < 0)) || (decide (f.Size > 8))) || ((!f.Remote) && (f.Size != 0)))) (h4 : c4 = ((decide ((f.Data.length : Int) > 64)) || ((!f.Fast) && (decide ((f.Data.length : Int) > 8))))) : fcheckfr f = bif c1 then 3 else bif c2 then 4 else bif c3 then 3 else bif c4 then 2 else bif !(scontainsS rsizes (f.Data.length : Int)) then 4 else 0 := by
 subst h1 h2 h3 h4
 rfl
theorem rcheckfr_ok (f : Frame) : rcheckfr_vc f (fun r => r = fcheckfr f) := by
 intro _
 have e2 : (f.Remote && (f.Fast || ((f.Data.length : Int) != 0))) = (f.Remote && (f.Fast || (decide ((f.Data.length : Int) > 0)))) := by
  congr 2
  rw [Bool.eq_iff_iff, bne_iff_ne, decide_eq_true_eq]
  omega
 have e3 : (((decide (f.Size < 0)) || (decide (f.Size > 8))) || ((decide (f.Size > 0)) && (!f.Remote))) = (((decide (f.Size < 0)) || (decide (f.Size > 8))) || ((!f.Remote) && (f.Size != 0))) := by
  cases f.Remote
  · rw [Bool.eq_iff_iff]
    simp
    omega
  · simp
 have e4 : ((decide ((f.Data.length : Int) > 64)) || ((decide ((f.Data.length : Int) > 8)) && (!f.Fast))) = ((decide ((f.Data.length : Int) > 64)) || ((!f.Fast) && (decide ((f.Data.length : Int) > 8)))) := by
  rw [Bool.and_comm (decide ((f.Data.length : Int) > 8))]
 refine ⟨fun hL => ?_, fun hL => ?_⟩
 · have e1 : ((decide (f.ID < 0)) || (decide (f.ID > 536870911))) = (((decide (f.ID < 0)) || ((!f.Long) && (decide (f.ID > 2047)))) || (decide (f.ID > 536870911))) := by rw [hL]; simp
   have e := fcheck_eq f _ _ _ _ e1 e2 e3 e4
   rw [e]
   refine ⟨fun g1 => by rw [g1]; rfl, fun g1 => ⟨fun g2 => by rw [g1, g2]; rfl, fun g2 => ⟨fun g3 => by rw [g1, g2, g3]; rfl, fun g3 => ⟨fun g4 => by rw [g1, g2, g3, g4]; rfl, fun g4 => ⟨fun g5 => by rw [g1, g2, g3, g4, g5]; rfl, fun g5 => by rw [g1, g2, g3, g4, g5]; rfl⟩⟩⟩⟩⟩
 · have e1 : ((decide (f.ID < 0)) || (decide (f.ID > 2047))) = (((decide (f.ID < 0)) || ((!f.Long) && (decide (f.ID > 2047)))) || (decide (f.ID > 536870911))) := by
     rw [hL, Bool.eq_iff_iff]
     simp
     omega
   have e := fcheck_eq f _ _ _ _ e1 e2 e3 e4
   rw [e]
   refine ⟨fun g1 => by rw [g1]; rfl, fun g1 => ⟨fun g2 => by rw [g1, g2]; rfl, fun g2 => ⟨fun g3 => by rw [g1, g2, g3]; rfl, fun g3 => ⟨fun g4 => by rw [g1, g2, g3, g4]; rfl, fun g4 => ⟨fun g5 => by rw [g1, g2, g3, g4, g5]; rfl, fun g5 => by rw [g1, g2, g3, g4, g5]; rfl⟩⟩⟩⟩⟩
theorem rhead_ok (f : Frame) (h : fcheckfr f = 0 ∧ ∀ x ∈ f.Data, 0 ≤ x ∧ x ≤ 255) : rhead_vc f (fun r => r = fheadS f) := by
 obtain ⟨h0, hb⟩ := h
 obtain ⟨c1, c2, c3, c4, c5, c6, c7, c8, c9, c10⟩ := fcheckfr_zero h0
 have hrs : rsizes = fsizes := rfl
 have hnl : (fnameS f).length ≤ 32 := by rw [fnameS_len]; split <;> omega
 have hofl := ofb_length f.Data
 have p4 : (2 : Nat) ^ 4 = 16 := rfl
 have key : ∀ c : List UInt8, c = fctl f → c.length ≤ 4 → ∀ n : Int, 0 ≤ n → n ≤ 15 → n.toNat = fcode f →
   ((n ≤ 9223372036854775807 ∧ (4 : Int) ≤ 1000000) ∧
    (((((([48] : List UInt8) ++ (fnameS f)) ++ c).length : Int) + (((rrowS n 4).1).length : Int) ≤ 9223372036854775807) ∧
    (((∀ x ∈ f.Data, 0 ≤ x ∧ x ≤ 255) ∧ f.Data.length ≤ 1000) ∧
    ((((((([48] : List UInt8) ++ (fnameS f)) ++ c) ++ ((rrowS n 4).1)).length : Int) + ((ofb f.Data).length : Int) ≤ 9223372036854775807) ∧
    ((((([48] : List UInt8) ++ (fnameS f)) ++ c) ++ ((rrowS n 4).1)) ++ (ofb f.Data)) = fheadS f)))) := by
  intro c hc hcl n n0 n1 hn
  have hr : rrowS n 4 = (wr 4 n.toNat, true) := rrow_wr n0 (by decide) (by show n.toNat < 2 ^ 4; omega)
  rw [hr]
  dsimp only
  refine ⟨⟨by omega, by decide⟩, ?_, ⟨hb, by omega⟩, ?_, ?_⟩
  · simp only [List.length_append, List.length_cons, List.length_nil, wr_length]; omega
  · simp only [List.length_append, List.length_cons, List.length_nil, wr_length]; omega
  · rw [hn, hc]
    rfl
 have two : ∀ c : List UInt8, c = fctl f → c.length ≤ 4 →
   (((!f.Remote) = true →
    (((sindexS rsizes (f.Data.length : Int)) ≤ 9223372036854775807 ∧ (4 : Int) ≤ 1000000) ∧
    (((((([48] : List UInt8) ++ (fnameS f)) ++ c).length : Int) + (((rrowS (sindexS rsizes (f.Data.length : Int)) 4).1).length : Int) ≤ 9223372036854775807) ∧
    (((∀ x ∈ f.Data, 0 ≤ x ∧ x ≤ 255) ∧ f.Data.length ≤ 1000) ∧
    ((((((([48] : List UInt8) ++ (fnameS f)) ++ c) ++ ((rrowS (sindexS rsizes (f.Data.length : Int)) 4).1)).length : Int) + ((ofb f.Data).length : Int) ≤ 9223372036854775807) ∧
    ((((([48] : List UInt8) ++ (fnameS f)) ++ c) ++ ((rrowS (sindexS rsizes (f.Data.length : Int)) 4).1)) ++ (ofb f.Data)) = fheadS f))))) ∧
   ((!f.Remote) = false →
    ((f.Size ≤ 9223372036854775807 ∧ (4 : Int) ≤ 1000000) ∧
    (((((([48] : List UInt8) ++ (fnameS f)) ++ c).length : Int) + (((rrowS f.Size 4).1).length : Int) ≤ 9223372036854775807) ∧
    (((∀ x ∈ f.Data, 0 ≤ x ∧ x ≤ 255) ∧ f.Data.length ≤ 1000) ∧
    ((((((([48] : List UInt8) ++ (fnameS f)) ++ c) ++ ((rrowS f.Size 4).1)).length : Int) + ((ofb f.Data).length : Int) ≤ 9223372036854775807) ∧
    ((((([48] : List UInt8) ++ (fnameS f)) ++ c) ++ ((rrowS f.Size 4).1)) ++ (ofb f.Data)) = fheadS f)))))) := by
  intro c hc hcl
  refine ⟨fun hR => ?_, fun hR => ?_⟩
  · have hR : f.Remote = false := by simpa using hR
    have hs := sindexS_sizes (f.Data.length : Int)
    have hge : 0 ≤ sindexS fsizes (f.Data.length : Int) := by
     have := sidx_ge (fun q => (f.Data.length : Int) == q) fsizes
     unfold scontainsS at c10
     rw [c10] at this
     exact of_decide_eq_true this
    rw [hrs]
    exact key c hc hcl _ hge hs.2 (by unfold fcode; rw [if_pos hR])
  · have hR : f.Remote = true := by simpa using hR
    exact key c hc hcl _ c5 (by omega) (by unfold fcode; rw [if_neg (by rw [hR]; simp)])
 intro _
 refine ⟨h0, by simp only [List.length_cons, List.length_nil]; omega, fun hF => ?_, fun hF => ⟨fun hL => ?_, fun hL => ?_⟩⟩
 · refine ⟨by simp only [List.length_append, List.length_cons, List.length_nil]; omega, ?_⟩
   exact two _ (by unfold fctl; rw [if_pos hF]) (by decide)
 · refine ⟨by simp only [List.length_append, List.length_cons, List.length_nil]; omega, ?_⟩
   exact two _ (by unfold fctl; rw [if_neg (by rw [hF]; simp), if_pos hL]) (by decide)
 · refine ⟨by simp only [List.length_append, List.length_cons, List.length_nil]; omega, ?_⟩
   exact two _ (by unfold fctl; rw [if_neg (by rw [hF]; simp), if_neg (by rw [hL]; simp)]) (by decide)
end Go.Proofs.YtmnlahbngbigdaaGreatDoor
