/- Texts put together (pure ones, or walks made by program). -/
import Derived.Test.YtgddhhkpaoboiaaDoorKb0
set_option linter.unusedVariables false
set_option linter.unusedSimpArgs false
namespace Go.Proofs.YtgddhhkpaoboiaaDoor
open Go.Sy Go.RowKit
structure Counter where
  last : Int
  n : Int
  deriving DecidableEq, Inhabited
def Counter.enc (x : Counter) : List Value := [.int .u8 x.last, .int .i64 x.n]
def tyCounter : Ty Counter := tyFlat Counter.enc 2 (fun _ => rfl) (fun x => by simp [Counter.enc, Value.oneCell'])
def okCounter (x : Counter) : Prop := (IntKind.u8.min ≤ x.last ∧ x.last ≤ IntKind.u8.max) ∧ (IntKind.i64.min ≤ x.n ∧ x.n ≤ IntKind.i64.max)

structure Reader where
  Row : List UInt8
  At : Int
  Code : Int
  c : Counter
  deriving DecidableEq, Inhabited
def Reader.enc (x : Reader) : List Value := [str x.Row, .int .i64 x.At, .int .i64 x.Code, .int .u8 x.c.last, .int .i64 x.c.n]
def tyReader : Ty Reader := tyFlat Reader.enc 5 (fun _ => rfl) (fun x => by simp [Reader.enc, Value.oneCell'])
def okReader (x : Reader) : Prop := (x.Row.length ≤ lim) ∧ (IntKind.i64.min ≤ x.At ∧ x.At ≤ IntKind.i64.max) ∧ (IntKind.i64.min ≤ x.Code ∧ x.Code ≤ IntKind.i64.max) ∧ (okCounter x.c)

def tcl_vc (u0 : Int) (K : Int → Prop) : Prop :=
  (K (w32 (97 - u0)))
def tcl (u0 : Int) : Int :=
  w32 (97 - u0)
theorem tcl_ok (u0 : Int) : tcl_vc u0 (fun r => r = tcl u0) := (by rfl)

/-! Pure proofs: no program in sight. -/
/-- strings.Trim at a set of ASCII bytes. -/
def trimS (l cs : List UInt8) : List UInt8 := ((l.reverse.dropWhile (cs.contains ·)).reverse).dropWhile (cs.contains ·)
def isBit (c : UInt8) : Bool := c == 48 || c == 49
def isRow (b : List UInt8) : Bool := b.all isBit
def flip (c : UInt8) : UInt8 := if c = 48 then 49 else 48
theorem isBit_or {c : UInt8} (h : isBit c = true) : c = 48 ∨ c = 49 := by simpa [isBit] using h
theorem isRow_mem {b : List UInt8} (h : isRow b = true) {c : UInt8} (hc : c ∈ b) : c = 48 ∨ c = 49 := isBit_or (List.all_eq_true.1 h c hc)
theorem isRow_append {a b : List UInt8} : isRow (a ++ b) = (isRow a && isRow b) := by simp [isRow]
theorem isRow_cons {c : UInt8} {b : List UInt8} : isRow (c :: b) = (isBit c && isRow b) := rfl
theorem isRow_take {b : List UInt8} (h : isRow b = true) (k : Nat) : isRow (b.take k) = true := List.all_eq_true.2 fun c hc => List.all_eq_true.1 h c (List.mem_of_mem_take hc)
theorem isRow_drop {b : List UInt8} (h : isRow b = true) (k : Nat) : isRow (b.drop k) = true := List.all_eq_true.2 fun c hc => List.all_eq_true.1 h c (List.mem_of_mem_drop hc)
theorem isBit_flip (c : UInt8) : isBit (flip c) = true := by unfold flip; split <;> rfl
theorem wu64_eq (x : Int) (h : 0 ≤ x ∧ x ≤ 18446744073709551615) : wu64 x = x := IntWalk.u64_in x h
theorem w8_eq (x : Int) (h : 0 ≤ x ∧ x ≤ 255) : w8 x = x := IntWalk.u8_in x h
theorem shl1 (n : Nat) (h : n < 9223372036854775808) : bShl .u64 (n : Int) 1 = ((2 * n : Nat) : Int) := by
  unfold bShl
  have : (n : Int) * 2 ^ (min (1 : Int).toNat IntKind.u64.bits) = ((2 * n : Nat) : Int) := by
    show (n : Int) * 2 ^ 1 = _
    omega
  rw [this]
  exact wu64_eq _ (by omega)
theorem or_bit (m d : Nat) (hm : m < 9223372036854775808) (hd : d < 2) : bOr .u64 ((2 * m : Nat) : Int) (d : Int) = ((2 * m + d : Nat) : Int) := by
  have e : (BitVec.ofInt IntKind.u64.bits ((2 * m : Nat) : Int) ||| BitVec.ofInt IntKind.u64.bits (d : Int)).toNat = 2 * m + d := by
    rw [BitVec.toNat_or]
    show (BitVec.ofInt 64 ((2 * m : Nat) : Int)).toNat ||| (BitVec.ofInt 64 (d : Int)).toNat = _
    rw [ofInt_toNat (2 * m) (by omega), ofInt_toNat d (by omega)]
    have h := Nat.shiftLeft_add_eq_or_of_lt (i := 1) (b := d) (by omega) m
    rw [Nat.shiftLeft_eq] at h
    have e2 : m * 2 ^ 1 = 2 * m := by omega
    rw [e2] at h
    exact h.symm
  unfold bOr
  rw [e]
  exact wu64_eq _ (by omega)
theorem and1 (n : Nat) (h : n < 18446744073709551616) : bAnd .u64 (n : Int) 1 = ((n % 2 : Nat) : Int) := by
  have e : (BitVec.ofInt IntKind.u64.bits (n : Int) &&& BitVec.ofInt IntKind.u64.bits (1 : Int)).toNat = n % 2 := by
    rw [BitVec.toNat_and]
    show (BitVec.ofInt 64 (n : Int)).toNat &&& (BitVec.ofInt 64 ((1 : Nat) : Int)).toNat = _
    rw [ofInt_toNat n h, ofInt_toNat 1 (by omega), Nat.and_one_is_mod]
  unfold bAnd
  rw [e]
  exact wu64_eq _ (by omega)
theorem shr1 (n : Nat) : bShr .u64 (n : Int) 1 = ((n / 2 : Nat) : Int) := by
  unfold bShr
  show (n : Int).fdiv (2 ^ 1) = _
  rw [Int.fdiv_eq_ediv_of_nonneg _ (by decide)]
  norm_cast
theorem shrN (n s : Nat) (hs : s ≤ 63) : bShr .i64 (n : Int) (s : Int) = ((n / 2 ^ s : Nat) : Int) := by
  unfold bShr
  have : min (s : Int).toNat IntKind.i64.bits = s := by simp [IntKind.bits]; omega
  rw [this, Int.fdiv_eq_ediv_of_nonneg _ (Int.le_of_lt (Int.pow_pos (by decide)))]
  norm_cast
/-- A number in so many bits. -/
def wr : Nat → Nat → List UInt8
  | 0, _ => []
  | s + 1, n => UInt8.ofNat (48 + n / 2 ^ s % 2) :: wr s n
def val : List UInt8 → Nat
  | [] => 0
  | c :: r => (c.toNat - 48) * 2 ^ r.length + val r
theorem wr_length (s n : Nat) : (wr s n).length = s := by induction s with
  | zero => rfl
  | succ s ih => simp [wr, ih]
theorem wr_bit (x : Nat) : UInt8.ofNat (48 + x % 2) = 48 ∨ UInt8.ofNat (48 + x % 2) = 49 := by
  rcases Nat.mod_two_eq_zero_or_one x with h | h <;> rw [h]
  · exact .inl rfl
  · exact .inr rfl
theorem wr_row (s n : Nat) : isRow (wr s n) = true := by
  induction s with
  | zero => rfl
  | succ s ih =>
    rw [wr, isRow_cons, ih]
    rcases wr_bit (n / 2 ^ s) with h | h <;> rw [h] <;> rfl
theorem wr_bit_val (x : Nat) : (UInt8.ofNat (48 + x % 2)).toNat - 48 = x % 2 := by
  rcases Nat.mod_two_eq_zero_or_one x with h | h <;> rw [h] <;> rfl
theorem val_wr (s n : Nat) : val (wr s n) = n % 2 ^ s := by
  induction s with
  | zero => simp [wr, val, Nat.mod_one]
  | succ s ih => rw [wr, val, wr_length, wr_bit_val, ih, Nat.pow_succ, Nat.mod_mul, Nat.mul_comm, Nat.add_comm]
theorem val_append (a b : List UInt8) : val (a ++ b) = val a * 2 ^ b.length + val b := by
  induction a with
  | nil => simp [val]
  | cons c r ih => rw [List.cons_append, val, ih, val, List.length_append, Nat.pow_add, Nat.add_mul, Nat.mul_assoc, Nat.add_assoc]
theorem val_snoc (a : List UInt8) (c : UInt8) : val (a ++ [c]) = 2 * val a + (c.toNat - 48) := by
  rw [val_append]
  simp [val]
  omega
theorem val_lt {b : List UInt8} (h : isRow b = true) : val b < 2 ^ b.length := by
  induction b with
  | nil => simp [val]
  | cons c r ih =>
    rw [isRow_cons, Bool.and_eq_true] at h
    have := ih h.2
    rw [val, List.length_cons, Nat.pow_succ]
    rcases isBit_or h.1 with rfl | rfl
    · have e : (48 : UInt8).toNat - 48 = 0 := rfl
      rw [e]; omega
    · have e : (49 : UInt8).toNat - 48 = 1 := rfl
      rw [e]; omega
theorem take_next {α : Type} (l : List α) (k : Nat) (q : α) (hq : l[k]? = some q) : l.take (k + 1) = l.take k ++ [q] := by rw [List.take_add_one, hq]; rfl
theorem drop_this {α : Type} (l : List α) (k : Nat) (q : α) (hq : l[k]? = some q) : l.drop k = q :: l.drop (k + 1) := by
  have hk : k < l.length := (List.getElem?_eq_some_iff.1 hq).1
  rw [List.drop_eq_getElem_cons hk]
  rw [List.getElem?_eq_getElem hk] at hq
  simp at hq
  rw [hq]
theorem bstr_ints (l : List UInt8) : bstr (l.map fun c => (c.toNat : Int)) = l := by
  induction l with
  | nil => rfl
  | cons c r ih => rw [List.map_cons, show bstr ((c.toNat : Int) :: r.map fun c => (c.toNat : Int)) = c :: bstr (r.map fun c => (c.toNat : Int)) by simp [bstr], ih]
def bcheckS (b : List UInt8) : Int := if 1000 < b.length then 2 else if isRow b then 0 else 4
def breadS (b : List UInt8) : Int := (val b : Int)
def bwriteS (n s : Int) : List UInt8 := wr s.toNat n.toNat
theorem dropWhile_nil {α : Type} (p : α → Bool) (l : List α) : l.dropWhile p = [] ↔ l.all p = true := by
  induction l with
  | nil => simp
  | cons x l ih =>
    rw [List.dropWhile_cons]
    cases h : p x <;> simp [h, ih]
theorem trim_row (b : List UInt8) : trimS b [48, 49] = [] ↔ isRow b = true := by
  have e : ∀ l : List UInt8, l.all (fun x => ([48, 49] : List UInt8).contains x) = isRow l := by
    intro l
    unfold isRow
    congr 1
    funext x
    simp only [isBit, List.contains_cons, List.contains_nil, Bool.or_false]
  unfold trimS
  rw [dropWhile_nil, e]
  constructor
  · intro h
    -- what is left at the right end is no bit, unless nothing is left
    have h1 : ∀ l : List UInt8, isRow (l.dropWhile (fun x => ([48, 49] : List UInt8).contains x)) = true → isRow l = true := by
      intro l
      induction l with
      | nil => exact fun h => h
      | cons x l ih =>
        rw [List.dropWhile_cons]
        split
        · rename_i hx
          intro h
          rw [isRow_cons, ih h, Bool.and_true]
          simpa [isBit] using hx
        · exact fun h => h
    have h2 : ∀ l : List UInt8, isRow l.reverse = isRow l := fun l => by simp [isRow]
    rw [h2] at h
    have := h1 _ h
    rwa [h2] at this
  · intro h
    refine List.all_eq_true.2 fun c hc => ?_
    have hc := List.mem_reverse.1 hc
    have hc := (List.dropWhile_sublist _).subset hc
    exact List.all_eq_true.1 h c (List.mem_reverse.1 hc)
/-- One bit more. -/
def nx (c : Counter) (b : UInt8) : Counter := if (b.toNat : Int) = c.last then ⟨c.last, c.n + 1⟩ else ⟨b.toNat, 1⟩
def bestF : Counter → List UInt8 → Int
  | _, [] => 0
  | c, b :: r => max (nx c b).n (bestF (nx c b) r)
def smapS (u : List UInt8) : List UInt8 := u.map flip
theorem w32_in (x : Int) : -2147483648 ≤ w32 x ∧ w32 x ≤ 2147483647 := by
  have e : w32 x = IntKind.i32.wrap x := rfl
  rw [e, IntKind.wrap_i32]
  omega
theorem tcl_bit (c : UInt8) (h : isBit c = true) : tcl (c.toNat : Int) = ((flip c).toNat : Int) := by
  rcases isBit_or h with rfl | rfl <;> decide
theorem flip_flip {c : UInt8} (h : isBit c = true) : flip (flip c) = c := by rcases isBit_or h with rfl | rfl <;> rfl
theorem flip_row (u : List UInt8) : isRow (u.map flip) = true := by
  unfold isRow
  rw [List.all_map, List.all_eq_true]
  exact fun c _ => isBit_flip c
theorem flip_map {u : List UInt8} (h : isRow u = true) : (u.map flip).map flip = u := by
  rw [List.map_map]
  conv => rhs; rw [← List.map_id u]
  exact List.map_congr_left fun c hc => flip_flip (List.all_eq_true.1 h c hc)
theorem flip_eq {a b : UInt8} (ha : isBit a = true) (hb : isBit b = true) : ((flip a).toNat : Int) = ((flip b).toNat : Int) ↔ (a.toNat : Int) = (b.toNat : Int) := by
  rcases isBit_or ha with rfl | rfl <;> rcases isBit_or hb with rfl | rfl <;> decide
/-- Counters that see turned bits alike. -/
def Tw (c d : Counter) : Prop := d.n = c.n ∧ ∀ b, isBit b = true → (((flip b).toNat : Int) = d.last ↔ (b.toNat : Int) = c.last)
theorem Tw.start : Tw ⟨0, 0⟩ ⟨0, 0⟩ := ⟨rfl, fun b hb => by rcases isBit_or hb with rfl | rfl <;> decide⟩
theorem Tw.step {c d : Counter} (h : Tw c d) {b : UInt8} (hb : isBit b = true) : Tw (nx c b) (nx d (flip b)) := by
  unfold nx
  by_cases k : (b.toNat : Int) = c.last
  · rw [if_pos k, if_pos ((h.2 b hb).2 k)]
    exact ⟨by rw [h.1], h.2⟩
  · rw [if_neg k, if_neg (fun q => k ((h.2 b hb).1 q))]
    exact ⟨rfl, fun y hy => flip_eq hy hb⟩
theorem bestF_flip : ∀ (u : List UInt8) (c d : Counter), isRow u = true → Tw c d → bestF d (u.map flip) = bestF c u
  | [], _, _, _, _ => rfl
  | b :: r, c, d, hu, h => by
    rw [isRow_cons, Bool.and_eq_true] at hu
    have h1 := h.step hu.1
    rw [List.map_cons, bestF, bestF, h1.1, bestF_flip r _ _ hu.2 h1]

end Go.Proofs.YtgddhhkpaoboiaaDoor
set_option linter.unusedVariables false
set_option linter.unusedSimpArgs false
namespace Go.Proofs.YtgddhhkpaoboiaaDoor
open Go.Sy Go.RowKit
def bread_vc (u0 : List UInt8) (K : Int → Prop) : Prop :=
  (∃ inv15 : Int → Int → Prop, ∃ mu15 : Int → Int → Nat, inv15 0 0 ∧
    (∀ (x3 : Int) (x7 : Int), inv15 x3 x7 →
    (((decide (x7 < (u0.length : Int))) = true →
      ((0 ≤ x7 ∧ x7 < (u0.length : Int)) ∧
      (∀ c49, u0[x7.toNat]? = some c49 →
      (inv15 (bOr .u64 (bShl .u64 x3 1) (wu64 (w8 ((c49.toNat : Int) - 48)))) (w64 (x7 + 1)) ∧ mu15 (bOr .u64 (bShl .u64 x3 1) (wu64 (w8 ((c49.toNat : Int) - 48)))) (w64 (x7 + 1)) < mu15 x3 x7)))) ∧
    ((decide (x7 < (u0.length : Int))) = false →
      (K x3)))))

def bwrite_vc (u0 : Int) (u1 : Int) (K : (List UInt8) → Prop) : Prop :=
  ((0 ≤ u1 ∧ u1 ≤ u1 ∧ u1 * 1 ≤ 140737488355328) ∧
    (∃ inv23 : Int → Int → (List Int) → Prop, ∃ mu23 : Int → Int → (List Int) → Nat, inv23 u0 0 (List.replicate u1.toNat (0 : Int)) ∧
    (∀ (x0 : Int) (x10 : Int) (zg90 : List Int), inv23 x0 x10 zg90 →
    (((decide (x10 < u1)) = true →
      ((0 ≤ w64 ((w64 (u1 - 1)) - x10) ∧ w64 ((w64 (u1 - 1)) - x10) < (zg90.length : Int)) ∧
      (inv23 (bShr .u64 x0 1) (w64 (x10 + 1)) (zg90.set (w64 ((w64 (u1 - 1)) - x10)).toNat (w8 (48 + (w8 (bAnd .u64 x0 1))))) ∧ mu23 (bShr .u64 x0 1) (w64 (x10 + 1)) (zg90.set (w64 ((w64 (u1 - 1)) - x10)).toNat (w8 (48 + (w8 (bAnd .u64 x0 1))))) < mu23 x0 x10 zg90))) ∧
    ((decide (x10 < u1)) = false →
      (K (bstr zg90)))))))

def bcheck_vc (u0 : List UInt8) (K : Int → Prop) : Prop :=
  (((decide ((u0.length : Int) > 1000)) = true →
      (K 2)) ∧
    ((decide ((u0.length : Int) > 1000)) = false →
      ((u0.length ≤ 9223372036854775807 ∧ ([48, 49] : List UInt8).length < 4294967281 ∧ ([48, 49] : List UInt8).all (fun b => decide (b.toNat < 128)) = true) ∧
      ((((trimS u0 ([48, 49] : List UInt8)) != ([] : List UInt8)) = true →
        (K 4)) ∧
      (((trimS u0 ([48, 49] : List UInt8)) != ([] : List UInt8)) = false →
        (K 0))))))

/-! Pure proofs: no program in sight. -/
theorem bread_ok (b : List UInt8) (h : b.length ≤ 62 ∧ isRow b = true) : bread_vc b (fun r => r = breadS b) := by
  refine ⟨fun x y => ∃ k : Nat, y = k ∧ k ≤ b.length ∧ x = ((val (b.take k) : Nat) : Int), fun _ y => b.length - y.toNat, ⟨0, rfl, by omega, rfl⟩, ?_⟩
  rintro _ _ ⟨k, rfl, hk, rfl⟩
  refine ⟨fun h1 => ⟨by simp at h1; omega, fun c hc => ?_⟩, fun h1 => ?_⟩
  · rw [Int.toNat_natCast] at hc
    have hkl : k < b.length := (List.getElem?_eq_some_iff.1 hc).1
    have hv := val_lt (isRow_take h.2 k)
    have hl : (b.take k).length ≤ 61 := by rw [List.length_take]; omega
    have hp : 2 ^ (b.take k).length ≤ 2 ^ 61 := Nat.pow_le_pow_right (by omega) hl
    have hp61 : (2 : Nat) ^ 61 = 2305843009213693952 := rfl
    have hd : ∃ d : Nat, wu64 (w8 ((c.toNat : Int) - 48)) = (d : Int) ∧ d = c.toNat - 48 ∧ d < 2 := by
      rcases isRow_mem h.2 (List.mem_of_getElem? hc) with rfl | rfl
      · exact ⟨0, rfl, rfl, by omega⟩
      · exact ⟨1, rfl, rfl, by omega⟩
    obtain ⟨d, e1, e2, e3⟩ := hd
    have e4 := shl1 (val (b.take k)) (by omega)
    rw [e4, e1, or_bit _ d (by omega) e3, w64_succ k (by omega)]
    refine ⟨⟨k + 1, rfl, by omega, ?_⟩, by dsimp only; omega⟩
    rw [take_next b k c hc, val_snoc, e2]
  · have : k = b.length := by simp at h1; omega
    subst this
    rw [List.take_length]
    rfl
theorem bwrite_ok (n s : Int) (h : 0 ≤ s ∧ s ≤ 64 ∧ 0 ≤ n ∧ n < 2 ^ 62) : bwrite_vc n s (fun r => r = bwriteS n s) := by
  obtain ⟨m, rfl⟩ : ∃ m : Nat, s = m := ⟨s.toNat, by omega⟩
  obtain ⟨v, rfl⟩ : ∃ v : Nat, n = v := ⟨n.toNat, by omega⟩
  have p62 : (2 : Int) ^ 62 = 4611686018427387904 := rfl
  refine ⟨by omega, fun x i z => ∃ k : Nat, i = k ∧ k ≤ m ∧ x = ((v / 2 ^ k : Nat) : Int) ∧ z.length = m ∧ z.drop (m - k) = (wr k v).map (fun c => (c.toNat : Int)), fun _ i _ => m - i.toNat,
    ⟨0, rfl, by omega, by simp, by simp, by simp [wr]⟩, ?_⟩
  rintro _ _ z ⟨k, rfl, hk, rfl, hz, hd⟩
  refine ⟨fun h1 => ?_, fun h1 => ?_⟩
  · have hkm : k < m := by simp at h1; omega
    have e1 : w64 (w64 ((m : Int) - 1) - k) = ((m - 1 - k : Nat) : Int) := by
      rw [w64_eq ((m : Int) - 1) (by omega), w64_eq _ (by omega)]
      omega
    have hv : v / 2 ^ k < 18446744073709551616 := Nat.lt_of_le_of_lt (Nat.div_le_self _ _) (by omega)
    rw [e1, and1 _ hv, shr1, w64_succ k (by omega)]
    refine ⟨by omega, ⟨k + 1, rfl, by omega, ?_, by simpa using hz, ?_⟩, by dsimp only; omega⟩
    · rw [Nat.div_div_eq_div_mul, Nat.pow_succ]
    · have e2 : m - (k + 1) = m - 1 - k := by omega
      rw [e2, Int.toNat_natCast, wr, List.map_cons, ← hd]
      have hlt : m - 1 - k < z.length := by omega
      have e3 : m - k = m - 1 - k + 1 := by omega
      rw [e3, List.drop_eq_getElem_cons (by simpa using hlt), List.getElem_set_self]
      congr 1
      · rcases Nat.mod_two_eq_zero_or_one (v / 2 ^ k) with hh | hh <;> rw [hh] <;> rfl
      · rw [List.drop_set_of_lt (by omega)]
  · have : k = m := by simp at h1; omega
    subst this
    have e2 : k - k = 0 := by omega
    rw [e2, List.drop_zero] at hd
    show bstr z = wr (k : Int).toNat (v : Int).toNat
    rw [hd, Int.toNat_natCast, Int.toNat_natCast, bstr_ints]
theorem bcheck_ok (b : List UInt8) : bcheck_vc b (fun r => r = bcheckS b) := by
  refine ⟨fun h => ?_, fun h => ⟨⟨?_, by decide, by decide⟩, fun h1 => ?_, fun h1 => ?_⟩⟩
  · have : 1000 < b.length := by simp at h; omega
    simp [bcheckS, this]
  · simp at h; omega
  · have hn : ¬ 1000 < b.length := by simp at h; omega
    have : ¬ isRow b = true := fun hr => by
      rw [(trim_row b).2 hr] at h1
      cases h1
    simp [bcheckS, hn, this]
  · have hn : ¬ 1000 < b.length := by simp at h; omega
    have : isRow b = true := (trim_row b).1 (by simpa using h1)
    simp [bcheckS, hn, this]
theorem bcheck_zero (b : List UInt8) : bcheckS b = 0 ↔ b.length ≤ 1000 ∧ isRow b = true := by
  unfold bcheckS
  split
  · constructor
    · intro h; cases h
    · intro h; omega
  · split
    · rename_i h1 h2
      exact ⟨fun _ => ⟨by omega, h2⟩, fun _ => rfl⟩
    · rename_i h1 h2
      exact ⟨fun h => (by cases h), fun h => absurd h.2 h2⟩

end Go.Proofs.YtgddhhkpaoboiaaDoor
set_option linter.unusedVariables false
set_option linter.unusedSimpArgs false
namespace Go.Proofs.YtgddhhkpaoboiaaDoor
open Go.Sy Go.RowKit
def bnumber_vc (u0 : List UInt8) (K : (Int × Int) → Prop) : Prop :=
  ((((bcheckS u0) != 0) = true →
      (K (0, (bcheckS u0)))) ∧
    (((bcheckS u0) != 0) = false →
      (((decide ((u0.length : Int) > 62)) = true →
        (K (0, 2))) ∧
      ((decide ((u0.length : Int) > 62)) = false →
        ((u0.length ≤ 62 ∧ isRow u0 = true) ∧
        (K (w64 (breadS u0), 0)))))))

def brow_vc (u0 : Int) (u1 : Int) (K : ((List UInt8) × Int) → Prop) : Prop :=
  ((((decide (u1 < 0)) || (decide (u1 > 62))) = true →
      (K ([], 2))) ∧
    (((decide (u1 < 0)) || (decide (u1 > 62))) = false →
      (((decide (u0 < 0)) = true →
        (K ([], 3))) ∧
      ((decide (u0 < 0)) = false →
        ((0 ≤ u1) ∧
        ((((bShr .i64 u0 u1) != 0) = true →
          (K ([], 3))) ∧
        (((bShr .i64 u0 u1) != 0) = false →
          ((0 ≤ u1 ∧ u1 ≤ 64 ∧ 0 ≤ (wu64 u0) ∧ (wu64 u0) < 2 ^ 62) ∧
          (K ((bwriteS (wu64 u0) u1), 0))))))))))

def bof_vc (u0 : List Int) (K : ((List UInt8) × Int) → Prop) : Prop :=
  (u0.length ≤ 140737488355328 →
    (((decide ((u0.length : Int) > 125)) = true →
      (K ([], 2))) ∧
    ((decide ((u0.length : Int) > 125)) = false →
      (∃ inv39 : Int → (List UInt8) → Prop, ∃ mu39 : Int → (List UInt8) → Nat, inv39 0 ([] : List UInt8) ∧
      (∀ (x12 : Int) (yb26 : List UInt8), inv39 x12 yb26 →
      (((decide (x12 < (u0.length : Int))) = true →
        ((0 ≤ x12 ∧ x12 < (u0.length : Int)) ∧
        (∀ q64, u0[x12.toNat]? = some q64 →
        ((0 ≤ (8 : Int) ∧ (8 : Int) ≤ 64 ∧ 0 ≤ (wu64 q64) ∧ (wu64 q64) < 2 ^ 62) ∧
        ((yb26.length + (bwriteS (wu64 q64) 8).length ≤ 140737488355328) ∧
        (inv39 (w64 (x12 + 1)) (yb26 ++ (bwriteS (wu64 q64) 8)) ∧ mu39 (w64 (x12 + 1)) (yb26 ++ (bwriteS (wu64 q64) 8)) < mu39 x12 yb26)))))) ∧
      ((decide (x12 < (u0.length : Int))) = false →
        (K (yb26, 0)))))))))

def bbytes_vc (u0 : List UInt8) (K : ((List Int) × Int) → Prop) : Prop :=
  ((((bcheckS u0) != 0) = true →
      (K (([] : List Int), (bcheckS u0)))) ∧
    (((bcheckS u0) != 0) = false →
      (((((u0.length : Int).tmod 8) != 0) = true →
        (K (([] : List Int), 4))) ∧
      ((((u0.length : Int).tmod 8) != 0) = false →
        (∃ inv53 : (List UInt8) → (List Int) → Prop, ∃ mu53 : (List UInt8) → (List Int) → Nat, inv53 u0 ([] : List Int) ∧
        (∀ (x0 : List UInt8) (x5 : List Int), inv53 x0 x5 →
        (((decide ((x0.length : Int) > 0)) = true →
          ((0 ≤ (8 : Int) ∧ (8 : Int) ≤ (x0.length : Int)) ∧
          (((x0.take (8 : Int).toNat).length ≤ 62 ∧ isRow (x0.take (8 : Int).toNat) = true) ∧
          (((x5.length + 1) * 1 ≤ 140737488355328) ∧
          ((0 ≤ (8 : Int) ∧ (8 : Int) ≤ (x0.length : Int)) ∧
          (inv53 (x0.drop (8 : Int).toNat) (x5 ++ [w8 (breadS (x0.take (8 : Int).toNat))]) ∧ mu53 (x0.drop (8 : Int).toNat) (x5 ++ [w8 (breadS (x0.take (8 : Int).toNat))]) < mu53 x0 x5)))))) ∧
        ((decide ((x0.length : Int) > 0)) = false →
          (K (x5, 0))))))))))

def brun_vc (u0 : List UInt8) (K : (Int × Int) → Prop) : Prop :=
  ((((bcheckS u0) != 0) = true →
      (K (0, (bcheckS u0)))) ∧
    (((bcheckS u0) != 0) = false →
      (∃ inv43 : Int → Int → Int → Prop, ∃ mu43 : Int → Int → Int → Nat, inv43 0 0 0 ∧
      (∀ (x5 : Int) (x6 : Int) (x15 : Int), inv43 x5 x6 x15 →
      (((decide (x15 < (u0.length : Int))) = true →
        (((decide (x15 > 0)) = true →
          ((0 ≤ x15 ∧ x15 < (u0.length : Int)) ∧
          (∀ c90, u0[x15.toNat]? = some c90 →
          ((0 ≤ w64 (x15 - 1) ∧ w64 (x15 - 1) < (u0.length : Int)) ∧
          (∀ c107, u0[(w64 (x15 - 1)).toNat]? = some c107 →
          ((((c90.toNat : Int) == (c107.toNat : Int)) = true →
            (inv43 (max x5 (w64 (x6 + 1))) (w64 (x6 + 1)) (w64 (x15 + 1)) ∧ mu43 (max x5 (w64 (x6 + 1))) (w64 (x6 + 1)) (w64 (x15 + 1)) < mu43 x5 x6 x15)) ∧
          (((c90.toNat : Int) == (c107.toNat : Int)) = false →
            (inv43 (max x5 1) 1 (w64 (x15 + 1)) ∧ mu43 (max x5 1) 1 (w64 (x15 + 1)) < mu43 x5 x6 x15)))))))) ∧
        ((decide (x15 > 0)) = false →
          (inv43 (max x5 1) 1 (w64 (x15 + 1)) ∧ mu43 (max x5 1) 1 (w64 (x15 + 1)) < mu43 x5 x6 x15)))) ∧
      ((decide (x15 < (u0.length : Int))) = false →
        (K (x5, 0))))))))

def beq_vc (u0 : List Int) (u1 : List Int) (K : Bool → Prop) : Prop :=
  (u0.length ≤ 140737488355328 →
    (u1.length ≤ 140737488355328 →
    ((((u0.length : Int) != (u1.length : Int)) = true →
      (K false)) ∧
    (((u0.length : Int) != (u1.length : Int)) = false →
      (∃ inv37 : Int → Prop, ∃ mu37 : Int → Nat, inv37 0 ∧
      (∀ (x13 : Int), inv37 x13 →
      (((decide (x13 < (u0.length : Int))) = true →
        ((0 ≤ x13 ∧ x13 < (u0.length : Int)) ∧
        (∀ q74, u0[x13.toNat]? = some q74 →
        ((0 ≤ x13 ∧ x13 < (u1.length : Int)) ∧
        (∀ q96, u1[x13.toNat]? = some q96 →
        (((q74 != q96) = true →
          (K false)) ∧
        ((q74 != q96) = false →
          (inv37 (w64 (x13 + 1)) ∧ mu37 (w64 (x13 + 1)) < mu37 x13)))))))) ∧
      ((decide (x13 < (u0.length : Int))) = false →
        (K true)))))))))

def bturned_vc (u0 : List UInt8) (K : ((List UInt8) × Int) → Prop) : Prop :=
  ((((bcheckS u0) != 0) = true →
      (K ([], (bcheckS u0)))) ∧
    (((bcheckS u0) != 0) = false →
      ((isRow u0 = true ∧ u0.length ≤ 1000000) ∧
      (K ((smapS u0), 0)))))

/-! Pure proofs: no program in sight. -/
def bnumberS (b : List UInt8) : Int × Int := if bcheckS b ≠ 0 then (0, bcheckS b) else if 62 < b.length then (0, 2) else ((val b : Int), 0)
theorem bnumber_ok (b : List UInt8) : bnumber_vc b (fun r => r = bnumberS b) := by
  refine ⟨fun h => ?_, fun h => ⟨fun h1 => ?_, fun h1 => ?_⟩⟩
  · have h : bcheckS b ≠ 0 := by simpa using h
    unfold bnumberS
    rw [if_pos h]
  all_goals
    have h : ¬ bcheckS b ≠ 0 := by simpa using h
  · unfold bnumberS
    rw [if_neg h, if_pos (by simp at h1; omega)]
  · have hr := ((bcheck_zero b).1 (by simpa using h)).2
    have hl : b.length ≤ 62 := by simp at h1; omega
    refine ⟨⟨hl, hr⟩, ?_⟩
    have hv := val_lt hr
    have hp : 2 ^ b.length ≤ 2 ^ 62 := Nat.pow_le_pow_right (by omega) hl
    have p62 : (2 : Nat) ^ 62 = 4611686018427387904 := rfl
    unfold bnumberS
    rw [if_neg h, if_neg (by omega)]
    unfold breadS
    rw [w64_eq _ (by omega)]
def browS (n s : Int) : List UInt8 × Int := if s < 0 ∨ 62 < s then ([], 2) else if n < 0 ∨ 2 ^ s.toNat ≤ n.toNat then ([], 3) else (wr s.toNat n.toNat, 0)
theorem brow_ok (n s : Int) (hn : n ≤ 9223372036854775807) : brow_vc n s (fun r => r = browS n s) := by
  refine ⟨fun h => ?_, fun h => ⟨fun h1 => ?_, fun h1 => ?_⟩⟩
  · unfold browS
    rw [if_pos (by simpa using h)]
  all_goals
    have h : ¬ (s < 0 ∨ 62 < s) := by simp at h; omega
  · unfold browS
    rw [if_neg h, if_pos (.inl (by simpa using h1))]
  · have h1 : 0 ≤ n := by simpa using h1
    obtain ⟨m, rfl⟩ : ∃ m : Nat, s = m := ⟨s.toNat, by omega⟩
    obtain ⟨v, rfl⟩ : ∃ v : Nat, n = v := ⟨n.toNat, by omega⟩
    have hp : 2 ^ m ≤ 2 ^ 62 := Nat.pow_le_pow_right (by omega) (by omega)
    have p62 : (2 : Nat) ^ 62 = 4611686018427387904 := rfl
    rw [shrN v m (by omega)]
    have key : v / 2 ^ m = 0 ↔ v < 2 ^ m := by rw [Nat.div_eq_zero_iff_lt (Nat.two_pow_pos m)]
    refine ⟨by omega, fun h2 => ?_, fun h2 => ?_⟩
    · have h3 : ¬ ((v / 2 ^ m : Nat) : Int) = 0 := by simpa only [bne_iff_ne, ne_eq] using h2
      have h4 : ¬ v / 2 ^ m = 0 := by omega
      rw [key] at h4
      have h5 : 2 ^ (m : Int).toNat ≤ (v : Int).toNat := by rw [Int.toNat_natCast, Int.toNat_natCast]; omega
      unfold browS
      rw [if_neg h, if_pos (Or.inr h5)]
    · have h3 : ((v / 2 ^ m : Nat) : Int) = 0 := by simpa only [bne_eq_false_iff_eq] using h2
      have : v / 2 ^ m = 0 := by omega
      rw [key] at this
      have e : wu64 (v : Int) = v := wu64_eq _ (by omega)
      rw [e]
      have p62' : (2 : Int) ^ 62 = 4611686018427387904 := rfl
      refine ⟨by omega, ?_⟩
      unfold browS bwriteS
      rw [if_neg h, if_neg (by rw [Int.toNat_natCast, Int.toNat_natCast]; omega)]
def ofb : List Int → List UInt8
  | [] => []
  | x :: r => wr 8 x.toNat ++ ofb r
theorem ofb_append (a b : List Int) : ofb (a ++ b) = ofb a ++ ofb b := by
  induction a with
  | nil => rfl
  | cons x r ih => simp [ofb, ih]
theorem ofb_length (a : List Int) : (ofb a).length = 8 * a.length := by
  induction a with
  | nil => rfl
  | cons x r ih => rw [ofb, List.length_append, wr_length, ih, List.length_cons]; omega
theorem ofb_row (a : List Int) : isRow (ofb a) = true := by
  induction a with
  | nil => rfl
  | cons x r ih => rw [ofb, isRow_append, wr_row, ih]; rfl
def bofS (l : List Int) : List UInt8 × Int := if 125 < l.length then ([], 2) else (ofb l, 0)
theorem bof_ok (l : List Int) (h : ∀ x ∈ l, 0 ≤ x ∧ x ≤ 255) : bof_vc l (fun r => r = bofS l) := by
  intro hl
  refine ⟨fun h1 => ?_, fun h1 => ?_⟩
  · unfold bofS
    rw [if_pos (by simp at h1; omega)]
  · have hn : ¬ 125 < l.length := by simp at h1; omega
    have hS : bofS l = (ofb l, 0) := by unfold bofS; rw [if_neg hn]
    rw [hS]
    refine ⟨fun i y => ∃ k : Nat, i = k ∧ k ≤ l.length ∧ y = ofb (l.take k), fun i _ => l.length - i.toNat, ⟨0, rfl, by omega, rfl⟩, ?_⟩
    rintro _ _ ⟨k, rfl, hk, rfl⟩
    refine ⟨fun h2 => ⟨by simp at h2; omega, fun q hq => ?_⟩, fun h2 => ?_⟩
    · rw [Int.toNat_natCast] at hq
      have hkl : k < l.length := (List.getElem?_eq_some_iff.1 hq).1
      have hqb := h q (List.mem_of_getElem? hq)
      have ew : w64 ((k : Int) + 1) = ((k + 1 : Nat) : Int) := w64_succ k (by omega)
      have e8 : wu64 q = q := wu64_eq q (by omega)
      have p62 : (2 : Int) ^ 62 = 4611686018427387904 := rfl
      have eb : bwriteS q 8 = wr 8 q.toNat := rfl
      rw [ew, e8, eb]
      refine ⟨by omega, ?_, ⟨k + 1, rfl, by omega, ?_⟩, by (try dsimp only); omega⟩
      · rw [ofb_length, wr_length, List.length_take]; omega
      · rw [take_next l k q hq, ofb_append]
        simp [ofb]
    · have : k = l.length := by simp at h2; omega
      subst this
      rw [List.take_length]
def byb : Nat → List UInt8 → List Int
  | 0, _ => []
  | k + 1, b => (val (b.take 8) : Int) :: byb k (b.drop 8)
def bbytesS (b : List UInt8) : List Int × Int := if bcheckS b ≠ 0 then ([], bcheckS b) else if b.length % 8 ≠ 0 then ([], 4) else (byb (b.length / 8) b, 0)
theorem bbytes_ok (b : List UInt8) : bbytes_vc b (fun r => r = bbytesS b) := by
  have hm : ((b.length : Int).tmod 8 != 0) = decide (b.length % 8 ≠ 0) := by
    rw [Int.tmod_eq_emod_of_nonneg (by omega)]
    by_cases h : b.length % 8 = 0
    · have : (b.length : Int) % 8 = 0 := by omega
      simp [this, h]
    · have : ¬ (b.length : Int) % 8 = 0 := by omega
      rw [decide_eq_true h]
      exact bne_iff_ne.2 this
  unfold bbytes_vc
  rw [hm]
  refine ⟨fun h => ?_, fun h => ⟨fun h1 => ?_, fun h1 => ?_⟩⟩
  · have h : bcheckS b ≠ 0 := by simpa using h
    unfold bbytesS
    rw [if_pos h]
  all_goals
    have h : ¬ bcheckS b ≠ 0 := by simpa using h
  · unfold bbytesS
    rw [if_neg h, if_pos (of_decide_eq_true h1)]
  · have h1 := of_decide_eq_false h1
    have hS : bbytesS b = (byb (b.length / 8) b, 0) := by unfold bbytesS; rw [if_neg h, if_neg h1]
    obtain ⟨hl, hr⟩ := (bcheck_zero b).1 (by simpa using h)
    rw [hS]
    refine ⟨fun x y => ∃ k : Nat, x.length = 8 * k ∧ x.length ≤ b.length ∧ isRow x = true ∧ y.length + k = b.length / 8 ∧ y ++ byb k x = byb (b.length / 8) b, fun x _ => x.length, ⟨b.length / 8, by omega, Nat.le_refl _, hr, by simp, by simp⟩, ?_⟩
    rintro x y ⟨k, hx, hxb, hxr, hyk, hyx⟩
    refine ⟨fun h2 => ?_, fun h2 => ?_⟩
    · have h2 := of_decide_eq_true h2
      obtain ⟨j, rfl⟩ : ∃ j, k = j + 1 := ⟨k - 1, by omega⟩
      have e8 : (8 : Int).toNat = 8 := rfl
      rw [e8]
      have htr := isRow_take hxr 8
      have htl : (x.take 8).length = 8 := by rw [List.length_take]; omega
      have hv := val_lt htr
      rw [htl] at hv
      have hw : w8 (breadS (x.take 8)) = (val (x.take 8) : Int) := w8_eq _ (by unfold breadS; have : (2 : Nat) ^ 8 = 256 := rfl; omega)
      rw [hw]
      refine ⟨by omega, ⟨by omega, htr⟩, by omega, by omega, ⟨j, by rw [List.length_drop]; omega, by rw [List.length_drop]; omega, isRow_drop hxr 8, by simp; omega, ?_⟩, by (try dsimp only); rw [List.length_drop]; omega⟩
      rw [← hyx, byb]
      simp
    · have h2 := of_decide_eq_false h2
      have : k = 0 := by omega
      subst this
      rw [byb, List.append_nil] at hyx
      rw [hyx]
theorem nx_last (c : Counter) (b : UInt8) : (nx c b).last = (b.toNat : Int) := by
  unfold nx
  split
  · rename_i h; exact h.symm
  · rfl
theorem nx_n (c : Counter) (b : UInt8) : (nx c b).n = if (b.toNat : Int) = c.last then c.n + 1 else 1 := by unfold nx; split <;> rfl
theorem nx_bound (c : Counter) (b : UInt8) (k : Int) (h : 0 ≤ c.n ∧ c.n ≤ k) : 1 ≤ (nx c b).n ∧ (nx c b).n ≤ k + 1 := by rw [nx_n]; split <;> omega
def brunS (b : List UInt8) : Int × Int := if bcheckS b ≠ 0 then (0, bcheckS b) else (bestF ⟨0, 0⟩ b, 0)
theorem brun_ok (b : List UInt8) : brun_vc b (fun r => r = brunS b) := by
  refine ⟨fun h => ?_, fun h => ?_⟩
  · have h : bcheckS b ≠ 0 := by simpa using h
    unfold brunS
    rw [if_pos h]
  have h : ¬ bcheckS b ≠ 0 := by simpa using h
  obtain ⟨hl, hr⟩ := (bcheck_zero b).1 (by simpa using h)
  have hS : brunS b = (bestF ⟨0, 0⟩ b, 0) := by unfold brunS; rw [if_neg h]
  rw [hS]
  have hbest : ∀ (l : List UInt8) (c : Counter), 0 ≤ bestF c l := by
    intro l
    induction l with
    | nil => exact fun _ => Int.le_refl _
    | cons x l ih => intro c; have := ih (nx c x); rw [bestF]; omega
  refine ⟨fun best n i => ∃ (k : Nat) (c : Counter), i = k ∧ n = c.n ∧ k ≤ b.length ∧ 0 ≤ c.n ∧ c.n ≤ k ∧ 0 ≤ best ∧ (k = 0 → c = ⟨0, 0⟩) ∧ (∀ q, 0 < k → b[k - 1]? = some q → c.last = (q.toNat : Int)) ∧ max best (bestF c (b.drop k)) = bestF ⟨0, 0⟩ b, fun _ _ i => b.length - i.toNat, ?_, ?_⟩
  · refine ⟨0, ⟨0, 0⟩, rfl, rfl, by omega, by decide, by decide, by decide, fun _ => rfl, fun _ h => absurd h (by omega), ?_⟩
    have := hbest b ⟨0, 0⟩
    rw [List.drop_zero]
    omega
  rintro best _ _ ⟨k, c, rfl, rfl, hk, hc0, hck, hb0, hk0, hlast, hp⟩
  have fin : ∀ q, b[k]? = some q → ∀ m, m = (nx c q).n → (∃ (k2 : Nat) (c2 : Counter), ((k + 1 : Nat) : Int) = k2 ∧ m = c2.n ∧ k2 ≤ b.length ∧ 0 ≤ c2.n ∧ c2.n ≤ k2 ∧ 0 ≤ max best m ∧ (k2 = 0 → c2 = ⟨0, 0⟩) ∧ (∀ q, 0 < k2 → b[k2 - 1]? = some q → c2.last = (q.toNat : Int)) ∧ max (max best m) (bestF c2 (b.drop k2)) = bestF ⟨0, 0⟩ b) := by
    rintro q hq m rfl
    have hkl : k < b.length := (List.getElem?_eq_some_iff.1 hq).1
    have hb := nx_bound c q k ⟨hc0, hck⟩
    refine ⟨k + 1, nx c q, rfl, rfl, by omega, by omega, by omega, by omega, fun h => absurd h (by omega), fun q2 _ hq2 => ?_, ?_⟩
    · rw [Nat.add_sub_cancel] at hq2
      rw [nx_last, Option.some.inj (hq.symm.trans hq2)]
    · rw [drop_this b k q hq, bestF] at hp
      omega
  refine ⟨fun h2 => ?_, fun h2 => ?_⟩
  · have hkl : k < b.length := by simp at h2; omega
    have hq0 : b[k]? = some b[k] := List.getElem?_eq_getElem hkl
    have ew : w64 ((k : Int) + 1) = ((k + 1 : Nat) : Int) := w64_succ k (by omega)
    rw [ew]
    refine ⟨fun h3 => ⟨by omega, fun q hq => ?_⟩, fun h3 => ?_⟩
    · have hk1 : 0 < k := by simp at h3; omega
      rw [Int.toNat_natCast] at hq
      have e1 : w64 ((k : Int) - 1) = ((k - 1 : Nat) : Int) := by rw [w64_eq _ (by omega)]; omega
      rw [e1]
      refine ⟨by omega, fun q2 hq2 => ?_⟩
      rw [Int.toNat_natCast] at hq2
      have hl2 := hlast q2 hk1 hq2
      refine ⟨fun h4 => ⟨fin q hq _ ?_, by (try dsimp only); omega⟩, fun h4 => ⟨fin q hq _ ?_, by (try dsimp only); omega⟩⟩
      · rw [nx_n, if_pos (by rw [hl2]; simpa using h4), w64_eq _ (by omega)]
      · rw [nx_n, if_neg (by rw [hl2]; simpa using h4)]
    · have hk1 : k = 0 := by simp at h3; omega
      refine ⟨fin _ hq0 _ ?_, by (try dsimp only); omega⟩
      rw [hk0 hk1]
      rw [nx_n]
      split <;> rfl
  · have : k = b.length := by simp at h2; omega
    subst this
    rw [List.drop_length] at hp
    have : bestF c [] = 0 := rfl
    rw [this] at hp
    have : best = bestF ⟨0, 0⟩ b := by omega
    rw [this]
def beqS (a b : List Int) : Bool := decide (a = b)
theorem list_eq_at {α : Type} {a b : List α} (hl : a.length = b.length) (h : ∀ (k : Nat) (x y : α), a[k]? = some x → b[k]? = some y → x = y) : a = b := by
  apply List.ext_getElem? 
  intro k
  rcases Nat.lt_or_ge k a.length with hk | hk
  · have h1 := List.getElem?_eq_getElem hk
    have h2 := List.getElem?_eq_getElem (l := b) (show k < b.length by omega)
    rw [h1, h2, h k _ _ h1 h2]
  · rw [List.getElem?_eq_none hk, List.getElem?_eq_none (by omega)]
theorem beq_ok (a b : List Int) : beq_vc a b (fun r => r = beqS a b) := by
  intro ha hb
  refine ⟨fun h => ?_, fun h => ?_⟩
  · have h : ¬ (a.length : Int) = (b.length : Int) := by simpa using h
    unfold beqS
    rw [decide_eq_false]
    intro e
    rw [e] at h
    exact h rfl
  · have h : a.length = b.length := by
      have h : (a.length : Int) = (b.length : Int) := by simpa only [bne_eq_false_iff_eq] using h
      omega
    refine ⟨fun i => ∃ k : Nat, i = k ∧ k ≤ a.length ∧ ∀ (j : Nat) (x y : Int), j < k → a[j]? = some x → b[j]? = some y → x = y, fun i => a.length - i.toNat, ⟨0, rfl, by omega, fun j _ _ hj => absurd hj (Nat.not_lt_zero _)⟩, ?_⟩
    rintro _ ⟨k, rfl, hk, hj⟩
    refine ⟨fun h1 => ?_, fun h1 => ?_⟩
    · have hk : k < a.length := by have := of_decide_eq_true h1; omega
      rw [w64_succ k (by omega)]
      refine ⟨by omega, fun q hq => ⟨by omega, fun p hp => ⟨fun h2 => ?_, fun h2 => ?_⟩⟩⟩
      · unfold beqS
        rw [decide_eq_false]
        rintro rfl
        rw [hq] at hp
        cases hp
        simp at h2
      · have h2 : q = p := by simpa using h2
        rw [Int.toNat_natCast] at hq hp
        refine ⟨⟨k + 1, rfl, by omega, fun j x y hj1 hx hy => ?_⟩, by (try dsimp only); omega⟩
        rcases Nat.lt_or_ge j k with hc | hc
        · exact hj j x y hc hx hy
        · have : j = k := by omega
          subst this
          rw [hq] at hx
          rw [hp] at hy
          cases hx; cases hy; exact h2
    · have : k = a.length := by have := of_decide_eq_false h1; omega
      subst this
      unfold beqS
      rw [decide_eq_true]
      exact list_eq_at h fun k x y hx hy => hj k x y (List.getElem?_eq_some_iff.1 hx).1 hx hy
def bturnedS (b : List UInt8) : List UInt8 × Int := if bcheckS b ≠ 0 then ([], bcheckS b) else (smapS b, 0)
theorem bturned_ok (b : List UInt8) : bturned_vc b (fun r => r = bturnedS b) := by
  refine ⟨fun h => ?_, fun h => ?_⟩
  · have h : bcheckS b ≠ 0 := by simpa using h
    unfold bturnedS; rw [if_pos h]
  · have h : bcheckS b = 0 := by simpa using h
    obtain ⟨h1, h2⟩ := (bcheck_zero b).1 h
    unfold bturnedS; rw [if_neg (fun k => k h)]
    exact ⟨⟨h2, by omega⟩, rfl⟩
theorem turned_check {b : List UInt8} (h : bcheckS b = 0) : bcheckS (smapS b) = 0 :=
  (bcheck_zero _).2 ⟨by unfold smapS; rw [List.length_map]; exact ((bcheck_zero b).1 h).1, flip_row b⟩

end Go.Proofs.YtgddhhkpaoboiaaDoor
set_option linter.unusedVariables false
set_option linter.unusedSimpArgs false
namespace Go.Proofs.YtgddhhkpaoboiaaDoor
open Go.Sy Go.RowKit
def rowed_vc  (K : Bool → Prop) : Prop :=
  (((10 : Int) ≤ 9223372036854775807) ∧
    (K (((((bnumberS ([49, 48, 49, 48] : List UInt8)).2 == 0) && ((browS 10 5).2 == 0)) && ((bnumberS ([49, 48, 49, 48] : List UInt8)).1 == 10)) && ((browS 10 5).1 == ([48, 49, 48, 49, 48] : List UInt8)))))

/-! Pure proofs: no program in sight. -/
theorem rowed_ok : rowed_vc (fun r => r = true) := by
  refine ⟨by omega, ?_⟩
  decide

end Go.Proofs.YtgddhhkpaoboiaaDoor
set_option linter.unusedVariables false
set_option linter.unusedSimpArgs false
namespace Go.Proofs.YtgddhhkpaoboiaaDoor
open Go.Sy Go.RowKit
def LBBack_vc (u0 : Int) (u1 : Int) (u2 : List Int) (u3 : List UInt8) (K : Bool → Prop) : Prop :=
  (u2.length ≤ 140737488355328 →
    ((u0 ≤ 9223372036854775807) ∧
    (((((browS u0 u1).2 == 0) && ((((bnumberS (browS u0 u1).1).2 != 0) || ((bnumberS (browS u0 u1).1).1 != u0)) || (((browS u0 u1).1.length : Int) != u1))) = true →
      (K false)) ∧
    ((((browS u0 u1).2 == 0) && ((((bnumberS (browS u0 u1).1).2 != 0) || ((bnumberS (browS u0 u1).1).1 != u0)) || (((browS u0 u1).1.length : Int) != u1))) = false →
      ((∀ x ∈ u2, 0 ≤ x ∧ x ≤ 255) ∧
      ((bbytesS (bofS u2).1).1.length ≤ 140737488355328 →
      (((((bofS u2).2 == 0) && (((bbytesS (bofS u2).1).2 != 0) || (!(beqS (bbytesS (bofS u2).1).1 u2)))) = true →
        (K false)) ∧
      ((((bofS u2).2 == 0) && (((bbytesS (bofS u2).1).2 != 0) || (!(beqS (bbytesS (bofS u2).1).1 u2)))) = false →
        ((((bturnedS u3).2 != 0) = true →
          (K true)) ∧
        (((bturnedS u3).2 != 0) = false →
          (K ((((((bturnedS (bturnedS u3).1).2 == 0) && ((brunS (bturnedS u3).1).2 == 0)) && ((brunS u3).2 == 0)) && ((bturnedS (bturnedS u3).1).1 == u3)) && ((brunS (bturnedS u3).1).1 == (brunS u3).1)))))))))))))

/-! Pure proofs: no program in sight. -/
theorem byb_ofb : ∀ l : List Int, (∀ x ∈ l, 0 ≤ x ∧ x ≤ 255) → byb l.length (ofb l) = l
  | [], _ => rfl
  | x :: r, h => by
    have hx := h x List.mem_cons_self
    have p8 : (2 : Nat) ^ 8 = 256 := rfl
    rw [List.length_cons, byb, ofb, List.take_left' (wr_length 8 _), List.drop_left' (wr_length 8 _), byb_ofb r (fun y hy => h y (List.mem_cons_of_mem _ hy)), val_wr, p8]
    congr 1
    omega
theorem LBBack_ok (n s : Int) (l : List Int) (b : List UInt8) (hn : n ≤ 9223372036854775807) (hl : ∀ x ∈ l, 0 ≤ x ∧ x ≤ 255) : LBBack_vc n s l b (fun r => r = true) := by
  intro _
  refine ⟨hn, fun h => ?_, fun _ => ⟨hl, fun _ => ⟨fun h => ?_, fun _ => ⟨fun _ => rfl, fun h => ?_⟩⟩⟩⟩
  · exfalso
    rw [Bool.and_eq_true] at h
    have h0 : (browS n s).2 = 0 := eq_of_beq h.1
    have h1 := h.2
    unfold browS at h0
    by_cases k1 : s < 0 ∨ 62 < s
    · rw [if_pos k1] at h0; cases h0
    · by_cases k2 : n < 0 ∨ 2 ^ s.toNat ≤ n.toNat
      · rw [if_neg k1, if_pos k2] at h0; cases h0
      · have e : browS n s = (wr s.toNat n.toNat, 0) := by unfold browS; rw [if_neg k1, if_neg k2]
        have hlen := wr_length s.toNat n.toNat
        have hc : bcheckS (wr s.toNat n.toNat) = 0 := (bcheck_zero _).2 ⟨by omega, wr_row _ _⟩
        have e2 : bnumberS (wr s.toNat n.toNat) = (n, 0) := by
          unfold bnumberS
          rw [if_neg (fun k => k hc), if_neg (by omega), val_wr, Nat.mod_eq_of_lt (by omega)]
          congr 1
          omega
        have h3 : ((browS n s).1.length : Int) = s := by rw [e]; show ((wr s.toNat n.toNat).length : Int) = s; omega
        rw [h3, e] at h1
        dsimp only at h1
        rw [e2] at h1
        simp at h1
  · exfalso
    rw [Bool.and_eq_true] at h
    have h0 : (bofS l).2 = 0 := eq_of_beq h.1
    have h1 := h.2
    unfold bofS at h0
    by_cases k1 : 125 < l.length
    · rw [if_pos k1] at h0; cases h0
    · have e : bofS l = (ofb l, 0) := by unfold bofS; rw [if_neg k1]
      have hlen := ofb_length l
      have hc : bcheckS (ofb l) = 0 := (bcheck_zero _).2 ⟨by omega, ofb_row l⟩
      have e2 : bbytesS (ofb l) = (l, 0) := by
        unfold bbytesS
        rw [if_neg (fun k => k hc), if_neg (by omega), show (ofb l).length / 8 = l.length by omega, byb_ofb l hl]
      rw [e] at h1
      dsimp only at h1
      rw [e2] at h1
      simp [beqS] at h1
  · have h : (bturnedS b).2 = 0 := by simpa using h
    have hb : bcheckS b = 0 := by
      unfold bturnedS at h
      by_cases k : bcheckS b = 0
      · exact k
      · rw [if_pos k] at h; exact absurd h k
    obtain ⟨hl1, hr⟩ := (bcheck_zero b).1 hb
    have ht := turned_check hb
    have e1 : bturnedS b = (smapS b, 0) := by unfold bturnedS; rw [if_neg (fun k => k hb)]
    have e2 : bturnedS (smapS b) = (b, 0) := by
      unfold bturnedS; rw [if_neg (fun k => k ht)]
      show ((b.map flip).map flip, (0 : Int)) = _
      rw [flip_map hr]
    have e3 : brunS b = (bestF ⟨0, 0⟩ b, 0) := by unfold brunS; rw [if_neg (fun k => k hb)]
    have e4 : brunS (smapS b) = (bestF ⟨0, 0⟩ b, 0) := by
      unfold brunS; rw [if_neg (fun k => k ht)]
      show (bestF ⟨0, 0⟩ (b.map flip), (0 : Int)) = _
      rw [bestF_flip b _ _ hr Tw.start]
    rw [e1]
    dsimp only
    rw [e2, e3, e4]
    simp
theorem LBBack_ok2 (n s : Int) (l : List Int) (b : List UInt8) (h0 : IntKind.i64.min ≤ n ∧ n ≤ IntKind.i64.max) {A C : Prop} (_ : A) (h2 : (∀ y ∈ l, IntKind.u8.min ≤ y ∧ y ≤ IntKind.u8.max) ∧ C) {D : Prop} (_ : D) : LBBack_vc n s l b (fun r => r = true) :=
  LBBack_ok n s l b (by have := h0.2; have e : IntKind.i64.max = 9223372036854775807 := by decide
                        omega) (fun x hx => by
    have := h2.1 x hx
    have e1 : IntKind.u8.min = 0 := by decide
    have e2 : IntKind.u8.max = 255 := by decide
    omega)

end Go.Proofs.YtgddhhkpaoboiaaDoor
