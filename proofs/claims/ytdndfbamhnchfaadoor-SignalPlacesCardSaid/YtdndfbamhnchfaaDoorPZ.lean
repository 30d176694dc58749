/- What must hold so that each function ends well: pure predicates, made by program. -/
import Derived.Test.YtdndfbamhnchfaaDoorCore
set_option linter.unusedVariables false
set_option linter.unusedSimpArgs false
namespace Go.Proofs.YtdndfbamhnchfaaDoor
open Go.Sy Go.RowKit
structure Signal where
  Name : List UInt8
  Start : Int
  Size : Int
  Back : Bool
  Signed : Bool
  Mul : Int
  Div : Int
  Add : Int
  Key : Int
  deriving DecidableEq, Inhabited
def Signal.enc (x : Signal) : List Value := [str x.Name, .int .i64 x.Start, .int .i64 x.Size, .bool x.Back, .bool x.Signed, .int .i64 x.Mul, .int .i64 x.Div, .int .i64 x.Add, .int .i64 x.Key]
def tySignal : Ty Signal := tyFlat Signal.enc 9 (fun _ => rfl) (fun x => by simp [Signal.enc, Value.oneCell'])
def okSignal (x : Signal) : Prop := (x.Name.length ≤ lim) ∧ (IntKind.i64.min ≤ x.Start ∧ x.Start ≤ IntKind.i64.max) ∧ (IntKind.i64.min ≤ x.Size ∧ x.Size ≤ IntKind.i64.max) ∧ (True) ∧ (True) ∧ (IntKind.i64.min ≤ x.Mul ∧ x.Mul ≤ IntKind.i64.max) ∧ (IntKind.i64.min ≤ x.Div ∧ x.Div ≤ IntKind.i64.max) ∧ (IntKind.i64.min ≤ x.Add ∧ x.Add ≤ IntKind.i64.max) ∧ (IntKind.i64.min ≤ x.Key ∧ x.Key ≤ IntKind.i64.max)

structure Reading where
  Name : List UInt8
  Num : Int
  Den : Int
  deriving DecidableEq, Inhabited
def Reading.enc (x : Reading) : List Value := [str x.Name, .int .i64 x.Num, .int .i64 x.Den]
def tyReading : Ty Reading := tyFlat Reading.enc 3 (fun _ => rfl) (fun x => by simp [Reading.enc, Value.oneCell'])
def okReading (x : Reading) : Prop := (x.Name.length ≤ lim) ∧ (IntKind.i64.min ≤ x.Num ∧ x.Num ≤ IntKind.i64.max) ∧ (IntKind.i64.min ≤ x.Den ∧ x.Den ≤ IntKind.i64.max)

def sname_vc (u0 : List UInt8) (K : Bool → Prop) : Prop :=
  ((((u0 == ([] : List UInt8)) || (decide ((u0.length : Int) > 16))) = true →
      (K false)) ∧
    (((u0 == ([] : List UInt8)) || (decide ((u0.length : Int) > 16))) = false →
      (∃ inv36 : Int → Prop, ∃ mu36 : Int → Nat, inv36 0 ∧
      (∀ (x15 : Int), inv36 x15 →
      (((decide (x15 < (u0.length : Int))) = true →
        ((0 ≤ x15 ∧ x15 < (u0.length : Int)) ∧
        (∀ c66, u0[x15.toNat]? = some c66 →
        ((((!(((decide ((c66.toNat : Int) ≥ 97)) && (decide ((c66.toNat : Int) ≤ 122))) || ((decide ((c66.toNat : Int) ≥ 65)) && (decide ((c66.toNat : Int) ≤ 90))))) && (((x15 == 0) || (decide ((c66.toNat : Int) < 48))) || (decide ((c66.toNat : Int) > 57)))) = true →
          (K false)) ∧
        (((!(((decide ((c66.toNat : Int) ≥ 97)) && (decide ((c66.toNat : Int) ≤ 122))) || ((decide ((c66.toNat : Int) ≥ 65)) && (decide ((c66.toNat : Int) ≤ 90))))) && (((x15 == 0) || (decide ((c66.toNat : Int) < 48))) || (decide ((c66.toNat : Int) > 57)))) = false →
          (inv36 (w64 (x15 + 1)) ∧ mu36 (w64 (x15 + 1)) < mu36 x15)))))) ∧
      ((decide (x15 < (u0.length : Int))) = false →
        (K true)))))))

def sgcd_vc (u0 : Int) (u1 : Int) (K : Int → Prop) : Prop :=
  (∃ inv5 : Int → Int → Prop, ∃ mu5 : Int → Int → Nat, inv5 u0 u1 ∧
    (∀ (x0 : Int) (x1 : Int), inv5 x0 x1 →
    (((x1 != 0) = true →
      ((x1 ≠ 0) ∧
      (inv5 x1 (x0.tmod x1) ∧ mu5 x1 (x0.tmod x1) < mu5 x0 x1))) ∧
    ((x1 != 0) = false →
      (K (max x0 (w64 (0 - x0))))))))
theorem sgcd_mono {u0 : Int} {u1 : Int} {K K1 : Int → Prop} (hK : ∀ r, K r → K1 r) (h : sgcd_vc u0 u1 K) : sgcd_vc u0 u1 K1 :=
  (Exists.elim h fun i0 e0 => Exists.elim e0 fun m0 g0 => ⟨i0, m0, g0.1, fun x0 x1 z0 => ⟨fun c1 => ⟨((g0.2 x0 x1 z0).1 c1).1, ((g0.2 x0 x1 z0).1 c1).2⟩, fun c1 => hK _ ((g0.2 x0 x1 z0).2 c1)⟩⟩)

def imax_vc (u0 : List Int) (K : Int → Prop) : Prop :=
  (u0.length ≤ 140737488355328 →
    (((decide ((u0.length : Int) < 1)) = true →
      False) ∧
    ((decide ((u0.length : Int) < 1)) = false →
      ((0 ≤ (0 : Int) ∧ (0 : Int) < (u0.length : Int)) ∧
      (∀ q26, u0[(0 : Int).toNat]? = some q26 →
      (∃ inv41 : Int → Int → Prop, ∃ mu41 : Int → Int → Nat, inv41 q26 1 ∧
      (∀ (x3 : Int) (x4 : Int), inv41 x3 x4 →
      (((decide (x4 < (u0.length : Int))) = true →
        ((0 ≤ x4 ∧ x4 < (u0.length : Int)) ∧
        (∀ q77, u0[x4.toNat]? = some q77 →
        (inv41 (max x3 q77) (w64 (x4 + 1)) ∧ mu41 (max x3 q77) (w64 (x4 + 1)) < mu41 x3 x4)))) ∧
      ((decide (x4 < (u0.length : Int))) = false →
        (K x3))))))))))

def imin_vc (u0 : List Int) (K : Int → Prop) : Prop :=
  (u0.length ≤ 140737488355328 →
    (((decide ((u0.length : Int) < 1)) = true →
      False) ∧
    ((decide ((u0.length : Int) < 1)) = false →
      ((0 ≤ (0 : Int) ∧ (0 : Int) < (u0.length : Int)) ∧
      (∀ q26, u0[(0 : Int).toNat]? = some q26 →
      (∃ inv41 : Int → Int → Prop, ∃ mu41 : Int → Int → Nat, inv41 q26 1 ∧
      (∀ (x3 : Int) (x4 : Int), inv41 x3 x4 →
      (((decide (x4 < (u0.length : Int))) = true →
        ((0 ≤ x4 ∧ x4 < (u0.length : Int)) ∧
        (∀ q77, u0[x4.toNat]? = some q77 →
        (inv41 (min x3 q77) (w64 (x4 + 1)) ∧ mu41 (min x3 q77) (w64 (x4 + 1)) < mu41 x3 x4)))) ∧
      ((decide (x4 < (u0.length : Int))) = false →
        (K x3))))))))))

def bclone_vc (u0 : List Int) (K : (List Int) → Prop) : Prop :=
  (u0.length ≤ 140737488355328 →
    (∀ nb11, (u0 ≠ [] → nb11 = false) →
    ((nb11 = true →
      (K ([] : List Int))) ∧
    (nb11 = false →
      (((([] : List Int).length + u0.length) * 1 ≤ 140737488355328) ∧
      (K (([] : List Int) ++ u0)))))))

def beq_vc (u0 : List Int) (u1 : List Int) (K : Bool → Prop) : Prop :=
  (u0.length ≤ 140737488355328 →
    (u1.length ≤ 140737488355328 →
    ((((u0.length : Int) != (u1.length : Int)) = true →
      (K false)) ∧
    (((u0.length : Int) != (u1.length : Int)) = false →
      (∃ inv37 : Int → Prop, ∃ mu37 : Int → Nat, inv37 0 ∧
      (∀ (x13 : Int), inv37 x13 →
      (((decide (x13 < (u0.length : Int))) = true →
        ((0 ≤ x13 ∧ x13 < (u0.length : Int)) ∧
        (∀ q74, u0[x13.toNat]? = some q74 →
        ((0 ≤ x13 ∧ x13 < (u1.length : Int)) ∧
        (∀ q96, u1[x13.toNat]? = some q96 →
        (((q74 != q96) = true →
          (K false)) ∧
        ((q74 != q96) = false →
          (inv37 (w64 (x13 + 1)) ∧ mu37 (w64 (x13 + 1)) < mu37 x13)))))))) ∧
      ((decide (x13 < (u0.length : Int))) = false →
        (K true)))))))))

def sbounds_vc (u0 : Signal) (K : (Int × Int) → Prop) : Prop :=
  ((u0.Signed = true →
      ((0 ≤ w64 (u0.Size - 1)) ∧
      ((0 ≤ w64 (u0.Size - 1)) ∧
      (K (bShl .i64 (-1) (w64 (u0.Size - 1)), w64 ((bShl .i64 1 (w64 (u0.Size - 1))) - 1)))))) ∧
    (u0.Signed = false →
      ((0 ≤ u0.Size) ∧
      (K (0, w64 ((bShl .i64 1 u0.Size) - 1))))))

def irev_vc (u0 : List Int) (K : (List Int) → Prop) : Prop :=
  (u0.length ≤ 140737488355328 →
    (∃ inv16 : Int → Int → (List Int) → Prop, ∃ mu16 : Int → Int → (List Int) → Nat, inv16 0 (w64 ((u0.length : Int) - 1)) u0 ∧
    (∀ (x2 : Int) (x3 : Int) (zao1 : List Int), inv16 x2 x3 zao1 →
    (((decide (x2 < x3)) = true →
      ((0 ≤ x3 ∧ x3 < (zao1.length : Int)) ∧
      (∀ qd7_0, zao1[x3.toNat]? = some qd7_0 →
      ((0 ≤ x2 ∧ x2 < (zao1.length : Int)) ∧
      (∀ qd11_0, zao1[x2.toNat]? = some qd11_0 →
      ((0 ≤ x2 ∧ x2 < (zao1.length : Int)) ∧
      ((0 ≤ x3 ∧ x3 < (zao1.length : Int)) ∧
      (inv16 (w64 (x2 + 1)) (w64 (x3 - 1)) ((zao1.set x2.toNat qd7_0).set x3.toNat qd11_0) ∧ mu16 (w64 (x2 + 1)) (w64 (x3 - 1)) ((zao1.set x2.toNat qd7_0).set x3.toNat qd11_0) < mu16 x2 x3 zao1)))))))) ∧
    ((decide (x2 < x3)) = false →
      ((zao1.length = u0.length) ∧
      (K zao1)))))))

/-! Pure proofs: no program in sight. -/
def sb (d k v : Int) : Int := bOr .u8 (bAndNot .u8 d (bShl .u8 1 k)) (bShl .u8 v k)
theorem gb_all : ∀ (d : Fin 256) (k : Fin 8), bAnd .u8 (bShr .u8 (d.val : Int) k.val) 1 = if d.val.testBit k.val = true then 1 else 0 := by decide +kernel
def isBytes (d : List Int) : Prop := ∀ x ∈ d, 0 ≤ x ∧ x ≤ 255
def bitat (d : List Int) (j : Nat) : Bool := (d[j / 8]?.getD 0).toNat.testBit (j % 8)
def bv (v : Bool) : Int := if v = true then 1 else 0
def set1 (d : List Int) (p : Nat) (v : Bool) : List Int := d.set (p / 8) (sb (d[p / 8]?.getD 0) ((p % 8 : Nat) : Int) (bv v))
theorem byte_at {d : List Int} (h : isBytes d) (i : Nat) : ∃ n : Nat, d[i]?.getD 0 = (n : Int) ∧ n < 256 := by
  cases hc : d[i]? with
  | none => exact ⟨0, rfl, by omega⟩
  | some q => obtain ⟨h1, h2⟩ := h q (List.mem_of_getElem? hc); exact ⟨q.toNat, by show q = _; omega, by omega⟩
theorem set1_len (d : List Int) (p : Nat) (v : Bool) : (set1 d p v).length = d.length := List.length_set
/-- Bit i of a whole number, below 0 too. -/
def nb (n : Int) (i : Nat) : Bool := decide ((n / 2 ^ i) % 2 = 1)
def putF (n : Int) : Nat → List Nat → List Int → List Int
  | _, [], d => d
  | i, p :: l, d => putF n (i + 1) l (set1 d p (nb n i))
theorem putF_len (n : Int) : ∀ (l : List Nat) (i : Nat) (d : List Int), (putF n i l d).length = d.length := by
  intro l
  induction l with
  | nil => intro i d; rfl
  | cons p l ih => intro i d; rw [putF, ih, set1_len]
/-- The number whose bits these are, the least first. -/
def vb : List Bool → Nat
  | [] => 0
  | b :: r => (if b = true then 1 else 0) + 2 * vb r
theorem vb_lt : ∀ l : List Bool, vb l < 2 ^ l.length := by
  intro l
  induction l with
  | nil => exact Nat.one_pos
  | cons b r ih => rw [vb, List.length_cons, Nat.pow_succ]; split <;> omega
theorem vb_append : ∀ a b : List Bool, vb (a ++ b) = vb a + 2 ^ a.length * vb b := by
  intro a
  induction a with
  | nil => intro b; simp [vb]
  | cons x r ih => intro b; rw [List.cons_append, vb, vb, ih, List.length_cons, Nat.pow_succ, Nat.mul_add, Nat.mul_comm (2 ^ r.length) 2, Nat.mul_assoc]; omega
/-- A bit's place, counted from above. -/
def lin (a : Nat) : Nat := 8 * (a / 8) + (7 - a % 8)
theorem lin_lin (a : Nat) : lin (lin a) = a := by unfold lin; omega
def fp (b : Bool) (st k : Nat) : Nat := if b = true then lin (lin st + k) else st + k
theorem fp_zero (b : Bool) (st : Nat) : fp b st 0 = st := by unfold fp; split; exact lin_lin st; rfl
theorem fp_up (st k : Nat) : fp false st (k + 1) = fp false st k + 1 := rfl
theorem fp_back (st k : Nat) : fp true st (k + 1) = if fp true st k % 8 = 0 then fp true st k + 15 else fp true st k - 1 := by
  unfold fp
  rw [if_pos rfl, if_pos rfl]
  unfold lin
  split <;> omega
theorem fp_le (b : Bool) (st k : Nat) : fp b st k ≤ st + k + 14 := by
  unfold fp
  split
  · unfold lin; omega
  · omega
/-- The places of bits, the one that counts least first. -/
def plN (b : Bool) (st n : Nat) : List Nat := if b = true then ((List.range n).map (fp b st)).reverse else (List.range n).map (fp b st)
theorem plN_len (b : Bool) (st n : Nat) : (plN b st n).length = n := by
  unfold plN
  split <;> simp
/-- A number that fits into so many bits, with a sign or without. -/
def sgn (s : Bool) (m : Nat) (v : Int) : Int := if s = true ∧ 2 ^ (m - 1) ≤ v then v - 2 ^ m else v
def ngcd (a b : Int) : Int := ((Int.gcd a b : Nat) : Int)
theorem ngcd_right (a b : Int) : ngcd a b ∣ b := Int.gcd_dvd_right ..
theorem ngcd_step (a b : Int) : ngcd b (a.tmod b) = ngcd a b := by
  unfold ngcd
  congr 1
  rw [Int.gcd_comm a b]
  show Nat.gcd b.natAbs (a.tmod b).natAbs = Nat.gcd b.natAbs a.natAbs
  rw [Int.natAbs_tmod, Nat.gcd_comm b.natAbs (a.natAbs % b.natAbs), ← Nat.gcd_rec, ]
theorem ngcd_zero (a : Int) : ngcd a 0 = (a.natAbs : Int) := by unfold ngcd; rw [Int.gcd_zero_right]
theorem ngcd_pos {a b : Int} (h : b ≠ 0) : 0 < ngcd a b := by
  have : 0 < Int.gcd a b := Int.gcd_pos_of_ne_zero_right a h
  unfold ngcd; omega
/-- The raw number that a fraction asks for, and whether it is whole. -/
def rawN (mul div add num den : Int) : Int × Bool :=
  let up := num - add * den
  let g := ngcd div mul
  let a0 := div.tdiv g
  let b0 := mul.tdiv g
  let a := if b0 < 0 then -a0 else a0
  let b := if b0 < 0 then -b0 else b0
  let h := ngcd up den
  let up1 := up.tdiv h
  let den1 := den.tdiv h
  let h2 := ngcd a den1
  let a1 := a.tdiv h2
  let den2 := den1.tdiv h2
  let h3 := ngcd up1 b
  let up2 := up1.tdiv h3
  let b1 := b.tdiv h3
  (up2 * a1, den2 == 1 && b1 == 1)
theorem raw_range {up a low high : Int} (hl : low ≤ 0) (hh : 0 ≤ high) (hc : (0 < up ∧ 0 < a ∧ high.tdiv a < up) ∨ (up < 0 ∧ 0 < a ∧ up < low.tdiv a) ∨ (0 < up ∧ a < 0 ∧ low.tdiv a < up) ∨ (up < 0 ∧ a < 0 ∧ up < high.tdiv a)) : ¬ (low ≤ up * a ∧ up * a ≤ high) := by
  obtain ⟨l, rfl⟩ : ∃ l : Int, low = -l := ⟨-low, by omega⟩
  have key : ∀ x c u : Int, 0 ≤ x → 0 < c → x.tdiv c < u → x < u * c := by
    intro x c u hx hc h
    rw [Int.tdiv_eq_ediv_of_nonneg hx] at h
    exact (Int.ediv_lt_iff_lt_mul hc).1 h
  rintro ⟨h1, h2⟩
  rcases hc with ⟨u, v, w⟩ | ⟨u, v, w⟩ | ⟨u, v, w⟩ | ⟨u, v, w⟩
  · have := key _ _ _ hh v w
    omega
  · rw [Int.neg_tdiv] at w
    have := key l a (-up) (by omega) v (by omega)
    rw [Int.neg_mul] at this
    omega
  · obtain ⟨c, rfl⟩ : ∃ c : Int, a = -c := ⟨-a, by omega⟩
    rw [Int.neg_tdiv, Int.tdiv_neg, Int.neg_neg] at w
    have := key l c up (by omega) (by omega) w
    rw [Int.mul_neg] at h1
    omega
  · obtain ⟨c, rfl⟩ : ∃ c : Int, a = -c := ⟨-a, by omega⟩
    rw [Int.tdiv_neg] at w
    have := key high c (-up) hh (by omega) (by omega)
    rw [Int.neg_mul] at this
    rw [Int.mul_neg] at h2
    omega
def plS (s : Signal) : List Nat := plN s.Back s.Start.toNat s.Size.toNat
/-- The places of a signal's bits. -/
def placesS (s : Signal) : List Int := (plS s).map (fun (k : Nat) => (k : Int))
def isLet (c : UInt8) : Bool := (97 ≤ c.toNat && c.toNat ≤ 122) || (65 ≤ c.toNat && c.toNat ≤ 90)
def isLD (c : UInt8) : Bool := isLet c || (48 ≤ c.toNat && c.toNat ≤ 57)
/-- A name: a letter, then letters and digits, no more than 16. -/
def nameS : List UInt8 → Bool
  | [] => false
  | c :: r => decide (r.length < 16) && isLet c && r.all isLD
def factS (s : Signal) : Prop := s.Mul ≠ 0 ∧ -1000000 ≤ s.Mul ∧ s.Mul ≤ 1000000 ∧ 1 ≤ s.Div ∧ s.Div ≤ 1000000 ∧ -1000000 ≤ s.Add ∧ s.Add ≤ 1000000
instance (s : Signal) : Decidable (factS s) := by unfold factS; infer_instance
def checkS (s : Signal) (size : Int) : Int :=
  if nameS s.Name = false then 1 else
  if size < 0 ∨ 64 < size ∨ s.Size < 1 ∨ 40 < s.Size then 3 else
  if ¬ factS s then 3 else
  if s.Key < -1 ∨ 255 < s.Key then 3 else
  if s.Start < 0 ∨ 8 * size ≤ s.Start then 7 else
  if (plS s).any (fun p => decide (8 * size ≤ (p : Int))) = true then 7 else 0
theorem check_zero {s : Signal} {size : Int} (h : checkS s size = 0) : (0 ≤ size ∧ size ≤ 64 ∧ 1 ≤ s.Size ∧ s.Size ≤ 40) ∧ factS s ∧ (0 ≤ s.Start ∧ s.Start < 8 * size) ∧ ∀ p ∈ plS s, p < 8 * size.toNat := by
  unfold checkS at h
  split at h
  · cases h
  split at h
  · cases h
  split at h
  · cases h
  rename_i h1 h2
  split at h
  · cases h
  split at h
  · cases h
  split at h
  · cases h
  rename_i h3 h4 h5
  refine ⟨by omega, Classical.not_not.1 h2, by omega, fun p hp => ?_⟩
  rcases Nat.lt_or_ge p (8 * size.toNat) with h6 | h6
  · exact h6
  · exact absurd (List.any_eq_true.2 ⟨p, hp, by rw [decide_eq_true_eq]; omega⟩) h5
/-- The raw number that stands in the data. -/
def getS (s : Signal) (d : List Int) : Int := sgn s.Signed s.Size.toNat (vb ((plS s).map (bitat d)) : Nat)
def putS (s : Signal) (d : List Int) (n : Int) : List Int := putF n 0 (plS s) d
def lowS (s : Signal) : Int := if s.Signed = true then -2 ^ (s.Size.toNat - 1) else 0
def highS (s : Signal) : Int := if s.Signed = true then 2 ^ (s.Size.toNat - 1) - 1 else 2 ^ s.Size.toNat - 1
def meanS (s : Signal) (n : Int) : Reading :=
  ⟨s.Name, (n * s.Mul + s.Add * s.Div).tdiv (ngcd (n * s.Mul + s.Add * s.Div) s.Div), s.Div.tdiv (ngcd (n * s.Mul + s.Add * s.Div) s.Div)⟩
def rawS (s : Signal) (num den : Int) : Int × Int :=
  if checkS s 64 ≠ 0 then (0, checkS s 64) else
  if den < 1 ∨ 1000000 < den ∨ 1099511627776 < num ∨ num < -1099511627776 then (0, 3) else
  if (rawN s.Mul s.Div s.Add num den).2 = false then (0, 4) else
  if (rawN s.Mul s.Div s.Add num den).1 < lowS s ∨ highS s < (rawN s.Mul s.Div s.Add num den).1 then (0, 3) else
  ((rawN s.Mul s.Div s.Add num den).1, 0)
def sreadS (s : Signal) (d : List Int) : Int × Reading × Int :=
  if checkS s d.length ≠ 0 then (0, ⟨[], 0, 0⟩, checkS s d.length) else (getS s d, meanS s (getS s d), 0)
def swriteS (s : Signal) (d : List Int) (num den : Int) : List Int × Int :=
  if checkS s d.length ≠ 0 then ([], checkS s d.length) else
  if (rawS s num den).2 ≠ 0 then ([], (rawS s num den).2) else (putS s d (rawS s num den).1, 0)
def overS (s t : Signal) : Bool := if checkS s 64 ≠ 0 ∨ checkS t 64 ≠ 0 then false else (plS s).any (fun p => (plS t).contains p)
theorem plS_len (s : Signal) : (plS s).length = s.Size.toNat := plN_len _ _ _
theorem w64_nat (k : Nat) (h : k < 4611686018427387904) : w64 ((k : Int) + 1) = ((k + 1 : Nat) : Int) := by rw [w64_eq _ (by omega)]; omega
theorem letter_eq (c : UInt8) : (((decide ((c.toNat : Int) ≥ 97)) && (decide ((c.toNat : Int) ≤ 122))) || ((decide ((c.toNat : Int) ≥ 65)) && (decide ((c.toNat : Int) ≤ 90)))) = isLet c := by
  unfold isLet
  rw [Bool.eq_iff_iff]
  simp only [Bool.or_eq_true, Bool.and_eq_true, decide_eq_true_eq]
  omega
theorem sname_ok (u : List UInt8) : sname_vc u (fun r => r = nameS u) := by
  refine ⟨fun h => ?_, fun h => ?_⟩
  · rw [Bool.or_eq_true, beq_iff_eq, decide_eq_true_eq] at h
    cases u with
    | nil => rfl
    | cons c r =>
      rcases h with h | h
      · cases h
      · rw [List.length_cons] at h
        show false = (decide (r.length < 16) && isLet c && r.all isLD)
        rw [decide_eq_false (by omega)]
        rfl
  · rw [Bool.or_eq_false_iff, decide_eq_false_iff_not] at h
    cases u with
    | nil => simp at h
    | cons c r =>
      have hl : r.length < 16 := by have := h.2; rw [List.length_cons] at this; omega
      have e : nameS (c :: r) = (isLet c && r.all isLD) := by show (decide (r.length < 16) && isLet c && r.all isLD) = _; rw [decide_eq_true hl, Bool.true_and]
      rw [e]
      refine ⟨fun x => ∃ k : Nat, x = k ∧ k ≤ r.length + 1 ∧ (0 < k → isLet c = true) ∧ (r.take (k - 1)).all isLD = true, fun x => r.length + 1 - x.toNat, ⟨0, rfl, by omega, fun hk => absurd hk (by decide), rfl⟩, ?_⟩
      rintro _ ⟨k, rfl, hk, h1, h2⟩
      refine ⟨fun h3 => ?_, fun h3 => ?_⟩
      · have h3 := of_decide_eq_true h3
        rw [List.length_cons] at h3
        refine ⟨by rw [List.length_cons]; omega, fun q hq => ?_⟩
        rw [Int.toNat_natCast] at hq
        rw [letter_eq, w64_nat k (by omega)]
        cases k with
        | zero =>
          have hq : c = q := by simpa using hq
          subst hq
          refine ⟨fun h4 => ?_, fun h4 => ?_⟩
          · have : isLet c = false := by
              rw [Bool.and_eq_true, Bool.not_eq_true'] at h4
              exact h4.1
            rw [this]; rfl
          · have : isLet c = true := by
              cases hc : isLet c with
              | true => rfl
              | false => rw [hc] at h4; simp at h4
            exact ⟨⟨1, rfl, by omega, fun _ => this, rfl⟩, by simp⟩
        | succ k =>
          rw [List.getElem?_cons_succ] at hq
          have hz : ((((k + 1 : Nat) : Int) == 0)) = false := by rw [beq_eq_false_iff_ne]; omega
          have hld : ((!(isLet q)) && (((((k + 1 : Nat) : Int) == 0) || (decide ((q.toNat : Int) < 48))) || (decide ((q.toNat : Int) > 57)))) = !(isLD q) := by
            rw [hz]
            unfold isLD
            rw [Bool.false_or, Bool.not_or]
            congr 1
            rw [Bool.eq_iff_iff]
            simp only [Bool.or_eq_true, Bool.not_eq_true', Bool.and_eq_false_iff, decide_eq_true_eq, decide_eq_false_iff_not]
            omega
          rw [hld]
          have hk' : k < r.length := (List.getElem?_eq_some_iff.1 hq).1
          refine ⟨fun h4 => ?_, fun h4 => ?_⟩
          · have h4 : isLD q = false := by simpa using h4
            have : r.all isLD = false := by
              rw [List.all_eq_false]
              exact ⟨q, List.mem_of_getElem? hq, by rw [h4]; decide⟩
            rw [this, Bool.and_false]
          · have h4 : isLD q = true := by simpa using h4
            refine ⟨⟨k + 2, rfl, by omega, fun _ => h1 (by omega), ?_⟩, by (try dsimp only); omega⟩
            show (r.take (k + 1)).all isLD = true
            rw [List.take_add_one, hq, List.all_append]
            have h2 : (r.take k).all isLD = true := h2
            rw [h2]
            simpa using h4
      · have h3 := of_decide_eq_false h3
        rw [List.length_cons] at h3
        have hk2 : k = r.length + 1 := by omega
        subst hk2
        rw [Nat.add_sub_cancel, List.take_length] at h2
        rw [h1 (by omega), h2]
        rfl
theorem sgcd_ok (a b : Int) (h : (-4611686018427387904 ≤ a ∧ a ≤ 4611686018427387904) ∧ -4611686018427387904 ≤ b ∧ b ≤ 4611686018427387904) : sgcd_vc a b (fun r => r = ngcd a b) := by
  refine ⟨fun x y => ((-4611686018427387904 ≤ x ∧ x ≤ 4611686018427387904) ∧ -4611686018427387904 ≤ y ∧ y ≤ 4611686018427387904) ∧ ngcd x y = ngcd a b, fun _ y => y.natAbs, ⟨h, rfl⟩, ?_⟩
  rintro x y ⟨⟨hx, hy⟩, hg⟩
  refine ⟨fun h1 => ?_, fun h1 => ?_⟩
  · have h1 : y ≠ 0 := by simpa using h1
    have ha : (x.tmod y).natAbs < y.natAbs := by
      rw [Int.natAbs_tmod]
      exact Nat.mod_lt _ (by omega)
    exact ⟨h1, ⟨⟨⟨hy, by omega⟩, by rw [ngcd_step, hg]⟩, ha⟩⟩
  · have h1 : y = 0 := by simpa using h1
    subst h1
    rw [← hg, ngcd_zero, w64_eq _ (by omega)]
    omega
def maxL : List Int → Int
  | [] => 0
  | a :: r => r.foldl max a
def minL : List Int → Int
  | [] => 0
  | a :: r => r.foldl min a
theorem imax_ok (l : List Int) (h : 0 < l.length) : imax_vc l (fun r => r = maxL l) := by
  intro hl
  refine ⟨fun h1 => ?_, fun _ => ⟨by omega, fun q hq => ?_⟩⟩
  · have h1 := of_decide_eq_true h1
    omega
  · cases l with
    | nil => cases h
    | cons a r =>
      have hq : a = q := by simpa using hq
      subst hq
      refine ⟨fun x i => ∃ k : Nat, i = ((k + 1 : Nat) : Int) ∧ k ≤ r.length ∧ x = (r.take k).foldl max a, fun _ i => r.length + 1 - i.toNat, ⟨0, rfl, by omega, rfl⟩, ?_⟩
      rintro _ _ ⟨k, rfl, hk, rfl⟩
      refine ⟨fun h1 => ?_, fun h1 => ?_⟩
      · have h1 := of_decide_eq_true h1
        rw [List.length_cons] at h1 hl
        refine ⟨by rw [List.length_cons]; omega, fun y hy => ?_⟩
        rw [Int.toNat_natCast, List.getElem?_cons_succ] at hy
        rw [w64_nat (k + 1) (by omega)]
        refine ⟨⟨k + 1, rfl, by omega, ?_⟩, by (try dsimp only); omega⟩
        rw [List.take_add_one, hy, List.foldl_append]
        rfl
      · have h1 := of_decide_eq_false h1
        rw [List.length_cons] at h1
        have : k = r.length := by omega
        subst this
        rw [List.take_length]
        rfl
theorem imin_ok (l : List Int) (h : 0 < l.length) : imin_vc l (fun r => r = minL l) := by
  intro hl
  refine ⟨fun h1 => ?_, fun _ => ⟨by omega, fun q hq => ?_⟩⟩
  · have h1 := of_decide_eq_true h1
    omega
  · cases l with
    | nil => cases h
    | cons a r =>
      have hq : a = q := by simpa using hq
      subst hq
      refine ⟨fun x i => ∃ k : Nat, i = ((k + 1 : Nat) : Int) ∧ k ≤ r.length ∧ x = (r.take k).foldl min a, fun _ i => r.length + 1 - i.toNat, ⟨0, rfl, by omega, rfl⟩, ?_⟩
      rintro _ _ ⟨k, rfl, hk, rfl⟩
      refine ⟨fun h1 => ?_, fun h1 => ?_⟩
      · have h1 := of_decide_eq_true h1
        rw [List.length_cons] at h1 hl
        refine ⟨by rw [List.length_cons]; omega, fun y hy => ?_⟩
        rw [Int.toNat_natCast, List.getElem?_cons_succ] at hy
        rw [w64_nat (k + 1) (by omega)]
        refine ⟨⟨k + 1, rfl, by omega, ?_⟩, by (try dsimp only); omega⟩
        rw [List.take_add_one, hy, List.foldl_append]
        rfl
      · have h1 := of_decide_eq_false h1
        rw [List.length_cons] at h1
        have : k = r.length := by omega
        subst this
        rw [List.take_length]
        rfl
theorem foldl_max_ge (c : Int) : ∀ (r : List Int) (a : Int), c ≤ r.foldl max a ↔ c ≤ a ∨ ∃ x ∈ r, c ≤ x := by
  intro r
  induction r with
  | nil => intro a; simp
  | cons y r ih =>
    intro a
    rw [List.foldl_cons, ih]
    constructor
    · rintro (h | ⟨x, hx, h⟩)
      · by_cases hh : c ≤ a
        · exact .inl hh
        · exact .inr ⟨y, List.mem_cons_self, by omega⟩
      · exact .inr ⟨x, List.mem_cons_of_mem _ hx, h⟩
    · rintro (h | ⟨x, hx, h⟩)
      · exact .inl (by omega)
      · rw [List.mem_cons] at hx
        rcases hx with rfl | hx
        · exact .inl (by omega)
        · exact .inr ⟨x, hx, h⟩
theorem foldl_min_ge (c : Int) : ∀ (r : List Int) (a : Int), c ≤ a → (∀ x ∈ r, c ≤ x) → c ≤ r.foldl min a := by
  intro r
  induction r with
  | nil => intro a h _; exact h
  | cons y r ih =>
    intro a h h2
    rw [List.foldl_cons]
    exact ih _ (by have := h2 y List.mem_cons_self; omega) (fun x hx => h2 x (List.mem_cons_of_mem _ hx))
theorem places_max (s : Signal) (h : 0 < (plS s).length) (c : Int) : decide (c ≤ maxL (placesS s)) = (plS s).any (fun p => decide (c ≤ (p : Int))) := by
  unfold placesS
  rw [Bool.eq_iff_iff, decide_eq_true_eq, List.any_eq_true]
  cases hp : plS s with
  | nil => rw [hp] at h; cases h
  | cons a r =>
    rw [List.map_cons]
    show c ≤ (r.map _).foldl max _ ↔ _
    rw [foldl_max_ge]
    constructor
    · rintro (h | ⟨x, hx, h⟩)
      · exact ⟨a, List.mem_cons_self, by rw [decide_eq_true_eq]; exact h⟩
      · obtain ⟨k, hk, rfl⟩ := List.mem_map.1 hx
        exact ⟨k, List.mem_cons_of_mem _ hk, by rw [decide_eq_true_eq]; exact h⟩
    · rintro ⟨x, hx, h⟩
      rw [decide_eq_true_eq] at h
      rw [List.mem_cons] at hx
      rcases hx with rfl | hx
      · exact .inl h
      · exact .inr ⟨x, List.mem_map.2 ⟨x, hx, rfl⟩, h⟩
theorem places_min (s : Signal) : 0 ≤ minL (placesS s) := by
  unfold placesS
  cases plS s with
  | nil => exact Int.le_refl _
  | cons a r => exact foldl_min_ge 0 _ _ (Int.natCast_nonneg a) (fun x hx => by obtain ⟨k, _, rfl⟩ := List.mem_map.1 hx; exact Int.natCast_nonneg k)
theorem places_len (s : Signal) : (placesS s).length = s.Size.toNat := by unfold placesS; rw [List.length_map, plS_len]
theorem shl_one (k : Nat) (h : k ≤ 62) : bShl .i64 1 (k : Int) = ((2 ^ k : Nat) : Int) := by
  have hp : 2 ^ k ≤ 2 ^ 62 := Nat.pow_le_pow_right (by omega) h
  have p62 : (2 : Nat) ^ 62 = 4611686018427387904 := rfl
  unfold bShl
  have e : min (k : Int).toNat IntKind.i64.bits = k := by show min (k : Int).toNat 64 = k; omega
  rw [e]
  have : (1 : Int) * 2 ^ k = ((2 ^ k : Nat) : Int) := by rw [Int.one_mul]; norm_cast
  rw [this]
  generalize (2 : Nat) ^ k = m at hp ⊢
  exact w64_eq _ (by omega)
theorem shl_minus (k : Nat) (h : k ≤ 62) : bShl .i64 (-1) (k : Int) = -((2 ^ k : Nat) : Int) := by
  have hp : 2 ^ k ≤ 2 ^ 62 := Nat.pow_le_pow_right (by omega) h
  have p62 : (2 : Nat) ^ 62 = 4611686018427387904 := rfl
  unfold bShl
  have e : min (k : Int).toNat IntKind.i64.bits = k := by show min (k : Int).toNat 64 = k; omega
  rw [e]
  have : (-1 : Int) * 2 ^ k = -((2 ^ k : Nat) : Int) := by rw [Int.neg_mul, Int.one_mul]; norm_cast
  rw [this]
  generalize (2 : Nat) ^ k = m at hp ⊢
  exact w64_eq _ (by omega)
theorem sbounds_ok (s : Signal) (h : 1 ≤ s.Size ∧ s.Size ≤ 40) : sbounds_vc s (fun r => r = (lowS s, highS s)) := by
  have e1 : w64 (s.Size - 1) = ((s.Size.toNat - 1 : Nat) : Int) := by rw [w64_eq _ (by omega)]; omega
  have e2 : s.Size = ((s.Size.toNat : Nat) : Int) := by omega
  have c : ∀ k : Nat, ((2 ^ k : Nat) : Int) = (2 : Int) ^ k := fun k => by norm_cast
  have b : ∀ k : Nat, k ≤ 40 → 1 ≤ 2 ^ k ∧ 2 ^ k ≤ 1099511627776 := fun k hk => ⟨Nat.one_le_two_pow, Nat.pow_le_pow_right (by omega : 0 < 2) hk⟩
  refine ⟨fun h1 => ⟨by omega, by omega, ?_⟩, fun h1 => ⟨by omega, ?_⟩⟩
  · have := b (s.Size.toNat - 1) (by omega)
    unfold lowS highS
    rw [if_pos h1, if_pos h1, e1, shl_minus _ (by omega), shl_one _ (by omega), w64_eq _ (by omega), c]
  · have := b s.Size.toNat (by omega)
    unfold lowS highS
    rw [if_neg (by rw [h1]; decide), if_neg (by rw [h1]; decide), e2, shl_one _ (by omega), w64_eq _ (by omega), c, ← e2]
def boundsS (s : Signal) : Int × Int := (lowS s, highS s)
theorem mul_abs {a b A B : Int} (ha : -A ≤ a ∧ a ≤ A) (hb : -B ≤ b ∧ b ≤ B) : -(A * B) ≤ a * b ∧ a * b ≤ A * B := by
  have h1 : (a * b).natAbs ≤ A.toNat * B.toNat := by rw [Int.natAbs_mul]; exact Nat.mul_le_mul (by omega) (by omega)
  have h2 : ((A.toNat * B.toNat : Nat) : Int) = A * B := by rw [Int.natCast_mul, Int.toNat_of_nonneg (by omega), Int.toNat_of_nonneg (by omega)]
  rw [← h2]
  omega
theorem tdiv_abs (a b : Int) : (a.tdiv b).natAbs ≤ a.natAbs := by
  rw [Int.natAbs_tdiv]
  exact Nat.div_le_self _ _
def bcloneS (l : List Int) : List Int := l
theorem bclone_ok (l : List Int) (h : l.length ≤ 140737488355328) : bclone_vc l (fun r => r = bcloneS l) := by
  intro _ nb hnb
  refine ⟨fun h1 => ?_, fun _ => ⟨by simp; omega, by simp [bcloneS]⟩⟩
  by_cases e : l = []
  · rw [e]; rfl
  · rw [hnb e] at h1; cases h1
def Rev {α : Type} (u : List α) (k : Nat) (z : List α) : Prop := z.length = u.length ∧ ∀ j, j < u.length → z[j]? = if j < k ∨ u.length ≤ j + k then u[u.length - 1 - j]? else u[j]?
theorem Rev.start {α : Type} (u : List α) : Rev u 0 u := ⟨rfl, fun j hj => by rw [if_neg (by omega)]⟩
theorem Rev.step {α : Type} {u z : List α} {k : Nat} {x y : α} (h : Rev u k z) (hk : 2 * k + 1 < u.length) (hx : z[u.length - 1 - k]? = some x) (hy : z[k]? = some y) : Rev u (k + 1) ((z.set k x).set (u.length - 1 - k) y) := by
  obtain ⟨h1, h2⟩ := h
  refine ⟨by simp [h1], fun j hj => ?_⟩
  have ex := h2 (u.length - 1 - k) (by omega)
  have ey := h2 k (by omega)
  rw [if_neg (by omega)] at ex ey
  rw [hx] at ex
  rw [hy] at ey
  rw [List.getElem?_set, List.getElem?_set]
  by_cases e1 : u.length - 1 - k = j
  · subst e1
    rw [if_pos rfl, if_pos (by rw [List.length_set]; omega), if_pos (by omega), ey]
    congr 1
    omega
  · rw [if_neg e1]
    by_cases e2 : k = j
    · subst e2
      rw [if_pos rfl, if_pos (by omega), if_pos (by omega), ex]
    · rw [if_neg e2, h2 j hj]
      have : (j < k + 1 ∨ u.length ≤ j + (k + 1)) ↔ (j < k ∨ u.length ≤ j + k) := by omega
      simp only [this]
theorem Rev.done {α : Type} {u z : List α} {k : Nat} (h : Rev u k z) (hk : u.length ≤ 2 * k + 1) : z = u.reverse := by
  obtain ⟨h1, h2⟩ := h
  apply List.ext_getElem?
  intro j
  rcases Nat.lt_or_ge j u.length with hj | hj
  · rw [h2 j hj, List.getElem?_reverse hj]
    split
    · rfl
    · congr 1
      omega
  · rw [List.getElem?_eq_none (by omega), List.getElem?_eq_none (by rw [List.length_reverse]; omega)]
def irevS (l : List Int) : List Int := l.reverse
theorem irev_ok (l : List Int) : irev_vc l (fun r => r = irevS l) := by
  intro hl
  refine ⟨fun x y z => ∃ k : Nat, x = k ∧ y = (l.length : Int) - 1 - k ∧ 2 * k ≤ l.length + 1 ∧ Rev l k z, fun x _ _ => l.length - x.toNat, ⟨0, rfl, by rw [w64_eq _ (by omega)]; omega, by omega, Rev.start l⟩, ?_⟩
  rintro _ _ z ⟨k, rfl, rfl, hk, hR⟩
  refine ⟨fun h1 => ?_, fun h1 => ?_⟩
  · have h1 := of_decide_eq_true h1
    have e1 : (((l.length : Int) - 1 - (k : Int))).toNat = l.length - 1 - k := by omega
    have hz := hR.1
    rw [e1, Int.toNat_natCast]
    refine ⟨by omega, fun x hx => ⟨by omega, fun y hy => ⟨by omega, by omega, ?_, ?_⟩⟩⟩
    · rw [w64_succ k (by omega), w64_eq _ (by omega)]
      exact ⟨k + 1, rfl, by omega, by omega, hR.step (by omega) hx hy⟩
    · rw [w64_succ k (by omega)]
      (try dsimp only)
      omega
  · have h1 := of_decide_eq_false h1
    exact ⟨hR.1, hR.done (by omega)⟩
def beqS (a b : List Int) : Bool := decide (a = b)
theorem list_eq_at {α : Type} {a b : List α} (hl : a.length = b.length) (h : ∀ (k : Nat) (x y : α), a[k]? = some x → b[k]? = some y → x = y) : a = b := by
  apply List.ext_getElem? 
  intro k
  rcases Nat.lt_or_ge k a.length with hk | hk
  · have h1 := List.getElem?_eq_getElem hk
    have h2 := List.getElem?_eq_getElem (l := b) (show k < b.length by omega)
    rw [h1, h2, h k _ _ h1 h2]
  · rw [List.getElem?_eq_none hk, List.getElem?_eq_none (by omega)]
theorem beq_ok (a b : List Int) : beq_vc a b (fun r => r = beqS a b) := by
  intro ha hb
  refine ⟨fun h => ?_, fun h => ?_⟩
  · have h : ¬ (a.length : Int) = (b.length : Int) := by simpa using h
    unfold beqS
    rw [decide_eq_false]
    intro e
    rw [e] at h
    exact h rfl
  · have h : a.length = b.length := by
      have h : (a.length : Int) = (b.length : Int) := by simpa only [bne_eq_false_iff_eq] using h
      omega
    refine ⟨fun i => ∃ k : Nat, i = k ∧ k ≤ a.length ∧ ∀ (j : Nat) (x y : Int), j < k → a[j]? = some x → b[j]? = some y → x = y, fun i => a.length - i.toNat, ⟨0, rfl, by omega, fun j _ _ hj => absurd hj (Nat.not_lt_zero _)⟩, ?_⟩
    rintro _ ⟨k, rfl, hk, hj⟩
    refine ⟨fun h1 => ?_, fun h1 => ?_⟩
    · have hk : k < a.length := by have := of_decide_eq_true h1; omega
      rw [w64_succ k (by omega)]
      refine ⟨by omega, fun q hq => ⟨by omega, fun p hp => ⟨fun h2 => ?_, fun h2 => ?_⟩⟩⟩
      · unfold beqS
        rw [decide_eq_false]
        rintro rfl
        rw [hq] at hp
        cases hp
        simp at h2
      · have h2 : q = p := by simpa using h2
        rw [Int.toNat_natCast] at hq hp
        refine ⟨⟨k + 1, rfl, by omega, fun j x y hj1 hx hy => ?_⟩, by (try dsimp only); omega⟩
        rcases Nat.lt_or_ge j k with hc | hc
        · exact hj j x y hc hx hy
        · have : j = k := by omega
          subst this
          rw [hq] at hx
          rw [hp] at hy
          cases hx; cases hy; exact h2
    · have : k = a.length := by have := of_decide_eq_false h1; omega
      subst this
      unfold beqS
      rw [decide_eq_true]
      exact list_eq_at h fun k x y hx hy => hj k x y (List.getElem?_eq_some_iff.1 hx).1 hx hy

end Go.Proofs.YtdndfbamhnchfaaDoor
