/- Texts put together (pure ones, or walks made by program). -/
import Derived.Test.YtdndfbamhnchfaaDoorKw0
set_option linter.unusedVariables false
set_option linter.unusedSimpArgs false
namespace Go.Proofs.YtdndfbamhnchfaaDoor
open Go.Sy Go.RowKit
structure Signal where
  Name : List UInt8
  Start : Int
  Size : Int
  Back : Bool
  Signed : Bool
  Mul : Int
  Div : Int
  Add : Int
  Key : Int
  deriving DecidableEq, Inhabited
def Signal.enc (x : Signal) : List Value := [str x.Name, .int .i64 x.Start, .int .i64 x.Size, .bool x.Back, .bool x.Signed, .int .i64 x.Mul, .int .i64 x.Div, .int .i64 x.Add, .int .i64 x.Key]
def tySignal : Ty Signal := tyFlat Signal.enc 9 (fun _ => rfl) (fun x => by simp [Signal.enc, Value.oneCell'])
def okSignal (x : Signal) : Prop := (x.Name.length ≤ lim) ∧ (IntKind.i64.min ≤ x.Start ∧ x.Start ≤ IntKind.i64.max) ∧ (IntKind.i64.min ≤ x.Size ∧ x.Size ≤ IntKind.i64.max) ∧ (True) ∧ (True) ∧ (IntKind.i64.min ≤ x.Mul ∧ x.Mul ≤ IntKind.i64.max) ∧ (IntKind.i64.min ≤ x.Div ∧ x.Div ≤ IntKind.i64.max) ∧ (IntKind.i64.min ≤ x.Add ∧ x.Add ≤ IntKind.i64.max) ∧ (IntKind.i64.min ≤ x.Key ∧ x.Key ≤ IntKind.i64.max)

structure Reading where
  Name : List UInt8
  Num : Int
  Den : Int
  deriving DecidableEq, Inhabited
def Reading.enc (x : Reading) : List Value := [str x.Name, .int .i64 x.Num, .int .i64 x.Den]
def tyReading : Ty Reading := tyFlat Reading.enc 3 (fun _ => rfl) (fun x => by simp [Reading.enc, Value.oneCell'])
def okReading (x : Reading) : Prop := (x.Name.length ≤ lim) ∧ (IntKind.i64.min ≤ x.Num ∧ x.Num ≤ IntKind.i64.max) ∧ (IntKind.i64.min ≤ x.Den ∧ x.Den ≤ IntKind.i64.max)

def sname_vc (u0 : List UInt8) (K : Bool → Prop) : Prop :=
  ((((u0 == ([] : List UInt8)) || (decide ((u0.length : Int) > 16))) = true →
      (K false)) ∧
    (((u0 == ([] : List UInt8)) || (decide ((u0.length : Int) > 16))) = false →
      (∃ inv34 : Int → Prop, ∃ mu34 : Int → Nat, inv34 0 ∧
      (∀ (x15 : Int), inv34 x15 →
      (((decide (x15 < (u0.length : Int))) = true →
        ((0 ≤ x15 ∧ x15 < (u0.length : Int)) ∧
        (∀ c64, u0[x15.toNat]? = some c64 →
        ((((!(((decide ((c64.toNat : Int) ≥ 97)) && (decide ((c64.toNat : Int) ≤ 122))) || ((decide ((c64.toNat : Int) ≥ 65)) && (decide ((c64.toNat : Int) ≤ 90))))) && (((x15 == 0) || (decide ((c64.toNat : Int) < 48))) || (decide ((c64.toNat : Int) > 57)))) = true →
          (K false)) ∧
        (((!(((decide ((c64.toNat : Int) ≥ 97)) && (decide ((c64.toNat : Int) ≤ 122))) || ((decide ((c64.toNat : Int) ≥ 65)) && (decide ((c64.toNat : Int) ≤ 90))))) && (((x15 == 0) || (decide ((c64.toNat : Int) < 48))) || (decide ((c64.toNat : Int) > 57)))) = false →
          (inv34 (w64 (x15 + 1)) ∧ mu34 (w64 (x15 + 1)) < mu34 x15)))))) ∧
      ((decide (x15 < (u0.length : Int))) = false →
        (K true)))))))

def sgcd_vc (u0 : Int) (u1 : Int) (K : Int → Prop) : Prop :=
  (∃ inv5 : Int → Int → Prop, ∃ mu5 : Int → Int → Nat, inv5 u0 u1 ∧
    (∀ (x0 : Int) (x1 : Int), inv5 x0 x1 →
    (((x1 != 0) = true →
      ((x1 ≠ 0) ∧
      (inv5 x1 (x0.tmod x1) ∧ mu5 x1 (x0.tmod x1) < mu5 x0 x1))) ∧
    ((x1 != 0) = false →
      (K (max x0 (w64 (0 - x0))))))))
theorem sgcd_mono {u0 : Int} {u1 : Int} {K K1 : Int → Prop} (hK : ∀ r, K r → K1 r) (h : sgcd_vc u0 u1 K) : sgcd_vc u0 u1 K1 :=
  (Exists.elim h fun i0 e0 => Exists.elim e0 fun m0 g0 => ⟨i0, m0, g0.1, fun x0 x1 z0 => ⟨fun c1 => ⟨((g0.2 x0 x1 z0).1 c1).1, ((g0.2 x0 x1 z0).1 c1).2⟩, fun c1 => hK _ ((g0.2 x0 x1 z0).2 c1)⟩⟩)

def imax_vc (u0 : List Int) (K : Int → Prop) : Prop :=
  (u0.length ≤ 140737488355328 →
    (((decide ((u0.length : Int) < 1)) = true →
      False) ∧
    ((decide ((u0.length : Int) < 1)) = false →
      ((0 ≤ (0 : Int) ∧ (0 : Int) < (u0.length : Int)) ∧
      (∀ q26, u0[(0 : Int).toNat]? = some q26 →
      (∃ inv41 : Int → Int → Prop, ∃ mu41 : Int → Int → Nat, inv41 q26 1 ∧
      (∀ (x3 : Int) (x4 : Int), inv41 x3 x4 →
      (((decide (x4 < (u0.length : Int))) = true →
        ((0 ≤ x4 ∧ x4 < (u0.length : Int)) ∧
        (∀ q77, u0[x4.toNat]? = some q77 →
        (inv41 (max x3 q77) (w64 (x4 + 1)) ∧ mu41 (max x3 q77) (w64 (x4 + 1)) < mu41 x3 x4)))) ∧
      ((decide (x4 < (u0.length : Int))) = false →
        (K x3))))))))))

def imin_vc (u0 : List Int) (K : Int → Prop) : Prop :=
  (u0.length ≤ 140737488355328 →
    (((decide ((u0.length : Int) < 1)) = true →
      False) ∧
    ((decide ((u0.length : Int) < 1)) = false →
      ((0 ≤ (0 : Int) ∧ (0 : Int) < (u0.length : Int)) ∧
      (∀ q26, u0[(0 : Int).toNat]? = some q26 →
      (∃ inv41 : Int → Int → Prop, ∃ mu41 : Int → Int → Nat, inv41 q26 1 ∧
      (∀ (x3 : Int) (x4 : Int), inv41 x3 x4 →
      (((decide (x4 < (u0.length : Int))) = true →
        ((0 ≤ x4 ∧ x4 < (u0.length : Int)) ∧
        (∀ q77, u0[x4.toNat]? = some q77 →
        (inv41 (min x3 q77) (w64 (x4 + 1)) ∧ mu41 (min x3 q77) (w64 (x4 + 1)) < mu41 x3 x4)))) ∧
      ((decide (x4 < (u0.length : Int))) = false →
        (K x3))))))))))

def bclone_vc (u0 : List Int) (K : (List Int) → Prop) : Prop :=
  (u0.length ≤ 140737488355328 →
    (∀ nb11, (u0 ≠ [] → nb11 = false) →
    ((nb11 = true →
      (K ([] : List Int))) ∧
    (nb11 = false →
      (((([] : List Int).length + u0.length) * 1 ≤ 140737488355328) ∧
      (K (([] : List Int) ++ u0)))))))

def beq_vc (u0 : List Int) (u1 : List Int) (K : Bool → Prop) : Prop :=
  (u0.length ≤ 140737488355328 →
    (u1.length ≤ 140737488355328 →
    ((((u0.length : Int) != (u1.length : Int)) = true →
      (K false)) ∧
    (((u0.length : Int) != (u1.length : Int)) = false →
      (∃ inv37 : Int → Prop, ∃ mu37 : Int → Nat, inv37 0 ∧
      (∀ (x13 : Int), inv37 x13 →
      (((decide (x13 < (u0.length : Int))) = true →
        ((0 ≤ x13 ∧ x13 < (u0.length : Int)) ∧
        (∀ q74, u0[x13.toNat]? = some q74 →
        ((0 ≤ x13 ∧ x13 < (u1.length : Int)) ∧
        (∀ q96, u1[x13.toNat]? = some q96 →
        (((q74 != q96) = true →
          (K false)) ∧
        ((q74 != q96) = false →
          (inv37 (w64 (x13 + 1)) ∧ mu37 (w64 (x13 + 1)) < mu37 x13)))))))) ∧
      ((decide (x13 < (u0.length : Int))) = false →
        (K true)))))))))

def sbounds_vc (u0 : Signal) (K : (Int × Int) → Prop) : Prop :=
  ((u0.Signed = true →
      ((0 ≤ w64 (u0.Size - 1)) ∧
      ((0 ≤ w64 (u0.Size - 1)) ∧
      (K (bShl .i64 (-1) (w64 (u0.Size - 1)), w64 ((bShl .i64 1 (w64 (u0.Size - 1))) - 1)))))) ∧
    (u0.Signed = false →
      ((0 ≤ u0.Size) ∧
      (K (0, w64 ((bShl .i64 1 u0.Size) - 1))))))

def irev_vc (u0 : List Int) (K : (List Int) → Prop) : Prop :=
  (u0.length ≤ 140737488355328 →
    (∃ inv16 : Int → Int → (List Int) → Prop, ∃ mu16 : Int → Int → (List Int) → Nat, inv16 0 (w64 ((u0.length : Int) - 1)) u0 ∧
    (∀ (x2 : Int) (x3 : Int) (zao1 : List Int), inv16 x2 x3 zao1 →
    (((decide (x2 < x3)) = true →
      ((0 ≤ x3 ∧ x3 < (zao1.length : Int)) ∧
      (∀ qd7_0, zao1[x3.toNat]? = some qd7_0 →
      ((0 ≤ x2 ∧ x2 < (zao1.length : Int)) ∧
      (∀ qd11_0, zao1[x2.toNat]? = some qd11_0 →
      ((0 ≤ x2 ∧ x2 < (zao1.length : Int)) ∧
      ((0 ≤ x3 ∧ x3 < (zao1.length : Int)) ∧
      (inv16 (w64 (x2 + 1)) (w64 (x3 - 1)) ((zao1.set x2.toNat qd7_0).set x3.toNat qd11_0) ∧ mu16 (w64 (x2 + 1)) (w64 (x3 - 1)) ((zao1.set x2.toNat qd7_0).set x3.toNat qd11_0) < mu16 x2 x3 zao1)))))))) ∧
    ((decide (x2 < x3)) = false →
      ((zao1.length = u0.length) ∧
      (K zao1)))))))

/-! Pure proofs: no program in sight. -/
def sb (d k v : Int) : Int := bOr .u8 (bAndNot .u8 d (bShl .u8 1 k)) (bShl .u8 v k)
theorem sb_all : ∀ (d : Fin 256) (k : Fin 8) (v : Fin 2), 0 ≤ sb d.val k.val v.val ∧ sb d.val k.val v.val ≤ 255 ∧ ∀ q : Fin 8, (sb d.val k.val v.val).toNat.testBit q.val = if q.val = k.val then decide (v.val = 1) else d.val.testBit q.val := by decide +kernel
theorem gb_all : ∀ (d : Fin 256) (k : Fin 8), bAnd .u8 (bShr .u8 (d.val : Int) k.val) 1 = if d.val.testBit k.val = true then 1 else 0 := by decide +kernel
def isBytes (d : List Int) : Prop := ∀ x ∈ d, 0 ≤ x ∧ x ≤ 255
def bitat (d : List Int) (j : Nat) : Bool := (d[j / 8]?.getD 0).toNat.testBit (j % 8)
def bv (v : Bool) : Int := if v = true then 1 else 0
def set1 (d : List Int) (p : Nat) (v : Bool) : List Int := d.set (p / 8) (sb (d[p / 8]?.getD 0) ((p % 8 : Nat) : Int) (bv v))
theorem byte_at {d : List Int} (h : isBytes d) (i : Nat) : ∃ n : Nat, d[i]?.getD 0 = (n : Int) ∧ n < 256 := by
  cases hc : d[i]? with
  | none => exact ⟨0, rfl, by omega⟩
  | some q => obtain ⟨h1, h2⟩ := h q (List.mem_of_getElem? hc); exact ⟨q.toNat, by show q = _; omega, by omega⟩
theorem sb_at {d : List Int} (h : isBytes d) (i p : Nat) (v : Bool) : (0 ≤ sb (d[i]?.getD 0) ((p % 8 : Nat) : Int) (bv v) ∧ sb (d[i]?.getD 0) ((p % 8 : Nat) : Int) (bv v) ≤ 255) ∧ ∀ q, q < 8 → (sb (d[i]?.getD 0) ((p % 8 : Nat) : Int) (bv v)).toNat.testBit q = if q = p % 8 then v else (d[i]?.getD 0).toNat.testBit q := by
  obtain ⟨n, hn, hb⟩ := byte_at h i
  rw [hn]
  have hv : bv v = (((if v = true then 1 else 0 : Nat)) : Int) := by cases v <;> rfl
  obtain ⟨a, b, c⟩ := sb_all ⟨n, hb⟩ ⟨p % 8, by omega⟩ ⟨if v = true then 1 else 0, by split <;> omega⟩
  rw [hv]
  refine ⟨⟨a, b⟩, fun q hq => ?_⟩
  rw [c ⟨q, hq⟩, Int.toNat_natCast]
  cases v <;> rfl
theorem set1_len (d : List Int) (p : Nat) (v : Bool) : (set1 d p v).length = d.length := List.length_set
theorem set1_bytes {d : List Int} (h : isBytes d) (p : Nat) (v : Bool) : isBytes (set1 d p v) := by
  intro x hx
  rcases List.mem_or_eq_of_mem_set hx with hx | rfl
  · exact h x hx
  · exact (sb_at h _ _ _).1
/-- Bit i of a whole number, below 0 too. -/
def nb (n : Int) (i : Nat) : Bool := decide ((n / 2 ^ i) % 2 = 1)
def putF (n : Int) : Nat → List Nat → List Int → List Int
  | _, [], d => d
  | i, p :: l, d => putF n (i + 1) l (set1 d p (nb n i))
theorem putF_len (n : Int) : ∀ (l : List Nat) (i : Nat) (d : List Int), (putF n i l d).length = d.length := by
  intro l
  induction l with
  | nil => intro i d; rfl
  | cons p l ih => intro i d; rw [putF, ih, set1_len]
theorem putF_bytes (n : Int) : ∀ (l : List Nat) (i : Nat) (d : List Int), isBytes d → isBytes (putF n i l d) := by
  intro l
  induction l with
  | nil => intro i d h; exact h
  | cons p l ih => intro i d h; rw [putF]; exact ih _ _ (set1_bytes h _ _)
/-- The number whose bits these are, the least first. -/
def vb : List Bool → Nat
  | [] => 0
  | b :: r => (if b = true then 1 else 0) + 2 * vb r
theorem vb_lt : ∀ l : List Bool, vb l < 2 ^ l.length := by
  intro l
  induction l with
  | nil => exact Nat.one_pos
  | cons b r ih => rw [vb, List.length_cons, Nat.pow_succ]; split <;> omega
theorem vb_append : ∀ a b : List Bool, vb (a ++ b) = vb a + 2 ^ a.length * vb b := by
  intro a
  induction a with
  | nil => intro b; simp [vb]
  | cons x r ih => intro b; rw [List.cons_append, vb, vb, ih, List.length_cons, Nat.pow_succ, Nat.mul_add, Nat.mul_comm (2 ^ r.length) 2, Nat.mul_assoc]; omega
/-- A bit's place, counted from above. -/
def lin (a : Nat) : Nat := 8 * (a / 8) + (7 - a % 8)
theorem lin_lin (a : Nat) : lin (lin a) = a := by unfold lin; omega
def fp (b : Bool) (st k : Nat) : Nat := if b = true then lin (lin st + k) else st + k
theorem fp_zero (b : Bool) (st : Nat) : fp b st 0 = st := by unfold fp; split; exact lin_lin st; rfl
theorem fp_up (st k : Nat) : fp false st (k + 1) = fp false st k + 1 := rfl
theorem fp_back (st k : Nat) : fp true st (k + 1) = if fp true st k % 8 = 0 then fp true st k + 15 else fp true st k - 1 := by
  unfold fp
  rw [if_pos rfl, if_pos rfl]
  unfold lin
  split <;> omega
theorem fp_le (b : Bool) (st k : Nat) : fp b st k ≤ st + k + 14 := by
  unfold fp
  split
  · unfold lin; omega
  · omega
/-- The places of bits, the one that counts least first. -/
def plN (b : Bool) (st n : Nat) : List Nat := if b = true then ((List.range n).map (fp b st)).reverse else (List.range n).map (fp b st)
theorem plN_len (b : Bool) (st n : Nat) : (plN b st n).length = n := by
  unfold plN
  split <;> simp
/-- A number that fits into so many bits, with a sign or without. -/
def sgn (s : Bool) (m : Nat) (v : Int) : Int := if s = true ∧ 2 ^ (m - 1) ≤ v then v - 2 ^ m else v
def ngcd (a b : Int) : Int := ((Int.gcd a b : Nat) : Int)
theorem ngcd_left (a b : Int) : ngcd a b ∣ a := Int.gcd_dvd_left ..
theorem ngcd_right (a b : Int) : ngcd a b ∣ b := Int.gcd_dvd_right ..
theorem ngcd_step (a b : Int) : ngcd b (a.tmod b) = ngcd a b := by
  unfold ngcd
  congr 1
  rw [Int.gcd_comm a b]
  show Nat.gcd b.natAbs (a.tmod b).natAbs = Nat.gcd b.natAbs a.natAbs
  rw [Int.natAbs_tmod, Nat.gcd_comm b.natAbs (a.natAbs % b.natAbs), ← Nat.gcd_rec, ]
theorem ngcd_zero (a : Int) : ngcd a 0 = (a.natAbs : Int) := by unfold ngcd; rw [Int.gcd_zero_right]
theorem ngcd_pos {a b : Int} (h : b ≠ 0) : 0 < ngcd a b := by
  have : 0 < Int.gcd a b := Int.gcd_pos_of_ne_zero_right a h
  unfold ngcd; omega
/-- The raw number that a fraction asks for, and whether it is whole. -/
def rawN (mul div add num den : Int) : Int × Bool :=
  let up := num - add * den
  let g := ngcd div mul
  let a0 := div.tdiv g
  let b0 := mul.tdiv g
  let a := if b0 < 0 then -a0 else a0
  let b := if b0 < 0 then -b0 else b0
  let h := ngcd up den
  let up1 := up.tdiv h
  let den1 := den.tdiv h
  let h2 := ngcd a den1
  let a1 := a.tdiv h2
  let den2 := den1.tdiv h2
  let h3 := ngcd up1 b
  let up2 := up1.tdiv h3
  let b1 := b.tdiv h3
  (up2 * a1, den2 == 1 && b1 == 1)
theorem rawN_sound {mul div add num den : Int} (h : (rawN mul div add num den).2 = true) : (rawN mul div add num den).1 * mul * den = (num - add * den) * div := by
  unfold rawN at *
  dsimp only at *
  generalize num - add * den = up at *
  rw [Bool.and_eq_true, beq_iff_eq, beq_iff_eq] at h
  have g1 := Int.tdiv_mul_cancel (ngcd_left div mul)
  have g2 := Int.tdiv_mul_cancel (ngcd_right div mul)
  generalize ngcd div mul = g at *
  generalize div.tdiv g = a0 at *
  generalize mul.tdiv g = b0 at *
  obtain ⟨σ, hσ, ha, hb⟩ : ∃ σ : Int, σ * σ = 1 ∧ ((if b0 < 0 then -a0 else a0) = σ * a0 ∧ (if b0 < 0 then -b0 else b0) = σ * b0) := by
    split
    · exact ⟨-1, rfl, by omega, by omega⟩
    · exact ⟨1, rfl, by omega, by omega⟩
  rw [ha, hb] at h ⊢
  have h1 := Int.tdiv_mul_cancel (ngcd_left up den)
  have h2 := Int.tdiv_mul_cancel (ngcd_right up den)
  generalize ngcd up den = k at *
  generalize up.tdiv k = up1 at *
  generalize den.tdiv k = den1 at *
  have h3 := Int.tdiv_mul_cancel (ngcd_left (σ * a0) den1)
  have h4 := Int.tdiv_mul_cancel (ngcd_right (σ * a0) den1)
  generalize ngcd (σ * a0) den1 = k2 at *
  generalize (σ * a0).tdiv k2 = a1 at *
  rw [h.1, Int.one_mul] at h4
  have h5 := Int.tdiv_mul_cancel (ngcd_left up1 (σ * b0))
  have h6 := Int.tdiv_mul_cancel (ngcd_right up1 (σ * b0))
  generalize ngcd up1 (σ * b0) = k3 at *
  generalize up1.tdiv k3 = up2 at *
  rw [h.2, Int.one_mul] at h6
  have ea : a0 = σ * (a1 * k2) := by rw [h3, ← Int.mul_assoc, hσ, Int.one_mul]
  have eb : b0 = σ * k3 := by rw [h6, ← Int.mul_assoc, hσ, Int.one_mul]
  rw [← g1, ← g2, ← h1, ← h2, ← h4, ← h5, ea, eb]
  ac_rfl
theorem raw_range {up a low high : Int} (hl : low ≤ 0) (hh : 0 ≤ high) (hc : (0 < up ∧ 0 < a ∧ high.tdiv a < up) ∨ (up < 0 ∧ 0 < a ∧ up < low.tdiv a) ∨ (0 < up ∧ a < 0 ∧ low.tdiv a < up) ∨ (up < 0 ∧ a < 0 ∧ up < high.tdiv a)) : ¬ (low ≤ up * a ∧ up * a ≤ high) := by
  obtain ⟨l, rfl⟩ : ∃ l : Int, low = -l := ⟨-low, by omega⟩
  have key : ∀ x c u : Int, 0 ≤ x → 0 < c → x.tdiv c < u → x < u * c := by
    intro x c u hx hc h
    rw [Int.tdiv_eq_ediv_of_nonneg hx] at h
    exact (Int.ediv_lt_iff_lt_mul hc).1 h
  rintro ⟨h1, h2⟩
  rcases hc with ⟨u, v, w⟩ | ⟨u, v, w⟩ | ⟨u, v, w⟩ | ⟨u, v, w⟩
  · have := key _ _ _ hh v w
    omega
  · rw [Int.neg_tdiv] at w
    have := key l a (-up) (by omega) v (by omega)
    rw [Int.neg_mul] at this
    omega
  · obtain ⟨c, rfl⟩ : ∃ c : Int, a = -c := ⟨-a, by omega⟩
    rw [Int.neg_tdiv, Int.tdiv_neg, Int.neg_neg] at w
    have := key l c up (by omega) (by omega) w
    rw [Int.mul_neg] at h1
    omega
  · obtain ⟨c, rfl⟩ : ∃ c : Int, a = -c := ⟨-a, by omega⟩
    rw [Int.tdiv_neg] at w
    have := key high c (-up) hh (by omega) (by omega)
    rw [Int.neg_mul] at this
    rw [Int.mul_neg] at h2
    omega
def plS (s : Signal) : List Nat := plN s.Back s.Start.toNat s.Size.toNat
/-- The places of a signal's bits. -/
def placesS (s : Signal) : List Int := (plS s).map (fun (k : Nat) => (k : Int))
def isLet (c : UInt8) : Bool := (97 ≤ c.toNat && c.toNat ≤ 122) || (65 ≤ c.toNat && c.toNat ≤ 90)
def isLD (c : UInt8) : Bool := isLet c || (48 ≤ c.toNat && c.toNat ≤ 57)
/-- A name: a letter, then letters and digits, no more than 16. -/
def nameS : List UInt8 → Bool
  | [] => false
  | c :: r => decide (r.length < 16) && isLet c && r.all isLD
def factS (s : Signal) : Prop := s.Mul ≠ 0 ∧ -1000000 ≤ s.Mul ∧ s.Mul ≤ 1000000 ∧ 1 ≤ s.Div ∧ s.Div ≤ 1000000 ∧ -1000000 ≤ s.Add ∧ s.Add ≤ 1000000
instance (s : Signal) : Decidable (factS s) := by unfold factS; infer_instance
def checkS (s : Signal) (size : Int) : Int :=
  if nameS s.Name = false then 1 else
  if size < 0 ∨ 64 < size ∨ s.Size < 1 ∨ 40 < s.Size then 3 else
  if ¬ factS s then 3 else
  if s.Key < -1 ∨ 255 < s.Key then 3 else
  if s.Start < 0 ∨ 8 * size ≤ s.Start then 7 else
  if (plS s).any (fun p => decide (8 * size ≤ (p : Int))) = true then 7 else 0
theorem check_zero {s : Signal} {size : Int} (h : checkS s size = 0) : (0 ≤ size ∧ size ≤ 64 ∧ 1 ≤ s.Size ∧ s.Size ≤ 40) ∧ factS s ∧ (0 ≤ s.Start ∧ s.Start < 8 * size) ∧ ∀ p ∈ plS s, p < 8 * size.toNat := by
  unfold checkS at h
  split at h
  · cases h
  split at h
  · cases h
  split at h
  · cases h
  rename_i h1 h2
  split at h
  · cases h
  split at h
  · cases h
  split at h
  · cases h
  rename_i h3 h4 h5
  refine ⟨by omega, Classical.not_not.1 h2, by omega, fun p hp => ?_⟩
  rcases Nat.lt_or_ge p (8 * size.toNat) with h6 | h6
  · exact h6
  · exact absurd (List.any_eq_true.2 ⟨p, hp, by rw [decide_eq_true_eq]; omega⟩) h5
/-- The raw number that stands in the data. -/
def getS (s : Signal) (d : List Int) : Int := sgn s.Signed s.Size.toNat (vb ((plS s).map (bitat d)) : Nat)
def putS (s : Signal) (d : List Int) (n : Int) : List Int := putF n 0 (plS s) d
def lowS (s : Signal) : Int := if s.Signed = true then -2 ^ (s.Size.toNat - 1) else 0
def highS (s : Signal) : Int := if s.Signed = true then 2 ^ (s.Size.toNat - 1) - 1 else 2 ^ s.Size.toNat - 1
def meanS (s : Signal) (n : Int) : Reading :=
  ⟨s.Name, (n * s.Mul + s.Add * s.Div).tdiv (ngcd (n * s.Mul + s.Add * s.Div) s.Div), s.Div.tdiv (ngcd (n * s.Mul + s.Add * s.Div) s.Div)⟩
def rawS (s : Signal) (num den : Int) : Int × Int :=
  if checkS s 64 ≠ 0 then (0, checkS s 64) else
  if den < 1 ∨ 1000000 < den ∨ 1099511627776 < num ∨ num < -1099511627776 then (0, 3) else
  if (rawN s.Mul s.Div s.Add num den).2 = false then (0, 4) else
  if (rawN s.Mul s.Div s.Add num den).1 < lowS s ∨ highS s < (rawN s.Mul s.Div s.Add num den).1 then (0, 3) else
  ((rawN s.Mul s.Div s.Add num den).1, 0)
def sreadS (s : Signal) (d : List Int) : Int × Reading × Int :=
  if checkS s d.length ≠ 0 then (0, ⟨[], 0, 0⟩, checkS s d.length) else (getS s d, meanS s (getS s d), 0)
def swriteS (s : Signal) (d : List Int) (num den : Int) : List Int × Int :=
  if checkS s d.length ≠ 0 then ([], checkS s d.length) else
  if (rawS s num den).2 ≠ 0 then ([], (rawS s num den).2) else (putS s d (rawS s num den).1, 0)
def overS (s t : Signal) : Bool := if checkS s 64 ≠ 0 ∨ checkS t 64 ≠ 0 then false else (plS s).any (fun p => (plS t).contains p)
theorem plS_len (s : Signal) : (plS s).length = s.Size.toNat := plN_len _ _ _
theorem w64_nat (k : Nat) (h : k < 4611686018427387904) : w64 ((k : Int) + 1) = ((k + 1 : Nat) : Int) := by rw [w64_eq _ (by omega)]; omega
theorem letter_eq (c : UInt8) : (((decide ((c.toNat : Int) ≥ 97)) && (decide ((c.toNat : Int) ≤ 122))) || ((decide ((c.toNat : Int) ≥ 65)) && (decide ((c.toNat : Int) ≤ 90)))) = isLet c := by
  unfold isLet
  rw [Bool.eq_iff_iff]
  simp only [Bool.or_eq_true, Bool.and_eq_true, decide_eq_true_eq]
  omega
theorem sname_ok (u : List UInt8) : sname_vc u (fun r => r = nameS u) := by
  refine ⟨fun h => ?_, fun h => ?_⟩
  · rw [Bool.or_eq_true, beq_iff_eq, decide_eq_true_eq] at h
    cases u with
    | nil => rfl
    | cons c r =>
      rcases h with h | h
      · cases h
      · rw [List.length_cons] at h
        show false = (decide (r.length < 16) && isLet c && r.all isLD)
        rw [decide_eq_false (by omega)]
        rfl
  · rw [Bool.or_eq_false_iff, decide_eq_false_iff_not] at h
    cases u with
    | nil => simp at h
    | cons c r =>
      have hl : r.length < 16 := by have := h.2; rw [List.length_cons] at this; omega
      have e : nameS (c :: r) = (isLet c && r.all isLD) := by show (decide (r.length < 16) && isLet c && r.all isLD) = _; rw [decide_eq_true hl, Bool.true_and]
      rw [e]
      refine ⟨fun x => ∃ k : Nat, x = k ∧ k ≤ r.length + 1 ∧ (0 < k → isLet c = true) ∧ (r.take (k - 1)).all isLD = true, fun x => r.length + 1 - x.toNat, ⟨0, rfl, by omega, fun hk => absurd hk (by decide), rfl⟩, ?_⟩
      rintro _ ⟨k, rfl, hk, h1, h2⟩
      refine ⟨fun h3 => ?_, fun h3 => ?_⟩
      · have h3 := of_decide_eq_true h3
        rw [List.length_cons] at h3
        refine ⟨by rw [List.length_cons]; omega, fun q hq => ?_⟩
        rw [Int.toNat_natCast] at hq
        rw [letter_eq, w64_nat k (by omega)]
        cases k with
        | zero =>
          have hq : c = q := by simpa using hq
          subst hq
          refine ⟨fun h4 => ?_, fun h4 => ?_⟩
          · have : isLet c = false := by
              rw [Bool.and_eq_true, Bool.not_eq_true'] at h4
              exact h4.1
            rw [this]; rfl
          · have : isLet c = true := by
              cases hc : isLet c with
              | true => rfl
              | false => rw [hc] at h4; simp at h4
            exact ⟨⟨1, rfl, by omega, fun _ => this, rfl⟩, by simp⟩
        | succ k =>
          rw [List.getElem?_cons_succ] at hq
          have hz : ((((k + 1 : Nat) : Int) == 0)) = false := by rw [beq_eq_false_iff_ne]; omega
          have hld : ((!(isLet q)) && (((((k + 1 : Nat) : Int) == 0) || (decide ((q.toNat : Int) < 48))) || (decide ((q.toNat : Int) > 57)))) = !(isLD q) := by
            rw [hz]
            unfold isLD
            rw [Bool.false_or, Bool.not_or]
            congr 1
            rw [Bool.eq_iff_iff]
            simp only [Bool.or_eq_true, Bool.not_eq_true', Bool.and_eq_false_iff, decide_eq_true_eq, decide_eq_false_iff_not]
            omega
          rw [hld]
          have hk' : k < r.length := (List.getElem?_eq_some_iff.1 hq).1
          refine ⟨fun h4 => ?_, fun h4 => ?_⟩
          · have h4 : isLD q = false := by simpa using h4
            have : r.all isLD = false := by
              rw [List.all_eq_false]
              exact ⟨q, List.mem_of_getElem? hq, by rw [h4]; decide⟩
            rw [this, Bool.and_false]
          · have h4 : isLD q = true := by simpa using h4
            refine ⟨⟨k + 2, rfl, by omega, fun _ => h1 (by omega), ?_⟩, by (try dsimp only); omega⟩
            show (r.take (k + 1)).all isLD = true
            rw [List.take_add_one, hq, List.all_append]
            have h2 : (r.take k).all isLD = true := h2
            rw [h2]
            simpa using h4
      · have h3 := of_decide_eq_false h3
        rw [List.length_cons] at h3
        have hk2 : k = r.length + 1 := by omega
        subst hk2
        rw [Nat.add_sub_cancel, List.take_length] at h2
        rw [h1 (by omega), h2]
        rfl
theorem sgcd_ok (a b : Int) (h : (-4611686018427387904 ≤ a ∧ a ≤ 4611686018427387904) ∧ -4611686018427387904 ≤ b ∧ b ≤ 4611686018427387904) : sgcd_vc a b (fun r => r = ngcd a b) := by
  refine ⟨fun x y => ((-4611686018427387904 ≤ x ∧ x ≤ 4611686018427387904) ∧ -4611686018427387904 ≤ y ∧ y ≤ 4611686018427387904) ∧ ngcd x y = ngcd a b, fun _ y => y.natAbs, ⟨h, rfl⟩, ?_⟩
  rintro x y ⟨⟨hx, hy⟩, hg⟩
  refine ⟨fun h1 => ?_, fun h1 => ?_⟩
  · have h1 : y ≠ 0 := by simpa using h1
    have ha : (x.tmod y).natAbs < y.natAbs := by
      rw [Int.natAbs_tmod]
      exact Nat.mod_lt _ (by omega)
    exact ⟨h1, ⟨⟨⟨hy, by omega⟩, by rw [ngcd_step, hg]⟩, ha⟩⟩
  · have h1 : y = 0 := by simpa using h1
    subst h1
    rw [← hg, ngcd_zero, w64_eq _ (by omega)]
    omega
def maxL : List Int → Int
  | [] => 0
  | a :: r => r.foldl max a
def minL : List Int → Int
  | [] => 0
  | a :: r => r.foldl min a
theorem imax_ok (l : List Int) (h : 0 < l.length) : imax_vc l (fun r => r = maxL l) := by
  intro hl
  refine ⟨fun h1 => ?_, fun _ => ⟨by omega, fun q hq => ?_⟩⟩
  · have h1 := of_decide_eq_true h1
    omega
  · cases l with
    | nil => cases h
    | cons a r =>
      have hq : a = q := by simpa using hq
      subst hq
      refine ⟨fun x i => ∃ k : Nat, i = ((k + 1 : Nat) : Int) ∧ k ≤ r.length ∧ x = (r.take k).foldl max a, fun _ i => r.length + 1 - i.toNat, ⟨0, rfl, by omega, rfl⟩, ?_⟩
      rintro _ _ ⟨k, rfl, hk, rfl⟩
      refine ⟨fun h1 => ?_, fun h1 => ?_⟩
      · have h1 := of_decide_eq_true h1
        rw [List.length_cons] at h1 hl
        refine ⟨by rw [List.length_cons]; omega, fun y hy => ?_⟩
        rw [Int.toNat_natCast, List.getElem?_cons_succ] at hy
        rw [w64_nat (k + 1) (by omega)]
        refine ⟨⟨k + 1, rfl, by omega, ?_⟩, by (try dsimp only); omega⟩
        rw [List.take_add_one, hy, List.foldl_append]
        rfl
      · have h1 := of_decide_eq_false h1
        rw [List.length_cons] at h1
        have : k = r.length := by omega
        subst this
        rw [List.take_length]
        rfl
theorem imin_ok (l : List Int) (h : 0 < l.length) : imin_vc l (fun r => r = minL l) := by
  intro hl
  refine ⟨fun h1 => ?_, fun _ => ⟨by omega, fun q hq => ?_⟩⟩
  · have h1 := of_decide_eq_true h1
    omega
  · cases l with
    | nil => cases h
    | cons a r =>
      have hq : a = q := by simpa using hq
      subst hq
      refine ⟨fun x i => ∃ k : Nat, i = ((k + 1 : Nat) : Int) ∧ k ≤ r.length ∧ x = (r.take k).foldl min a, fun _ i => r.length + 1 - i.toNat, ⟨0, rfl, by omega, rfl⟩, ?_⟩
      rintro _ _ ⟨k, rfl, hk, rfl⟩
      refine ⟨fun h1 => ?_, fun h1 => ?_⟩
      · have h1 := of_decide_eq_true h1
        rw [List.length_cons] at h1 hl
        refine ⟨by rw [List.length_cons]; omega, fun y hy => ?_⟩
        rw [Int.toNat_natCast, List.getElem?_cons_succ] at hy
        rw [w64_nat (k + 1) (by omega)]
        refine ⟨⟨k + 1, rfl, by omega, ?_⟩, by (try dsimp only); omega⟩
        rw [List.take_add_one, hy, List.foldl_append]
        rfl
      · have h1 := of_decide_eq_false h1
        rw [List.length_cons] at h1
        have : k = r.length := by omega
        subst this
        rw [List.take_length]
        rfl
theorem foldl_max_ge (c : Int) : ∀ (r : List Int) (a : Int), c ≤ r.foldl max a ↔ c ≤ a ∨ ∃ x ∈ r, c ≤ x := by
  intro r
  induction r with
  | nil => intro a; simp
  | cons y r ih =>
    intro a
    rw [List.foldl_cons, ih]
    constructor
    · rintro (h | ⟨x, hx, h⟩)
      · by_cases hh : c ≤ a
        · exact .inl hh
        · exact .inr ⟨y, List.mem_cons_self, by omega⟩
      · exact .inr ⟨x, List.mem_cons_of_mem _ hx, h⟩
    · rintro (h | ⟨x, hx, h⟩)
      · exact .inl (by omega)
      · rw [List.mem_cons] at hx
        rcases hx with rfl | hx
        · exact .inl (by omega)
        · exact .inr ⟨x, hx, h⟩
theorem foldl_min_ge (c : Int) : ∀ (r : List Int) (a : Int), c ≤ a → (∀ x ∈ r, c ≤ x) → c ≤ r.foldl min a := by
  intro r
  induction r with
  | nil => intro a h _; exact h
  | cons y r ih =>
    intro a h h2
    rw [List.foldl_cons]
    exact ih _ (by have := h2 y List.mem_cons_self; omega) (fun x hx => h2 x (List.mem_cons_of_mem _ hx))
theorem places_max (s : Signal) (h : 0 < (plS s).length) (c : Int) : decide (c ≤ maxL (placesS s)) = (plS s).any (fun p => decide (c ≤ (p : Int))) := by
  unfold placesS
  rw [Bool.eq_iff_iff, decide_eq_true_eq, List.any_eq_true]
  cases hp : plS s with
  | nil => rw [hp] at h; cases h
  | cons a r =>
    rw [List.map_cons]
    show c ≤ (r.map _).foldl max _ ↔ _
    rw [foldl_max_ge]
    constructor
    · rintro (h | ⟨x, hx, h⟩)
      · exact ⟨a, List.mem_cons_self, by rw [decide_eq_true_eq]; exact h⟩
      · obtain ⟨k, hk, rfl⟩ := List.mem_map.1 hx
        exact ⟨k, List.mem_cons_of_mem _ hk, by rw [decide_eq_true_eq]; exact h⟩
    · rintro ⟨x, hx, h⟩
      rw [decide_eq_true_eq] at h
      rw [List.mem_cons] at hx
      rcases hx with rfl | hx
      · exact .inl h
      · exact .inr ⟨x, List.mem_map.2 ⟨x, hx, rfl⟩, h⟩
theorem places_min (s : Signal) : 0 ≤ minL (placesS s) := by
  unfold placesS
  cases plS s with
  | nil => exact Int.le_refl _
  | cons a r => exact foldl_min_ge 0 _ _ (Int.natCast_nonneg a) (fun x hx => by obtain ⟨k, _, rfl⟩ := List.mem_map.1 hx; exact Int.natCast_nonneg k)
theorem places_len (s : Signal) : (placesS s).length = s.Size.toNat := by unfold placesS; rw [List.length_map, plS_len]
theorem shl_one (k : Nat) (h : k ≤ 62) : bShl .i64 1 (k : Int) = ((2 ^ k : Nat) : Int) := by
  have hp : 2 ^ k ≤ 2 ^ 62 := Nat.pow_le_pow_right (by omega) h
  have p62 : (2 : Nat) ^ 62 = 4611686018427387904 := rfl
  unfold bShl
  have e : min (k : Int).toNat IntKind.i64.bits = k := by show min (k : Int).toNat 64 = k; omega
  rw [e]
  have : (1 : Int) * 2 ^ k = ((2 ^ k : Nat) : Int) := by rw [Int.one_mul]; norm_cast
  rw [this]
  generalize (2 : Nat) ^ k = m at hp ⊢
  exact w64_eq _ (by omega)
theorem shl_minus (k : Nat) (h : k ≤ 62) : bShl .i64 (-1) (k : Int) = -((2 ^ k : Nat) : Int) := by
  have hp : 2 ^ k ≤ 2 ^ 62 := Nat.pow_le_pow_right (by omega) h
  have p62 : (2 : Nat) ^ 62 = 4611686018427387904 := rfl
  unfold bShl
  have e : min (k : Int).toNat IntKind.i64.bits = k := by show min (k : Int).toNat 64 = k; omega
  rw [e]
  have : (-1 : Int) * 2 ^ k = -((2 ^ k : Nat) : Int) := by rw [Int.neg_mul, Int.one_mul]; norm_cast
  rw [this]
  generalize (2 : Nat) ^ k = m at hp ⊢
  exact w64_eq _ (by omega)
theorem sbounds_ok (s : Signal) (h : 1 ≤ s.Size ∧ s.Size ≤ 40) : sbounds_vc s (fun r => r = (lowS s, highS s)) := by
  have e1 : w64 (s.Size - 1) = ((s.Size.toNat - 1 : Nat) : Int) := by rw [w64_eq _ (by omega)]; omega
  have e2 : s.Size = ((s.Size.toNat : Nat) : Int) := by omega
  have c : ∀ k : Nat, ((2 ^ k : Nat) : Int) = (2 : Int) ^ k := fun k => by norm_cast
  have b : ∀ k : Nat, k ≤ 40 → 1 ≤ 2 ^ k ∧ 2 ^ k ≤ 1099511627776 := fun k hk => ⟨Nat.one_le_two_pow, Nat.pow_le_pow_right (by omega : 0 < 2) hk⟩
  refine ⟨fun h1 => ⟨by omega, by omega, ?_⟩, fun h1 => ⟨by omega, ?_⟩⟩
  · have := b (s.Size.toNat - 1) (by omega)
    unfold lowS highS
    rw [if_pos h1, if_pos h1, e1, shl_minus _ (by omega), shl_one _ (by omega), w64_eq _ (by omega), c]
  · have := b s.Size.toNat (by omega)
    unfold lowS highS
    rw [if_neg (by rw [h1]; decide), if_neg (by rw [h1]; decide), e2, shl_one _ (by omega), w64_eq _ (by omega), c, ← e2]
def boundsS (s : Signal) : Int × Int := (lowS s, highS s)
theorem mul_abs {a b A B : Int} (ha : -A ≤ a ∧ a ≤ A) (hb : -B ≤ b ∧ b ≤ B) : -(A * B) ≤ a * b ∧ a * b ≤ A * B := by
  have h1 : (a * b).natAbs ≤ A.toNat * B.toNat := by rw [Int.natAbs_mul]; exact Nat.mul_le_mul (by omega) (by omega)
  have h2 : ((A.toNat * B.toNat : Nat) : Int) = A * B := by rw [Int.natCast_mul, Int.toNat_of_nonneg (by omega), Int.toNat_of_nonneg (by omega)]
  rw [← h2]
  omega
theorem tdiv_abs (a b : Int) : (a.tdiv b).natAbs ≤ a.natAbs := by
  rw [Int.natAbs_tdiv]
  exact Nat.div_le_self _ _
def bcloneS (l : List Int) : List Int := l
theorem bclone_ok (l : List Int) (h : l.length ≤ 140737488355328) : bclone_vc l (fun r => r = bcloneS l) := by
  intro _ nb hnb
  refine ⟨fun h1 => ?_, fun _ => ⟨by simp; omega, by simp [bcloneS]⟩⟩
  by_cases e : l = []
  · rw [e]; rfl
  · rw [hnb e] at h1; cases h1
def Rev {α : Type} (u : List α) (k : Nat) (z : List α) : Prop := z.length = u.length ∧ ∀ j, j < u.length → z[j]? = if j < k ∨ u.length ≤ j + k then u[u.length - 1 - j]? else u[j]?
theorem Rev.start {α : Type} (u : List α) : Rev u 0 u := ⟨rfl, fun j hj => by rw [if_neg (by omega)]⟩
theorem Rev.step {α : Type} {u z : List α} {k : Nat} {x y : α} (h : Rev u k z) (hk : 2 * k + 1 < u.length) (hx : z[u.length - 1 - k]? = some x) (hy : z[k]? = some y) : Rev u (k + 1) ((z.set k x).set (u.length - 1 - k) y) := by
  obtain ⟨h1, h2⟩ := h
  refine ⟨by simp [h1], fun j hj => ?_⟩
  have ex := h2 (u.length - 1 - k) (by omega)
  have ey := h2 k (by omega)
  rw [if_neg (by omega)] at ex ey
  rw [hx] at ex
  rw [hy] at ey
  rw [List.getElem?_set, List.getElem?_set]
  by_cases e1 : u.length - 1 - k = j
  · subst e1
    rw [if_pos rfl, if_pos (by rw [List.length_set]; omega), if_pos (by omega), ey]
    congr 1
    omega
  · rw [if_neg e1]
    by_cases e2 : k = j
    · subst e2
      rw [if_pos rfl, if_pos (by omega), if_pos (by omega), ex]
    · rw [if_neg e2, h2 j hj]
      have : (j < k + 1 ∨ u.length ≤ j + (k + 1)) ↔ (j < k ∨ u.length ≤ j + k) := by omega
      simp only [this]
theorem Rev.done {α : Type} {u z : List α} {k : Nat} (h : Rev u k z) (hk : u.length ≤ 2 * k + 1) : z = u.reverse := by
  obtain ⟨h1, h2⟩ := h
  apply List.ext_getElem?
  intro j
  rcases Nat.lt_or_ge j u.length with hj | hj
  · rw [h2 j hj, List.getElem?_reverse hj]
    split
    · rfl
    · congr 1
      omega
  · rw [List.getElem?_eq_none (by omega), List.getElem?_eq_none (by rw [List.length_reverse]; omega)]
def irevS (l : List Int) : List Int := l.reverse
theorem irev_ok (l : List Int) : irev_vc l (fun r => r = irevS l) := by
  intro hl
  refine ⟨fun x y z => ∃ k : Nat, x = k ∧ y = (l.length : Int) - 1 - k ∧ 2 * k ≤ l.length + 1 ∧ Rev l k z, fun x _ _ => l.length - x.toNat, ⟨0, rfl, by rw [w64_eq _ (by omega)]; omega, by omega, Rev.start l⟩, ?_⟩
  rintro _ _ z ⟨k, rfl, rfl, hk, hR⟩
  refine ⟨fun h1 => ?_, fun h1 => ?_⟩
  · have h1 := of_decide_eq_true h1
    have e1 : (((l.length : Int) - 1 - (k : Int))).toNat = l.length - 1 - k := by omega
    have hz := hR.1
    rw [e1, Int.toNat_natCast]
    refine ⟨by omega, fun x hx => ⟨by omega, fun y hy => ⟨by omega, by omega, ?_, ?_⟩⟩⟩
    · rw [w64_succ k (by omega), w64_eq _ (by omega)]
      exact ⟨k + 1, rfl, by omega, by omega, hR.step (by omega) hx hy⟩
    · rw [w64_succ k (by omega)]
      (try dsimp only)
      omega
  · have h1 := of_decide_eq_false h1
    exact ⟨hR.1, hR.done (by omega)⟩
def beqS (a b : List Int) : Bool := decide (a = b)
theorem list_eq_at {α : Type} {a b : List α} (hl : a.length = b.length) (h : ∀ (k : Nat) (x y : α), a[k]? = some x → b[k]? = some y → x = y) : a = b := by
  apply List.ext_getElem? 
  intro k
  rcases Nat.lt_or_ge k a.length with hk | hk
  · have h1 := List.getElem?_eq_getElem hk
    have h2 := List.getElem?_eq_getElem (l := b) (show k < b.length by omega)
    rw [h1, h2, h k _ _ h1 h2]
  · rw [List.getElem?_eq_none hk, List.getElem?_eq_none (by omega)]
theorem beq_ok (a b : List Int) : beq_vc a b (fun r => r = beqS a b) := by
  intro ha hb
  refine ⟨fun h => ?_, fun h => ?_⟩
  · have h : ¬ (a.length : Int) = (b.length : Int) := by simpa using h
    unfold beqS
    rw [decide_eq_false]
    intro e
    rw [e] at h
    exact h rfl
  · have h : a.length = b.length := by
      have h : (a.length : Int) = (b.length : Int) := by simpa only [bne_eq_false_iff_eq] using h
      omega
    refine ⟨fun i => ∃ k : Nat, i = k ∧ k ≤ a.length ∧ ∀ (j : Nat) (x y : Int), j < k → a[j]? = some x → b[j]? = some y → x = y, fun i => a.length - i.toNat, ⟨0, rfl, by omega, fun j _ _ hj => absurd hj (Nat.not_lt_zero _)⟩, ?_⟩
    rintro _ ⟨k, rfl, hk, hj⟩
    refine ⟨fun h1 => ?_, fun h1 => ?_⟩
    · have hk : k < a.length := by have := of_decide_eq_true h1; omega
      rw [w64_succ k (by omega)]
      refine ⟨by omega, fun q hq => ⟨by omega, fun p hp => ⟨fun h2 => ?_, fun h2 => ?_⟩⟩⟩
      · unfold beqS
        rw [decide_eq_false]
        rintro rfl
        rw [hq] at hp
        cases hp
        simp at h2
      · have h2 : q = p := by simpa using h2
        rw [Int.toNat_natCast] at hq hp
        refine ⟨⟨k + 1, rfl, by omega, fun j x y hj1 hx hy => ?_⟩, by (try dsimp only); omega⟩
        rcases Nat.lt_or_ge j k with hc | hc
        · exact hj j x y hc hx hy
        · have : j = k := by omega
          subst this
          rw [hq] at hx
          rw [hp] at hy
          cases hx; cases hy; exact h2
    · have : k = a.length := by have := of_decide_eq_false h1; omega
      subst this
      unfold beqS
      rw [decide_eq_true]
      exact list_eq_at h fun k x y hx hy => hj k x y (List.getElem?_eq_some_iff.1 hx).1 hx hy

end Go.Proofs.YtdndfbamhnchfaaDoor
set_option linter.unusedVariables false
set_option linter.unusedSimpArgs false
namespace Go.Proofs.YtdndfbamhnchfaaDoor
open Go.Sy Go.RowKit
def splaces_vc (u0 : Signal) (K : (List Int) → Prop) : Prop :=
  (∃ inv27 : (List Int) → Int → Int → Prop, ∃ mu27 : (List Int) → Int → Int → Nat, inv27 ([] : List Int) u0.Start 0 ∧
    (∀ (x3 : List Int) (x4 : Int) (x9 : Int), inv27 x3 x4 x9 →
    (((decide (x9 < u0.Size)) = true →
      (((x3.length + 1) * 8 ≤ 140737488355328) ∧
      (((!u0.Back) = true →
        (inv27 (x3 ++ [x4]) (w64 (x4 + 1)) (w64 (x9 + 1)) ∧ mu27 (x3 ++ [x4]) (w64 (x4 + 1)) (w64 (x9 + 1)) < mu27 x3 x4 x9)) ∧
      ((!u0.Back) = false →
        ((((x4.tmod 8) == 0) = true →
          (inv27 (x3 ++ [x4]) (w64 (x4 + 15)) (w64 (x9 + 1)) ∧ mu27 (x3 ++ [x4]) (w64 (x4 + 15)) (w64 (x9 + 1)) < mu27 x3 x4 x9)) ∧
        (((x4.tmod 8) == 0) = false →
          (inv27 (x3 ++ [x4]) (w64 (x4 - 1)) (w64 (x9 + 1)) ∧ mu27 (x3 ++ [x4]) (w64 (x4 - 1)) (w64 (x9 + 1)) < mu27 x3 x4 x9))))))) ∧
    ((decide (x9 < u0.Size)) = false →
      ((u0.Back = true →
        ((irevS x3).length ≤ 140737488355328 →
        (K (irevS x3)))) ∧
      (u0.Back = false →
        (K x3)))))))

def smean_vc (u0 : Signal) (u1 : Int) (K : Reading → Prop) : Prop :=
  (((-4611686018427387904 ≤ (w64 ((w64 (u1 * u0.Mul)) + (w64 (u0.Add * u0.Div)))) ∧ (w64 ((w64 (u1 * u0.Mul)) + (w64 (u0.Add * u0.Div)))) ≤ 4611686018427387904) ∧ -4611686018427387904 ≤ u0.Div ∧ u0.Div ≤ 4611686018427387904) ∧
    (((ngcd (w64 ((w64 (u1 * u0.Mul)) + (w64 (u0.Add * u0.Div)))) u0.Div) ≠ 0) ∧
    (((ngcd (w64 ((w64 (u1 * u0.Mul)) + (w64 (u0.Add * u0.Div)))) u0.Div) ≠ 0) ∧
    (K (⟨u0.Name, w64 ((w64 ((w64 (u1 * u0.Mul)) + (w64 (u0.Add * u0.Div)))).tdiv (ngcd (w64 ((w64 (u1 * u0.Mul)) + (w64 (u0.Add * u0.Div)))) u0.Div)), w64 (u0.Div.tdiv (ngcd (w64 ((w64 (u1 * u0.Mul)) + (w64 (u0.Add * u0.Div)))) u0.Div))⟩ : Reading)))))

/-! Pure proofs: no program in sight. -/
theorem splaces_ok (s : Signal) (h : (0 ≤ s.Start ∧ s.Start ≤ 512) ∧ 1 ≤ s.Size ∧ s.Size ≤ 40) : splaces_vc s (fun r => r = placesS s) := by
  obtain ⟨⟨h1, h2⟩, h3, h4⟩ := h
  obtain ⟨st, hst⟩ : ∃ st : Nat, s.Start = st := ⟨s.Start.toNat, by omega⟩
  obtain ⟨n, hn⟩ : ∃ n : Nat, s.Size = n := ⟨s.Size.toNat, by omega⟩
  rw [hst] at h1 h2
  rw [hn] at h3 h4
  have hP : placesS s = (plN s.Back st n).map (fun (k : Nat) => (k : Int)) := by unfold placesS plS; rw [hst, hn, Int.toNat_natCast, Int.toNat_natCast]
  rw [hP]
  refine ⟨fun x a i => ∃ k : Nat, i = k ∧ k ≤ n ∧ x = (List.range k).map (fun j => (fp s.Back st j : Int)) ∧ a = (fp s.Back st k : Int), fun _ _ i => n - i.toNat, ⟨0, rfl, by omega, rfl, by rw [fp_zero, hst]⟩, ?_⟩
  rintro _ _ _ ⟨k, rfl, hk, rfl, rfl⟩
  have hb := fp_le s.Back st k
  have happ : (List.range k).map (fun j => (fp s.Back st j : Int)) ++ [(fp s.Back st k : Int)] = (List.range (k + 1)).map (fun j => (fp s.Back st j : Int)) := by rw [List.range_succ, List.map_append]; rfl
  refine ⟨fun hc => ?_, fun hc => ?_⟩
  · have hc := of_decide_eq_true hc
    rw [hn] at hc
    rw [happ, w64_succ k (by omega)]
    refine ⟨by rw [List.length_map, List.length_range]; omega, fun hB => ?_, fun hB => ?_⟩
    · have hB : s.Back = false := by simpa using hB
      refine ⟨⟨k + 1, rfl, by omega, rfl, ?_⟩, by (try dsimp only); omega⟩
      rw [w64_succ _ (by omega), hB, fp_up]
    · have hB : s.Back = true := by simpa using hB
      have hm : (((fp s.Back st k : Nat) : Int).tmod 8 == 0) = decide (fp s.Back st k % 8 = 0) := by
        rw [Int.tmod_eq_emod_of_nonneg (by omega), Bool.eq_iff_iff, beq_iff_eq, decide_eq_true_eq]
        omega
      rw [hm]
      refine ⟨fun h5 => ?_, fun h5 => ?_⟩
      · have h5 := of_decide_eq_true h5
        refine ⟨⟨k + 1, rfl, by omega, rfl, ?_⟩, by (try dsimp only); omega⟩
        rw [w64_eq _ (by omega)]
        rw [hB] at h5 ⊢
        rw [fp_back, if_pos h5]
        omega
      · have h5 := of_decide_eq_false h5
        refine ⟨⟨k + 1, rfl, by omega, rfl, ?_⟩, by (try dsimp only); omega⟩
        rw [w64_eq _ (by omega)]
        rw [hB] at h5 ⊢
        rw [fp_back, if_neg h5]
        omega
  · have hc := of_decide_eq_false hc
    rw [hn] at hc
    have : k = n := by omega
    subst this
    refine ⟨fun hB => ?_, fun hB => ?_⟩
    · intro _
      unfold irevS plN
      rw [if_pos hB, List.map_reverse, List.map_map]
      rfl
    · unfold plN
      rw [if_neg (by rw [hB]; decide), List.map_map]
      rfl
theorem mean_bound {s : Signal} {n : Int} (h : factS s ∧ -1099511627776 ≤ n ∧ n ≤ 1099511627776) : (-(1099511627776 * 1000000) ≤ n * s.Mul ∧ n * s.Mul ≤ 1099511627776 * 1000000) ∧ -(1000000 * 1000000) ≤ s.Add * s.Div ∧ s.Add * s.Div ≤ 1000000 * 1000000 := by
  obtain ⟨⟨h1, h2, h3, h4, h5, h6, h7⟩, h8⟩ := h
  exact ⟨mul_abs h8 ⟨h2, h3⟩, mul_abs ⟨h6, h7⟩ ⟨by omega, h5⟩⟩
theorem smean_ok (s : Signal) (n : Int) (h : factS s ∧ -1099511627776 ≤ n ∧ n ≤ 1099511627776) : smean_vc s n (fun r => r = meanS s n) := by
  obtain ⟨hb1, hb2⟩ := mean_bound h
  obtain ⟨⟨h1, h2, h3, h4, h5, h6, h7⟩, h8⟩ := h
  unfold smean_vc meanS
  rw [w64_eq (n * s.Mul) (by omega), w64_eq (s.Add * s.Div) (by omega), w64_eq (n * s.Mul + s.Add * s.Div) (by omega)]
  have hg := ngcd_pos (a := n * s.Mul + s.Add * s.Div) (b := s.Div) (by omega)
  have t1 := tdiv_abs (n * s.Mul + s.Add * s.Div) (ngcd (n * s.Mul + s.Add * s.Div) s.Div)
  have t2 := tdiv_abs s.Div (ngcd (n * s.Mul + s.Add * s.Div) s.Div)
  rw [w64_eq ((n * s.Mul + s.Add * s.Div).tdiv _) (by omega), w64_eq (s.Div.tdiv _) (by omega)]
  exact ⟨by omega, by omega, by omega, rfl⟩

end Go.Proofs.YtdndfbamhnchfaaDoor
set_option linter.unusedVariables false
set_option linter.unusedSimpArgs false
namespace Go.Proofs.YtdndfbamhnchfaaDoor
open Go.Sy Go.RowKit
def scheck_vc (u0 : Signal) (u1 : Int) (K : Int → Prop) : Prop :=
  (((!(nameS u0.Name)) = true →
      (K 1)) ∧
    ((!(nameS u0.Name)) = false →
      ((((((decide (u1 < 0)) || (decide (u1 > 64))) || (decide (u0.Size < 1))) || (decide (u0.Size > 40))) = true →
        (K 3)) ∧
      (((((decide (u1 < 0)) || (decide (u1 > 64))) || (decide (u0.Size < 1))) || (decide (u0.Size > 40))) = false →
        (((((((((u0.Mul == 0) || (decide ((max u0.Mul (w64 (0 - u0.Mul))) > 1000000))) || (decide (u0.Mul < (-1000000)))) || (decide (u0.Div < 1))) || (decide (u0.Div > 1000000))) || (decide (u0.Add > 1000000))) || (decide (u0.Add < (-1000000)))) = true →
          (K 3)) ∧
        ((((((((u0.Mul == 0) || (decide ((max u0.Mul (w64 (0 - u0.Mul))) > 1000000))) || (decide (u0.Mul < (-1000000)))) || (decide (u0.Div < 1))) || (decide (u0.Div > 1000000))) || (decide (u0.Add > 1000000))) || (decide (u0.Add < (-1000000)))) = false →
          ((((decide (u0.Key < (-1))) || (decide (u0.Key > 255))) = true →
            (K 3)) ∧
          (((decide (u0.Key < (-1))) || (decide (u0.Key > 255))) = false →
            ((((decide (u0.Start < 0)) || (decide (u0.Start ≥ (w64 (8 * u1))))) = true →
              (K 7)) ∧
            (((decide (u0.Start < 0)) || (decide (u0.Start ≥ (w64 (8 * u1))))) = false →
              (((0 ≤ u0.Start ∧ u0.Start ≤ 512) ∧ 1 ≤ u0.Size ∧ u0.Size ≤ 40) ∧
              ((placesS u0).length ≤ 140737488355328 →
              ((0 < (placesS u0).length) ∧
              (((decide ((maxL (placesS u0)) ≥ (w64 (8 * u1)))) = true →
                (K 7)) ∧
              ((decide ((maxL (placesS u0)) ≥ (w64 (8 * u1)))) = false →
                ((0 < (placesS u0).length) ∧
                (((decide ((minL (placesS u0)) < 0)) = true →
                  (K 7)) ∧
                ((decide ((minL (placesS u0)) < 0)) = false →
                  (K 0)))))))))))))))))))

def sget_vc (u0 : Signal) (u1 : List Int) (K : Int → Prop) : Prop :=
  (u1.length ≤ 140737488355328 →
    (((0 ≤ u0.Start ∧ u0.Start ≤ 512) ∧ 1 ≤ u0.Size ∧ u0.Size ≤ 40) ∧
    ((placesS u0).length ≤ 140737488355328 →
    (∃ inv36 : Int → Int → Prop, ∃ mu36 : Int → Int → Nat, inv36 0 0 ∧
    (∀ (x5 : Int) (x11 : Int), inv36 x5 x11 →
    (((decide (x11 < ((placesS u0).length : Int))) = true →
      ((0 ≤ x11 ∧ x11 < ((placesS u0).length : Int)) ∧
      (∀ q67, (placesS u0)[x11.toNat]? = some q67 →
      ((0 ≤ w64 (q67.tdiv 8) ∧ w64 (q67.tdiv 8) < (u1.length : Int)) ∧
      (∀ q94, u1[(w64 (q67.tdiv 8)).toNat]? = some q94 →
      ((0 ≤ q67.tmod 8) ∧
      ((0 ≤ x11) ∧
      (inv36 (bOr .i64 x5 (bShl .i64 (w64 (bAnd .u8 (bShr .u8 q94 (q67.tmod 8)) 1)) x11)) (w64 (x11 + 1)) ∧ mu36 (bOr .i64 x5 (bShl .i64 (w64 (bAnd .u8 (bShr .u8 q94 (q67.tmod 8)) 1)) x11)) (w64 (x11 + 1)) < mu36 x5 x11)))))))) ∧
    ((decide (x11 < ((placesS u0).length : Int))) = false →
      ((u0.Signed = true →
        ((0 ≤ w64 (u0.Size - 1)) ∧
        ((((bShr .i64 x5 (w64 (u0.Size - 1))) == 1) = true →
          ((0 ≤ u0.Size) ∧
          (K (w64 (x5 - (bShl .i64 1 u0.Size)))))) ∧
        (((bShr .i64 x5 (w64 (u0.Size - 1))) == 1) = false →
          (K x5))))) ∧
      (u0.Signed = false →
        (K x5))))))))))

def sputd_vc (u0 : Signal) (u1 : List Int) (u2 : Int) (K : (List Int) → Prop) : Prop :=
  (u1.length ≤ 140737488355328 →
    (((0 ≤ u0.Start ∧ u0.Start ≤ 512) ∧ 1 ≤ u0.Size ∧ u0.Size ≤ 40) ∧
    ((placesS u0).length ≤ 140737488355328 →
    (∃ inv30 : Int → (List Int) → Prop, ∃ mu30 : Int → (List Int) → Nat, inv30 0 u1 ∧
    (∀ (x11 : Int) (zao1 : List Int), inv30 x11 zao1 →
    (((decide (x11 < ((placesS u0).length : Int))) = true →
      ((0 ≤ x11 ∧ x11 < ((placesS u0).length : Int)) ∧
      (∀ q61, (placesS u0)[x11.toNat]? = some q61 →
      ((0 ≤ w64 (q61.tdiv 8) ∧ w64 (q61.tdiv 8) < (zao1.length : Int)) ∧
      (∀ qd7_0, zao1[(w64 (q61.tdiv 8)).toNat]? = some qd7_0 →
      ((0 ≤ q61.tmod 8) ∧
      ((0 ≤ x11) ∧
      ((0 ≤ q61.tmod 8) ∧
      ((0 ≤ w64 (q61.tdiv 8) ∧ w64 (q61.tdiv 8) < (zao1.length : Int)) ∧
      (inv30 (w64 (x11 + 1)) (zao1.set (w64 (q61.tdiv 8)).toNat (bOr .u8 (bAndNot .u8 qd7_0 (bShl .u8 1 (q61.tmod 8))) (bShl .u8 (w8 (bAnd .i64 (bShr .i64 u2 x11) 1)) (q61.tmod 8)))) ∧ mu30 (w64 (x11 + 1)) (zao1.set (w64 (q61.tdiv 8)).toNat (bOr .u8 (bAndNot .u8 qd7_0 (bShl .u8 1 (q61.tmod 8))) (bShl .u8 (w8 (bAnd .i64 (bShr .i64 u2 x11) 1)) (q61.tmod 8)))) < mu30 x11 zao1)))))))))) ∧
    ((decide (x11 < ((placesS u0).length : Int))) = false →
      ((zao1.length = u1.length) ∧
      (K zao1)))))))))

/-! Pure proofs: no program in sight. -/
theorem shr_any (n : Int) (s : Nat) (hs : s ≤ 63) : bShr .i64 n (s : Int) = n / 2 ^ s := by
  unfold bShr
  have : min (s : Int).toNat IntKind.i64.bits = s := by simp [IntKind.bits]; omega
  rw [this, Int.fdiv_eq_ediv_of_nonneg _ (Int.le_of_lt (Int.pow_pos (by decide)))]
theorem and_one (m : Int) : bAnd .i64 m 1 = m % 2 := by
  unfold bAnd
  have e : (BitVec.ofInt IntKind.i64.bits m &&& BitVec.ofInt IntKind.i64.bits 1).toNat = (m % 2).toNat := by
    rw [BitVec.toNat_and]
    show (BitVec.ofInt 64 m).toNat &&& 1 = _
    rw [Nat.and_one_is_mod, BitVec.toNat_ofInt]
    omega
  rw [e]
  have := Int.emod_nonneg m (by decide : (2 : Int) ≠ 0)
  have := Int.emod_lt_of_pos m (by decide : (0 : Int) < 2)
  rw [Int.toNat_of_nonneg (by omega)]
  exact w64_eq _ (by omega)
theorem fact_eq (s : Signal) : (((((((s.Mul == 0) || (decide ((max s.Mul (w64 (0 - s.Mul))) > 1000000))) || (decide (s.Mul < (-1000000)))) || (decide (s.Div < 1))) || (decide (s.Div > 1000000))) || (decide (s.Add > 1000000))) || (decide (s.Add < (-1000000)))) = !decide (factS s) := by
  rw [Bool.eq_iff_iff]
  simp only [Bool.or_eq_true, beq_iff_eq, decide_eq_true_eq, Bool.not_eq_true', decide_eq_false_iff_not]
  unfold factS
  by_cases h : -1000000 ≤ s.Mul ∧ s.Mul ≤ 1000000
  · rw [w64_eq (0 - s.Mul) (by omega)]
    omega
  · constructor
    · intro _
      omega
    · intro _
      omega
theorem scheck_ok (s : Signal) (n : Int) : scheck_vc s n (fun r => r = checkS s n) := by
  unfold scheck_vc
  rw [fact_eq]
  unfold checkS
  refine ⟨fun h => ?_, fun h => ?_⟩
  · rw [if_pos (by simpa using h)]
  rw [if_neg (by simpa using h)]
  refine ⟨fun h1 => ?_, fun h1 => ?_⟩
  · rw [if_pos (by simpa [or_assoc] using h1)]
  have h1 : ¬ (n < 0 ∨ 64 < n ∨ s.Size < 1 ∨ 40 < s.Size) := by simp only [Bool.or_eq_false_iff, decide_eq_false_iff_not] at h1; omega
  rw [if_neg h1]
  refine ⟨fun h2 => ?_, fun h2 => ?_⟩
  · rw [if_pos (by simpa using h2)]
  have h2 : factS s := by simpa using h2
  rw [if_neg (fun hh => hh h2)]
  refine ⟨fun h3 => ?_, fun h3 => ?_⟩
  · rw [if_pos (by simpa using h3)]
  rw [if_neg (by simp only [Bool.or_eq_false_iff, decide_eq_false_iff_not] at h3; omega), w64_eq _ (by omega)]
  refine ⟨fun h4 => ?_, fun h4 => ?_⟩
  · rw [if_pos (by simpa using h4)]
  have h4 : ¬ (s.Start < 0 ∨ 8 * n ≤ s.Start) := by simp only [Bool.or_eq_false_iff, decide_eq_false_iff_not] at h4; omega
  have hl : 0 < (placesS s).length := by rw [places_len]; omega
  have hm := places_max s (by rw [plS_len]; omega) (8 * n)
  rw [if_neg h4]
  refine ⟨by omega, fun _ => ⟨hl, fun h5 => ?_, fun h5 => ⟨hl, fun h6 => ?_, fun _ => ?_⟩⟩⟩
  · have h5 : decide (8 * n ≤ maxL (placesS s)) = true := h5
    rw [hm] at h5
    rw [if_pos h5]
  · have := of_decide_eq_true h6
    have := places_min s
    omega
  · have h5 : decide (8 * n ≤ maxL (placesS s)) = false := h5
    rw [hm] at h5
    rw [if_neg (by rw [h5]; decide)]
/-- A signal whose bits all lie in the data. -/
def inD (s : Signal) (d : List Int) : Prop := ((0 ≤ s.Start ∧ s.Start ≤ 512) ∧ 1 ≤ s.Size ∧ s.Size ≤ 40) ∧ isBytes d ∧ ∀ p ∈ plS s, p < 8 * d.length
theorem place_at {s : Signal} {k : Nat} {q : Int} (h : (placesS s)[k]? = some q) : ∃ p : Nat, (plS s)[k]? = some p ∧ q = p ∧ p ∈ plS s := by
  unfold placesS at h
  rw [List.getElem?_map, Option.map_eq_some_iff] at h
  obtain ⟨p, hp, rfl⟩ := h
  exact ⟨p, hp, rfl, List.mem_of_getElem? hp⟩
theorem div8 (p : Nat) (h : p < 1000000) : w64 ((p : Int).tdiv 8) = ((p / 8 : Nat) : Int) ∧ (p : Int).tmod 8 = ((p % 8 : Nat) : Int) := by
  rw [Int.tdiv_eq_ediv_of_nonneg (by omega), Int.tmod_eq_emod_of_nonneg (by omega), w64_eq _ (by omega)]
  omega
theorem got_bit {d : List Int} (h : isBytes d) {p : Nat} {q : Int} (hq : d[p / 8]? = some q) : bAnd .u8 (bShr .u8 q ((p % 8 : Nat) : Int)) 1 = bv (bitat d p) := by
  obtain ⟨n, hn, hb⟩ := byte_at h (p / 8)
  rw [hq] at hn
  have hn : q = (n : Int) := hn
  have := gb_all ⟨n, hb⟩ ⟨p % 8, by omega⟩
  dsimp only at this
  rw [hn, this]
  unfold bv bitat
  rw [hq, Option.getD_some, hn, Int.toNat_natCast]
theorem or_bit (v k : Nat) (b : Bool) (hv : v < 2 ^ k) (hk : k ≤ 40) : bOr .i64 (v : Int) (bShl .i64 (w64 (bv b)) (k : Int)) = ((v + 2 ^ k * vb [b] : Nat) : Int) := by
  have hp : 2 ^ k ≤ 1099511627776 := Nat.pow_le_pow_right (by omega : 0 < 2) hk
  have h0 : 1 ≤ 2 ^ k := Nat.one_le_two_pow
  cases b with
  | false =>
    have e : bShl .i64 (w64 (bv false)) (k : Int) = ((0 : Nat) : Int) := by
      unfold bShl bv
      rw [if_neg (by decide)]
      have : w64 0 * 2 ^ min (k : Int).toNat IntKind.i64.bits = 0 := by rw [w64_eq _ (by omega), Int.zero_mul]
      rw [this]; rfl
    rw [e, bOr_nat _ _ (by omega) (by omega), Nat.or_zero]
    simp [vb]
  | true =>
    have e : w64 (bv true) = 1 := by unfold bv; rw [if_pos rfl]; exact w64_eq _ (by omega)
    rw [e, shl_one k (by omega), bOr_nat _ _ (by omega) (by omega)]
    have := Nat.two_pow_add_eq_or_of_lt (i := k) (b := v) hv 1
    rw [Nat.mul_one] at this
    rw [Nat.or_comm, ← this]
    simp [vb]
    omega
theorem sget_ok (s : Signal) (d : List Int) (h : inD s d) : sget_vc s d (fun r => r = getS s d) := by
  obtain ⟨⟨h1, h2, h3⟩, hd, hp⟩ := h
  have hl := places_len s
  have hpl := plS_len s
  intro _
  refine ⟨⟨h1, h2, h3⟩, fun _ => ⟨fun x i => ∃ k : Nat, i = k ∧ k ≤ s.Size.toNat ∧ x = ((vb (((plS s).take k).map (bitat d)) : Nat) : Int), fun _ i => s.Size.toNat - i.toNat, ⟨0, rfl, by omega, rfl⟩, ?_⟩⟩
  rintro _ _ ⟨k, rfl, hk, rfl⟩
  have hv := vb_lt (((plS s).take k).map (bitat d))
  rw [List.length_map, List.length_take, hpl, Nat.min_eq_left hk] at hv
  refine ⟨fun hc => ?_, fun hc => ?_⟩
  · have hc := of_decide_eq_true hc
    refine ⟨by omega, fun q hq => ?_⟩
    rw [Int.toNat_natCast] at hq
    obtain ⟨p, hp1, rfl, hp2⟩ := place_at hq
    have hlt := hp p hp2
    have hfp : p < 1000000 := by
      have : p < 8 * d.length := hlt
      unfold plS plN at hp2
      have hb : ∀ j, j ∈ (List.range s.Size.toNat).map (fp s.Back s.Start.toNat) → j < 1000000 := by
        intro j hj
        obtain ⟨i, hi, rfl⟩ := List.mem_map.1 hj
        have := List.mem_range.1 hi
        have := fp_le s.Back s.Start.toNat i
        omega
      split at hp2
      · exact hb p (List.mem_reverse.1 hp2)
      · exact hb p hp2
    obtain ⟨d1, d2⟩ := div8 p hfp
    rw [d1, d2, Int.toNat_natCast]
    refine ⟨by omega, fun q hq2 => ?_⟩
    rw [got_bit hd hq2, or_bit _ _ _ hv (by omega), w64_succ k (by omega)]
    refine ⟨by omega, by omega, ⟨k + 1, rfl, by omega, ?_⟩, by (try dsimp only); omega⟩
    rw [List.take_add_one, hp1, List.map_append, vb_append, List.length_map, List.length_take, hpl, Nat.min_eq_left hk]
    rfl
  · have hc := of_decide_eq_false hc
    have hkk : k = s.Size.toNat := by omega
    subst hkk
    have e : ((plS s).take s.Size.toNat) = plS s := by rw [← hpl, List.take_length]
    rw [e] at hv ⊢
    have hg : getS s d = sgn s.Signed s.Size.toNat ((vb ((plS s).map (bitat d)) : Nat) : Int) := rfl
    rw [hg]
    generalize vb ((plS s).map (bitat d)) = v at *
    obtain ⟨m, hm⟩ : ∃ m, s.Size.toNat = m + 1 := ⟨s.Size.toNat - 1, by omega⟩
    have e1 : w64 (s.Size - 1) = (m : Int) := by rw [w64_eq _ (by omega)]; omega
    have hb : 1 ≤ 2 ^ m ∧ 2 ^ m ≤ 549755813888 := ⟨Nat.one_le_two_pow, Nat.pow_le_pow_right (by omega : 0 < 2) (by omega : m ≤ 39)⟩
    rw [hm, Nat.pow_succ] at hv
    have c : ((2 ^ m : Nat) : Int) = (2 : Int) ^ m := by norm_cast
    refine ⟨fun hS => ⟨by omega, ?_⟩, fun hS => ?_⟩
    · rw [e1, shr_any _ _ (by omega), ← c]
      have hq : (((v : Int) / ((2 ^ m : Nat) : Int)) == 1) = decide (2 ^ m ≤ v) := by
        rw [Bool.eq_iff_iff, beq_iff_eq, decide_eq_true_eq, ← Int.natCast_ediv]
        have hdm := Nat.div_add_mod v (2 ^ m)
        have hml := Nat.mod_lt v (show 2 ^ m > 0 by omega)
        constructor
        · intro h5
          have h5 : v / 2 ^ m = 1 := by omega
          rw [h5] at hdm
          omega
        · intro h5
          have h6 : v / 2 ^ m < 2 := Nat.div_lt_of_lt_mul hv
          have h7 : 1 ≤ v / 2 ^ m := (Nat.one_le_div_iff (by omega)).2 h5
          omega
      rw [hq]
      refine ⟨fun h5 => ⟨by omega, ?_⟩, fun h5 => ?_⟩
      · have h5 := of_decide_eq_true h5
        have e2 : s.Size = ((m + 1 : Nat) : Int) := by omega
        have c2 : ((2 ^ (m + 1) : Nat) : Int) = (2 : Int) ^ (m + 1) := by norm_cast
        have hs : sgn s.Signed s.Size.toNat (v : Int) = (v : Int) - ((2 ^ (m + 1) : Nat) : Int) := by
          unfold sgn
          rw [hm, Nat.add_sub_cancel, if_pos ⟨hS, by rw [← c]; omega⟩, ← c2]
        rw [hs, e2, shl_one _ (by omega), w64_eq _ (by rw [Nat.pow_succ]; omega)]
      · have h5 := of_decide_eq_false h5
        unfold sgn
        rw [hm, Nat.add_sub_cancel, if_neg (by rintro ⟨_, h6⟩; rw [← c] at h6; omega)]
    · unfold sgn
      rw [if_neg (by rintro ⟨h6, _⟩; rw [hS] at h6; cases h6)]
theorem putF_snoc (n : Int) : ∀ (l : List Nat) (i p : Nat) (d : List Int), putF n i (l ++ [p]) d = set1 (putF n i l d) p (nb n (i + l.length)) := by
  intro l
  induction l with
  | nil => intro i p d; rfl
  | cons a l ih => intro i p d; rw [List.cons_append, putF, putF, ih, List.length_cons]; congr 2; omega
theorem sputd_ok (s : Signal) (d : List Int) (n : Int) (h : inD s d) : sputd_vc s d n (fun r => r = putS s d n) := by
  obtain ⟨⟨h1, h2, h3⟩, hd, hp⟩ := h
  have hl := places_len s
  have hpl := plS_len s
  intro hdl
  refine ⟨⟨h1, h2, h3⟩, fun _ => ⟨fun i x => ∃ k : Nat, i = k ∧ k ≤ s.Size.toNat ∧ x = putF n 0 ((plS s).take k) d, fun i _ => s.Size.toNat - i.toNat, ⟨0, rfl, by omega, rfl⟩, ?_⟩⟩
  rintro _ _ ⟨k, rfl, hk, rfl⟩
  have hlen := putF_len n ((plS s).take k) 0 d
  refine ⟨fun hc => ?_, fun hc => ?_⟩
  · have hc := of_decide_eq_true hc
    refine ⟨by omega, fun q hq => ?_⟩
    rw [Int.toNat_natCast] at hq
    obtain ⟨p, hp1, rfl, hp2⟩ := place_at hq
    have hlt := hp p hp2
    have hfp : p < 1000000 := by
      unfold plS plN at hp2
      have hb : ∀ j, j ∈ (List.range s.Size.toNat).map (fp s.Back s.Start.toNat) → j < 1000000 := by
        intro j hj
        obtain ⟨i, hi, rfl⟩ := List.mem_map.1 hj
        have := List.mem_range.1 hi
        have := fp_le s.Back s.Start.toNat i
        omega
      split at hp2
      · exact hb p (List.mem_reverse.1 hp2)
      · exact hb p hp2
    obtain ⟨d1, d2⟩ := div8 p hfp
    rw [d1, d2, Int.toNat_natCast]
    refine ⟨by omega, fun q hq2 => ⟨by omega, by omega, by omega, by omega, ⟨k + 1, by rw [w64_succ k (by omega)], by omega, ?_⟩, by rw [w64_succ k (by omega)]; (try dsimp only); omega⟩⟩
    rw [List.take_add_one, hp1]
    show _ = putF n 0 (List.take k (plS s) ++ [p]) d
    rw [putF_snoc, List.length_take, hpl, Nat.min_eq_left hk, Nat.zero_add]
    unfold set1 sb
    rw [hq2, Option.getD_some]
    congr 2
    rw [shr_any _ _ (by omega), and_one]
    unfold bv nb
    have : n / 2 ^ k % 2 = 0 ∨ n / 2 ^ k % 2 = 1 := by omega
    rcases this with e | e <;> rw [e] <;> rfl
  · have hc := of_decide_eq_false hc
    have hkk : k = s.Size.toNat := by omega
    subst hkk
    refine ⟨hlen, ?_⟩
    unfold putS
    rw [← hpl, List.take_length]

end Go.Proofs.YtdndfbamhnchfaaDoor
set_option linter.unusedVariables false
set_option linter.unusedSimpArgs false
namespace Go.Proofs.YtdndfbamhnchfaaDoor
open Go.Sy Go.RowKit
def sraw_vc (u0 : Signal) (u1 : Int) (u2 : Int) (K : (Int × Int) → Prop) : Prop :=
  ((((checkS u0 64) != 0) = true →
      (K (0, (checkS u0 64)))) ∧
    (((checkS u0 64) != 0) = false →
      ((((((decide (u2 < 1)) || (decide (u2 > 1000000))) || (decide (u1 > 1099511627776))) || (decide (u1 < (-1099511627776)))) = true →
        (K (0, 3))) ∧
      (((((decide (u2 < 1)) || (decide (u2 > 1000000))) || (decide (u1 > 1099511627776))) || (decide (u1 < (-1099511627776)))) = false →
        (sgcd_vc u0.Div u0.Mul fun r99 =>
        ((r99 ≠ 0) ∧
        ((r99 ≠ 0) ∧
        (∃ inv151 : Int → Int → Prop,
        (((decide ((w64 (u0.Mul.tdiv r99)) < 0)) = true →
          (inv151 (w64 (0 - (w64 (u0.Div.tdiv r99)))) (w64 (0 - (w64 (u0.Mul.tdiv r99)))))) ∧
        ((decide ((w64 (u0.Mul.tdiv r99)) < 0)) = false →
          (inv151 (w64 (u0.Div.tdiv r99)) (w64 (u0.Mul.tdiv r99))))) ∧
        (∀ (x11 : Int) (x12 : Int), inv151 x11 x12 →
          (sgcd_vc (w64 (u1 - (w64 (u0.Add * u2)))) u2 fun r169 =>
          ((r169 ≠ 0) ∧
          ((r169 ≠ 0) ∧
          (sgcd_vc x11 (w64 (u2.tdiv r169)) fun r214 =>
          ((r214 ≠ 0) ∧
          ((r214 ≠ 0) ∧
          (sgcd_vc (w64 ((w64 (u1 - (w64 (u0.Add * u2)))).tdiv r169)) x12 fun r259 =>
          ((r259 ≠ 0) ∧
          ((r259 ≠ 0) ∧
          (((((w64 ((w64 (u2.tdiv r169)).tdiv r214)) != 1) || ((w64 (x12.tdiv r259)) != 1)) = true →
            (K (0, 4))) ∧
          ((((w64 ((w64 (u2.tdiv r169)).tdiv r214)) != 1) || ((w64 (x12.tdiv r259)) != 1)) = false →
            ((1 ≤ u0.Size ∧ u0.Size ≤ 40) ∧
            ((((decide ((w64 ((w64 ((w64 (u1 - (w64 (u0.Add * u2)))).tdiv r169)).tdiv r259)) > 0)) && (decide ((w64 (x11.tdiv r214)) > 0))) = true →
              ((w64 (x11.tdiv r214) ≠ 0) ∧
              (((decide ((w64 ((w64 ((w64 (u1 - (w64 (u0.Add * u2)))).tdiv r169)).tdiv r259)) > (w64 ((boundsS u0).2.tdiv (w64 (x11.tdiv r214)))))) = true →
                (K (0, 3))) ∧
              ((decide ((w64 ((w64 ((w64 (u1 - (w64 (u0.Add * u2)))).tdiv r169)).tdiv r259)) > (w64 ((boundsS u0).2.tdiv (w64 (x11.tdiv r214)))))) = false →
                ((((decide ((w64 ((w64 ((w64 (u1 - (w64 (u0.Add * u2)))).tdiv r169)).tdiv r259)) < 0)) && (decide ((w64 (x11.tdiv r214)) > 0))) = true →
                  ((w64 (x11.tdiv r214) ≠ 0) ∧
                  (((decide ((w64 ((w64 ((w64 (u1 - (w64 (u0.Add * u2)))).tdiv r169)).tdiv r259)) < (w64 ((boundsS u0).1.tdiv (w64 (x11.tdiv r214)))))) = true →
                    (K (0, 3))) ∧
                  ((decide ((w64 ((w64 ((w64 (u1 - (w64 (u0.Add * u2)))).tdiv r169)).tdiv r259)) < (w64 ((boundsS u0).1.tdiv (w64 (x11.tdiv r214)))))) = false →
                    ((((decide ((w64 ((w64 ((w64 (u1 - (w64 (u0.Add * u2)))).tdiv r169)).tdiv r259)) > 0)) && (decide ((w64 (x11.tdiv r214)) < 0))) = true →
                      ((w64 (x11.tdiv r214) ≠ 0) ∧
                      (((decide ((w64 ((w64 ((w64 (u1 - (w64 (u0.Add * u2)))).tdiv r169)).tdiv r259)) > (w64 ((boundsS u0).1.tdiv (w64 (x11.tdiv r214)))))) = true →
                        (K (0, 3))) ∧
                      ((decide ((w64 ((w64 ((w64 (u1 - (w64 (u0.Add * u2)))).tdiv r169)).tdiv r259)) > (w64 ((boundsS u0).1.tdiv (w64 (x11.tdiv r214)))))) = false →
                        ((((decide ((w64 ((w64 ((w64 (u1 - (w64 (u0.Add * u2)))).tdiv r169)).tdiv r259)) < 0)) && (decide ((w64 (x11.tdiv r214)) < 0))) = true →
                          ((w64 (x11.tdiv r214) ≠ 0) ∧
                          (((decide ((w64 ((w64 ((w64 (u1 - (w64 (u0.Add * u2)))).tdiv r169)).tdiv r259)) < (w64 ((boundsS u0).2.tdiv (w64 (x11.tdiv r214)))))) = true →
                            (K (0, 3))) ∧
                          ((decide ((w64 ((w64 ((w64 (u1 - (w64 (u0.Add * u2)))).tdiv r169)).tdiv r259)) < (w64 ((boundsS u0).2.tdiv (w64 (x11.tdiv r214)))))) = false →
                            ((((decide ((w64 ((w64 ((w64 ((w64 (u1 - (w64 (u0.Add * u2)))).tdiv r169)).tdiv r259)) * (w64 (x11.tdiv r214)))) < (boundsS u0).1)) || (decide ((w64 ((w64 ((w64 ((w64 (u1 - (w64 (u0.Add * u2)))).tdiv r169)).tdiv r259)) * (w64 (x11.tdiv r214)))) > (boundsS u0).2))) = true →
                              (K (0, 3))) ∧
                            (((decide ((w64 ((w64 ((w64 ((w64 (u1 - (w64 (u0.Add * u2)))).tdiv r169)).tdiv r259)) * (w64 (x11.tdiv r214)))) < (boundsS u0).1)) || (decide ((w64 ((w64 ((w64 ((w64 (u1 - (w64 (u0.Add * u2)))).tdiv r169)).tdiv r259)) * (w64 (x11.tdiv r214)))) > (boundsS u0).2))) = false →
                              (K (w64 ((w64 ((w64 ((w64 (u1 - (w64 (u0.Add * u2)))).tdiv r169)).tdiv r259)) * (w64 (x11.tdiv r214))), 0)))))))) ∧
                        (((decide ((w64 ((w64 ((w64 (u1 - (w64 (u0.Add * u2)))).tdiv r169)).tdiv r259)) < 0)) && (decide ((w64 (x11.tdiv r214)) < 0))) = false →
                          ((((decide ((w64 ((w64 ((w64 ((w64 (u1 - (w64 (u0.Add * u2)))).tdiv r169)).tdiv r259)) * (w64 (x11.tdiv r214)))) < (boundsS u0).1)) || (decide ((w64 ((w64 ((w64 ((w64 (u1 - (w64 (u0.Add * u2)))).tdiv r169)).tdiv r259)) * (w64 (x11.tdiv r214)))) > (boundsS u0).2))) = true →
                            (K (0, 3))) ∧
                          (((decide ((w64 ((w64 ((w64 ((w64 (u1 - (w64 (u0.Add * u2)))).tdiv r169)).tdiv r259)) * (w64 (x11.tdiv r214)))) < (boundsS u0).1)) || (decide ((w64 ((w64 ((w64 ((w64 (u1 - (w64 (u0.Add * u2)))).tdiv r169)).tdiv r259)) * (w64 (x11.tdiv r214)))) > (boundsS u0).2))) = false →
                            (K (w64 ((w64 ((w64 ((w64 (u1 - (w64 (u0.Add * u2)))).tdiv r169)).tdiv r259)) * (w64 (x11.tdiv r214))), 0)))))))))) ∧
                    (((decide ((w64 ((w64 ((w64 (u1 - (w64 (u0.Add * u2)))).tdiv r169)).tdiv r259)) > 0)) && (decide ((w64 (x11.tdiv r214)) < 0))) = false →
                      ((((decide ((w64 ((w64 ((w64 (u1 - (w64 (u0.Add * u2)))).tdiv r169)).tdiv r259)) < 0)) && (decide ((w64 (x11.tdiv r214)) < 0))) = true →
                        ((w64 (x11.tdiv r214) ≠ 0) ∧
                        (((decide ((w64 ((w64 ((w64 (u1 - (w64 (u0.Add * u2)))).tdiv r169)).tdiv r259)) < (w64 ((boundsS u0).2.tdiv (w64 (x11.tdiv r214)))))) = true →
                          (K (0, 3))) ∧
                        ((decide ((w64 ((w64 ((w64 (u1 - (w64 (u0.Add * u2)))).tdiv r169)).tdiv r259)) < (w64 ((boundsS u0).2.tdiv (w64 (x11.tdiv r214)))))) = false →
                          ((((decide ((w64 ((w64 ((w64 ((w64 (u1 - (w64 (u0.Add * u2)))).tdiv r169)).tdiv r259)) * (w64 (x11.tdiv r214)))) < (boundsS u0).1)) || (decide ((w64 ((w64 ((w64 ((w64 (u1 - (w64 (u0.Add * u2)))).tdiv r169)).tdiv r259)) * (w64 (x11.tdiv r214)))) > (boundsS u0).2))) = true →
                            (K (0, 3))) ∧
                          (((decide ((w64 ((w64 ((w64 ((w64 (u1 - (w64 (u0.Add * u2)))).tdiv r169)).tdiv r259)) * (w64 (x11.tdiv r214)))) < (boundsS u0).1)) || (decide ((w64 ((w64 ((w64 ((w64 (u1 - (w64 (u0.Add * u2)))).tdiv r169)).tdiv r259)) * (w64 (x11.tdiv r214)))) > (boundsS u0).2))) = false →
                            (K (w64 ((w64 ((w64 ((w64 (u1 - (w64 (u0.Add * u2)))).tdiv r169)).tdiv r259)) * (w64 (x11.tdiv r214))), 0)))))))) ∧
                      (((decide ((w64 ((w64 ((w64 (u1 - (w64 (u0.Add * u2)))).tdiv r169)).tdiv r259)) < 0)) && (decide ((w64 (x11.tdiv r214)) < 0))) = false →
                        ((((decide ((w64 ((w64 ((w64 ((w64 (u1 - (w64 (u0.Add * u2)))).tdiv r169)).tdiv r259)) * (w64 (x11.tdiv r214)))) < (boundsS u0).1)) || (decide ((w64 ((w64 ((w64 ((w64 (u1 - (w64 (u0.Add * u2)))).tdiv r169)).tdiv r259)) * (w64 (x11.tdiv r214)))) > (boundsS u0).2))) = true →
                          (K (0, 3))) ∧
                        (((decide ((w64 ((w64 ((w64 ((w64 (u1 - (w64 (u0.Add * u2)))).tdiv r169)).tdiv r259)) * (w64 (x11.tdiv r214)))) < (boundsS u0).1)) || (decide ((w64 ((w64 ((w64 ((w64 (u1 - (w64 (u0.Add * u2)))).tdiv r169)).tdiv r259)) * (w64 (x11.tdiv r214)))) > (boundsS u0).2))) = false →
                          (K (w64 ((w64 ((w64 ((w64 (u1 - (w64 (u0.Add * u2)))).tdiv r169)).tdiv r259)) * (w64 (x11.tdiv r214))), 0)))))))))))) ∧
                (((decide ((w64 ((w64 ((w64 (u1 - (w64 (u0.Add * u2)))).tdiv r169)).tdiv r259)) < 0)) && (decide ((w64 (x11.tdiv r214)) > 0))) = false →
                  ((((decide ((w64 ((w64 ((w64 (u1 - (w64 (u0.Add * u2)))).tdiv r169)).tdiv r259)) > 0)) && (decide ((w64 (x11.tdiv r214)) < 0))) = true →
                    ((w64 (x11.tdiv r214) ≠ 0) ∧
                    (((decide ((w64 ((w64 ((w64 (u1 - (w64 (u0.Add * u2)))).tdiv r169)).tdiv r259)) > (w64 ((boundsS u0).1.tdiv (w64 (x11.tdiv r214)))))) = true →
                      (K (0, 3))) ∧
                    ((decide ((w64 ((w64 ((w64 (u1 - (w64 (u0.Add * u2)))).tdiv r169)).tdiv r259)) > (w64 ((boundsS u0).1.tdiv (w64 (x11.tdiv r214)))))) = false →
                      ((((decide ((w64 ((w64 ((w64 (u1 - (w64 (u0.Add * u2)))).tdiv r169)).tdiv r259)) < 0)) && (decide ((w64 (x11.tdiv r214)) < 0))) = true →
                        ((w64 (x11.tdiv r214) ≠ 0) ∧
                        (((decide ((w64 ((w64 ((w64 (u1 - (w64 (u0.Add * u2)))).tdiv r169)).tdiv r259)) < (w64 ((boundsS u0).2.tdiv (w64 (x11.tdiv r214)))))) = true →
                          (K (0, 3))) ∧
                        ((decide ((w64 ((w64 ((w64 (u1 - (w64 (u0.Add * u2)))).tdiv r169)).tdiv r259)) < (w64 ((boundsS u0).2.tdiv (w64 (x11.tdiv r214)))))) = false →
                          ((((decide ((w64 ((w64 ((w64 ((w64 (u1 - (w64 (u0.Add * u2)))).tdiv r169)).tdiv r259)) * (w64 (x11.tdiv r214)))) < (boundsS u0).1)) || (decide ((w64 ((w64 ((w64 ((w64 (u1 - (w64 (u0.Add * u2)))).tdiv r169)).tdiv r259)) * (w64 (x11.tdiv r214)))) > (boundsS u0).2))) = true →
                            (K (0, 3))) ∧
                          (((decide ((w64 ((w64 ((w64 ((w64 (u1 - (w64 (u0.Add * u2)))).tdiv r169)).tdiv r259)) * (w64 (x11.tdiv r214)))) < (boundsS u0).1)) || (decide ((w64 ((w64 ((w64 ((w64 (u1 - (w64 (u0.Add * u2)))).tdiv r169)).tdiv r259)) * (w64 (x11.tdiv r214)))) > (boundsS u0).2))) = false →
                            (K (w64 ((w64 ((w64 ((w64 (u1 - (w64 (u0.Add * u2)))).tdiv r169)).tdiv r259)) * (w64 (x11.tdiv r214))), 0)))))))) ∧
                      (((decide ((w64 ((w64 ((w64 (u1 - (w64 (u0.Add * u2)))).tdiv r169)).tdiv r259)) < 0)) && (decide ((w64 (x11.tdiv r214)) < 0))) = false →
                        ((((decide ((w64 ((w64 ((w64 ((w64 (u1 - (w64 (u0.Add * u2)))).tdiv r169)).tdiv r259)) * (w64 (x11.tdiv r214)))) < (boundsS u0).1)) || (decide ((w64 ((w64 ((w64 ((w64 (u1 - (w64 (u0.Add * u2)))).tdiv r169)).tdiv r259)) * (w64 (x11.tdiv r214)))) > (boundsS u0).2))) = true →
                          (K (0, 3))) ∧
                        (((decide ((w64 ((w64 ((w64 ((w64 (u1 - (w64 (u0.Add * u2)))).tdiv r169)).tdiv r259)) * (w64 (x11.tdiv r214)))) < (boundsS u0).1)) || (decide ((w64 ((w64 ((w64 ((w64 (u1 - (w64 (u0.Add * u2)))).tdiv r169)).tdiv r259)) * (w64 (x11.tdiv r214)))) > (boundsS u0).2))) = false →
                          (K (w64 ((w64 ((w64 ((w64 (u1 - (w64 (u0.Add * u2)))).tdiv r169)).tdiv r259)) * (w64 (x11.tdiv r214))), 0)))))))))) ∧
                  (((decide ((w64 ((w64 ((w64 (u1 - (w64 (u0.Add * u2)))).tdiv r169)).tdiv r259)) > 0)) && (decide ((w64 (x11.tdiv r214)) < 0))) = false →
                    ((((decide ((w64 ((w64 ((w64 (u1 - (w64 (u0.Add * u2)))).tdiv r169)).tdiv r259)) < 0)) && (decide ((w64 (x11.tdiv r214)) < 0))) = true →
                      ((w64 (x11.tdiv r214) ≠ 0) ∧
                      (((decide ((w64 ((w64 ((w64 (u1 - (w64 (u0.Add * u2)))).tdiv r169)).tdiv r259)) < (w64 ((boundsS u0).2.tdiv (w64 (x11.tdiv r214)))))) = true →
                        (K (0, 3))) ∧
                      ((decide ((w64 ((w64 ((w64 (u1 - (w64 (u0.Add * u2)))).tdiv r169)).tdiv r259)) < (w64 ((boundsS u0).2.tdiv (w64 (x11.tdiv r214)))))) = false →
                        ((((decide ((w64 ((w64 ((w64 ((w64 (u1 - (w64 (u0.Add * u2)))).tdiv r169)).tdiv r259)) * (w64 (x11.tdiv r214)))) < (boundsS u0).1)) || (decide ((w64 ((w64 ((w64 ((w64 (u1 - (w64 (u0.Add * u2)))).tdiv r169)).tdiv r259)) * (w64 (x11.tdiv r214)))) > (boundsS u0).2))) = true →
                          (K (0, 3))) ∧
                        (((decide ((w64 ((w64 ((w64 ((w64 (u1 - (w64 (u0.Add * u2)))).tdiv r169)).tdiv r259)) * (w64 (x11.tdiv r214)))) < (boundsS u0).1)) || (decide ((w64 ((w64 ((w64 ((w64 (u1 - (w64 (u0.Add * u2)))).tdiv r169)).tdiv r259)) * (w64 (x11.tdiv r214)))) > (boundsS u0).2))) = false →
                          (K (w64 ((w64 ((w64 ((w64 (u1 - (w64 (u0.Add * u2)))).tdiv r169)).tdiv r259)) * (w64 (x11.tdiv r214))), 0)))))))) ∧
                    (((decide ((w64 ((w64 ((w64 (u1 - (w64 (u0.Add * u2)))).tdiv r169)).tdiv r259)) < 0)) && (decide ((w64 (x11.tdiv r214)) < 0))) = false →
                      ((((decide ((w64 ((w64 ((w64 ((w64 (u1 - (w64 (u0.Add * u2)))).tdiv r169)).tdiv r259)) * (w64 (x11.tdiv r214)))) < (boundsS u0).1)) || (decide ((w64 ((w64 ((w64 ((w64 (u1 - (w64 (u0.Add * u2)))).tdiv r169)).tdiv r259)) * (w64 (x11.tdiv r214)))) > (boundsS u0).2))) = true →
                        (K (0, 3))) ∧
                      (((decide ((w64 ((w64 ((w64 ((w64 (u1 - (w64 (u0.Add * u2)))).tdiv r169)).tdiv r259)) * (w64 (x11.tdiv r214)))) < (boundsS u0).1)) || (decide ((w64 ((w64 ((w64 ((w64 (u1 - (w64 (u0.Add * u2)))).tdiv r169)).tdiv r259)) * (w64 (x11.tdiv r214)))) > (boundsS u0).2))) = false →
                        (K (w64 ((w64 ((w64 ((w64 (u1 - (w64 (u0.Add * u2)))).tdiv r169)).tdiv r259)) * (w64 (x11.tdiv r214))), 0)))))))))))))) ∧
            (((decide ((w64 ((w64 ((w64 (u1 - (w64 (u0.Add * u2)))).tdiv r169)).tdiv r259)) > 0)) && (decide ((w64 (x11.tdiv r214)) > 0))) = false →
              ((((decide ((w64 ((w64 ((w64 (u1 - (w64 (u0.Add * u2)))).tdiv r169)).tdiv r259)) < 0)) && (decide ((w64 (x11.tdiv r214)) > 0))) = true →
                ((w64 (x11.tdiv r214) ≠ 0) ∧
                (((decide ((w64 ((w64 ((w64 (u1 - (w64 (u0.Add * u2)))).tdiv r169)).tdiv r259)) < (w64 ((boundsS u0).1.tdiv (w64 (x11.tdiv r214)))))) = true →
                  (K (0, 3))) ∧
                ((decide ((w64 ((w64 ((w64 (u1 - (w64 (u0.Add * u2)))).tdiv r169)).tdiv r259)) < (w64 ((boundsS u0).1.tdiv (w64 (x11.tdiv r214)))))) = false →
                  ((((decide ((w64 ((w64 ((w64 (u1 - (w64 (u0.Add * u2)))).tdiv r169)).tdiv r259)) > 0)) && (decide ((w64 (x11.tdiv r214)) < 0))) = true →
                    ((w64 (x11.tdiv r214) ≠ 0) ∧
                    (((decide ((w64 ((w64 ((w64 (u1 - (w64 (u0.Add * u2)))).tdiv r169)).tdiv r259)) > (w64 ((boundsS u0).1.tdiv (w64 (x11.tdiv r214)))))) = true →
                      (K (0, 3))) ∧
                    ((decide ((w64 ((w64 ((w64 (u1 - (w64 (u0.Add * u2)))).tdiv r169)).tdiv r259)) > (w64 ((boundsS u0).1.tdiv (w64 (x11.tdiv r214)))))) = false →
                      ((((decide ((w64 ((w64 ((w64 (u1 - (w64 (u0.Add * u2)))).tdiv r169)).tdiv r259)) < 0)) && (decide ((w64 (x11.tdiv r214)) < 0))) = true →
                        ((w64 (x11.tdiv r214) ≠ 0) ∧
                        (((decide ((w64 ((w64 ((w64 (u1 - (w64 (u0.Add * u2)))).tdiv r169)).tdiv r259)) < (w64 ((boundsS u0).2.tdiv (w64 (x11.tdiv r214)))))) = true →
                          (K (0, 3))) ∧
                        ((decide ((w64 ((w64 ((w64 (u1 - (w64 (u0.Add * u2)))).tdiv r169)).tdiv r259)) < (w64 ((boundsS u0).2.tdiv (w64 (x11.tdiv r214)))))) = false →
                          ((((decide ((w64 ((w64 ((w64 ((w64 (u1 - (w64 (u0.Add * u2)))).tdiv r169)).tdiv r259)) * (w64 (x11.tdiv r214)))) < (boundsS u0).1)) || (decide ((w64 ((w64 ((w64 ((w64 (u1 - (w64 (u0.Add * u2)))).tdiv r169)).tdiv r259)) * (w64 (x11.tdiv r214)))) > (boundsS u0).2))) = true →
                            (K (0, 3))) ∧
                          (((decide ((w64 ((w64 ((w64 ((w64 (u1 - (w64 (u0.Add * u2)))).tdiv r169)).tdiv r259)) * (w64 (x11.tdiv r214)))) < (boundsS u0).1)) || (decide ((w64 ((w64 ((w64 ((w64 (u1 - (w64 (u0.Add * u2)))).tdiv r169)).tdiv r259)) * (w64 (x11.tdiv r214)))) > (boundsS u0).2))) = false →
                            (K (w64 ((w64 ((w64 ((w64 (u1 - (w64 (u0.Add * u2)))).tdiv r169)).tdiv r259)) * (w64 (x11.tdiv r214))), 0)))))))) ∧
                      (((decide ((w64 ((w64 ((w64 (u1 - (w64 (u0.Add * u2)))).tdiv r169)).tdiv r259)) < 0)) && (decide ((w64 (x11.tdiv r214)) < 0))) = false →
                        ((((decide ((w64 ((w64 ((w64 ((w64 (u1 - (w64 (u0.Add * u2)))).tdiv r169)).tdiv r259)) * (w64 (x11.tdiv r214)))) < (boundsS u0).1)) || (decide ((w64 ((w64 ((w64 ((w64 (u1 - (w64 (u0.Add * u2)))).tdiv r169)).tdiv r259)) * (w64 (x11.tdiv r214)))) > (boundsS u0).2))) = true →
                          (K (0, 3))) ∧
                        (((decide ((w64 ((w64 ((w64 ((w64 (u1 - (w64 (u0.Add * u2)))).tdiv r169)).tdiv r259)) * (w64 (x11.tdiv r214)))) < (boundsS u0).1)) || (decide ((w64 ((w64 ((w64 ((w64 (u1 - (w64 (u0.Add * u2)))).tdiv r169)).tdiv r259)) * (w64 (x11.tdiv r214)))) > (boundsS u0).2))) = false →
                          (K (w64 ((w64 ((w64 ((w64 (u1 - (w64 (u0.Add * u2)))).tdiv r169)).tdiv r259)) * (w64 (x11.tdiv r214))), 0)))))))))) ∧
                  (((decide ((w64 ((w64 ((w64 (u1 - (w64 (u0.Add * u2)))).tdiv r169)).tdiv r259)) > 0)) && (decide ((w64 (x11.tdiv r214)) < 0))) = false →
                    ((((decide ((w64 ((w64 ((w64 (u1 - (w64 (u0.Add * u2)))).tdiv r169)).tdiv r259)) < 0)) && (decide ((w64 (x11.tdiv r214)) < 0))) = true →
                      ((w64 (x11.tdiv r214) ≠ 0) ∧
                      (((decide ((w64 ((w64 ((w64 (u1 - (w64 (u0.Add * u2)))).tdiv r169)).tdiv r259)) < (w64 ((boundsS u0).2.tdiv (w64 (x11.tdiv r214)))))) = true →
                        (K (0, 3))) ∧
                      ((decide ((w64 ((w64 ((w64 (u1 - (w64 (u0.Add * u2)))).tdiv r169)).tdiv r259)) < (w64 ((boundsS u0).2.tdiv (w64 (x11.tdiv r214)))))) = false →
                        ((((decide ((w64 ((w64 ((w64 ((w64 (u1 - (w64 (u0.Add * u2)))).tdiv r169)).tdiv r259)) * (w64 (x11.tdiv r214)))) < (boundsS u0).1)) || (decide ((w64 ((w64 ((w64 ((w64 (u1 - (w64 (u0.Add * u2)))).tdiv r169)).tdiv r259)) * (w64 (x11.tdiv r214)))) > (boundsS u0).2))) = true →
                          (K (0, 3))) ∧
                        (((decide ((w64 ((w64 ((w64 ((w64 (u1 - (w64 (u0.Add * u2)))).tdiv r169)).tdiv r259)) * (w64 (x11.tdiv r214)))) < (boundsS u0).1)) || (decide ((w64 ((w64 ((w64 ((w64 (u1 - (w64 (u0.Add * u2)))).tdiv r169)).tdiv r259)) * (w64 (x11.tdiv r214)))) > (boundsS u0).2))) = false →
                          (K (w64 ((w64 ((w64 ((w64 (u1 - (w64 (u0.Add * u2)))).tdiv r169)).tdiv r259)) * (w64 (x11.tdiv r214))), 0)))))))) ∧
                    (((decide ((w64 ((w64 ((w64 (u1 - (w64 (u0.Add * u2)))).tdiv r169)).tdiv r259)) < 0)) && (decide ((w64 (x11.tdiv r214)) < 0))) = false →
                      ((((decide ((w64 ((w64 ((w64 ((w64 (u1 - (w64 (u0.Add * u2)))).tdiv r169)).tdiv r259)) * (w64 (x11.tdiv r214)))) < (boundsS u0).1)) || (decide ((w64 ((w64 ((w64 ((w64 (u1 - (w64 (u0.Add * u2)))).tdiv r169)).tdiv r259)) * (w64 (x11.tdiv r214)))) > (boundsS u0).2))) = true →
                        (K (0, 3))) ∧
                      (((decide ((w64 ((w64 ((w64 ((w64 (u1 - (w64 (u0.Add * u2)))).tdiv r169)).tdiv r259)) * (w64 (x11.tdiv r214)))) < (boundsS u0).1)) || (decide ((w64 ((w64 ((w64 ((w64 (u1 - (w64 (u0.Add * u2)))).tdiv r169)).tdiv r259)) * (w64 (x11.tdiv r214)))) > (boundsS u0).2))) = false →
                        (K (w64 ((w64 ((w64 ((w64 (u1 - (w64 (u0.Add * u2)))).tdiv r169)).tdiv r259)) * (w64 (x11.tdiv r214))), 0)))))))))))) ∧
              (((decide ((w64 ((w64 ((w64 (u1 - (w64 (u0.Add * u2)))).tdiv r169)).tdiv r259)) < 0)) && (decide ((w64 (x11.tdiv r214)) > 0))) = false →
                ((((decide ((w64 ((w64 ((w64 (u1 - (w64 (u0.Add * u2)))).tdiv r169)).tdiv r259)) > 0)) && (decide ((w64 (x11.tdiv r214)) < 0))) = true →
                  ((w64 (x11.tdiv r214) ≠ 0) ∧
                  (((decide ((w64 ((w64 ((w64 (u1 - (w64 (u0.Add * u2)))).tdiv r169)).tdiv r259)) > (w64 ((boundsS u0).1.tdiv (w64 (x11.tdiv r214)))))) = true →
                    (K (0, 3))) ∧
                  ((decide ((w64 ((w64 ((w64 (u1 - (w64 (u0.Add * u2)))).tdiv r169)).tdiv r259)) > (w64 ((boundsS u0).1.tdiv (w64 (x11.tdiv r214)))))) = false →
                    ((((decide ((w64 ((w64 ((w64 (u1 - (w64 (u0.Add * u2)))).tdiv r169)).tdiv r259)) < 0)) && (decide ((w64 (x11.tdiv r214)) < 0))) = true →
                      ((w64 (x11.tdiv r214) ≠ 0) ∧
                      (((decide ((w64 ((w64 ((w64 (u1 - (w64 (u0.Add * u2)))).tdiv r169)).tdiv r259)) < (w64 ((boundsS u0).2.tdiv (w64 (x11.tdiv r214)))))) = true →
                        (K (0, 3))) ∧
                      ((decide ((w64 ((w64 ((w64 (u1 - (w64 (u0.Add * u2)))).tdiv r169)).tdiv r259)) < (w64 ((boundsS u0).2.tdiv (w64 (x11.tdiv r214)))))) = false →
                        ((((decide ((w64 ((w64 ((w64 ((w64 (u1 - (w64 (u0.Add * u2)))).tdiv r169)).tdiv r259)) * (w64 (x11.tdiv r214)))) < (boundsS u0).1)) || (decide ((w64 ((w64 ((w64 ((w64 (u1 - (w64 (u0.Add * u2)))).tdiv r169)).tdiv r259)) * (w64 (x11.tdiv r214)))) > (boundsS u0).2))) = true →
                          (K (0, 3))) ∧
                        (((decide ((w64 ((w64 ((w64 ((w64 (u1 - (w64 (u0.Add * u2)))).tdiv r169)).tdiv r259)) * (w64 (x11.tdiv r214)))) < (boundsS u0).1)) || (decide ((w64 ((w64 ((w64 ((w64 (u1 - (w64 (u0.Add * u2)))).tdiv r169)).tdiv r259)) * (w64 (x11.tdiv r214)))) > (boundsS u0).2))) = false →
                          (K (w64 ((w64 ((w64 ((w64 (u1 - (w64 (u0.Add * u2)))).tdiv r169)).tdiv r259)) * (w64 (x11.tdiv r214))), 0)))))))) ∧
                    (((decide ((w64 ((w64 ((w64 (u1 - (w64 (u0.Add * u2)))).tdiv r169)).tdiv r259)) < 0)) && (decide ((w64 (x11.tdiv r214)) < 0))) = false →
                      ((((decide ((w64 ((w64 ((w64 ((w64 (u1 - (w64 (u0.Add * u2)))).tdiv r169)).tdiv r259)) * (w64 (x11.tdiv r214)))) < (boundsS u0).1)) || (decide ((w64 ((w64 ((w64 ((w64 (u1 - (w64 (u0.Add * u2)))).tdiv r169)).tdiv r259)) * (w64 (x11.tdiv r214)))) > (boundsS u0).2))) = true →
                        (K (0, 3))) ∧
                      (((decide ((w64 ((w64 ((w64 ((w64 (u1 - (w64 (u0.Add * u2)))).tdiv r169)).tdiv r259)) * (w64 (x11.tdiv r214)))) < (boundsS u0).1)) || (decide ((w64 ((w64 ((w64 ((w64 (u1 - (w64 (u0.Add * u2)))).tdiv r169)).tdiv r259)) * (w64 (x11.tdiv r214)))) > (boundsS u0).2))) = false →
                        (K (w64 ((w64 ((w64 ((w64 (u1 - (w64 (u0.Add * u2)))).tdiv r169)).tdiv r259)) * (w64 (x11.tdiv r214))), 0)))))))))) ∧
                (((decide ((w64 ((w64 ((w64 (u1 - (w64 (u0.Add * u2)))).tdiv r169)).tdiv r259)) > 0)) && (decide ((w64 (x11.tdiv r214)) < 0))) = false →
                  ((((decide ((w64 ((w64 ((w64 (u1 - (w64 (u0.Add * u2)))).tdiv r169)).tdiv r259)) < 0)) && (decide ((w64 (x11.tdiv r214)) < 0))) = true →
                    ((w64 (x11.tdiv r214) ≠ 0) ∧
                    (((decide ((w64 ((w64 ((w64 (u1 - (w64 (u0.Add * u2)))).tdiv r169)).tdiv r259)) < (w64 ((boundsS u0).2.tdiv (w64 (x11.tdiv r214)))))) = true →
                      (K (0, 3))) ∧
                    ((decide ((w64 ((w64 ((w64 (u1 - (w64 (u0.Add * u2)))).tdiv r169)).tdiv r259)) < (w64 ((boundsS u0).2.tdiv (w64 (x11.tdiv r214)))))) = false →
                      ((((decide ((w64 ((w64 ((w64 ((w64 (u1 - (w64 (u0.Add * u2)))).tdiv r169)).tdiv r259)) * (w64 (x11.tdiv r214)))) < (boundsS u0).1)) || (decide ((w64 ((w64 ((w64 ((w64 (u1 - (w64 (u0.Add * u2)))).tdiv r169)).tdiv r259)) * (w64 (x11.tdiv r214)))) > (boundsS u0).2))) = true →
                        (K (0, 3))) ∧
                      (((decide ((w64 ((w64 ((w64 ((w64 (u1 - (w64 (u0.Add * u2)))).tdiv r169)).tdiv r259)) * (w64 (x11.tdiv r214)))) < (boundsS u0).1)) || (decide ((w64 ((w64 ((w64 ((w64 (u1 - (w64 (u0.Add * u2)))).tdiv r169)).tdiv r259)) * (w64 (x11.tdiv r214)))) > (boundsS u0).2))) = false →
                        (K (w64 ((w64 ((w64 ((w64 (u1 - (w64 (u0.Add * u2)))).tdiv r169)).tdiv r259)) * (w64 (x11.tdiv r214))), 0)))))))) ∧
                  (((decide ((w64 ((w64 ((w64 (u1 - (w64 (u0.Add * u2)))).tdiv r169)).tdiv r259)) < 0)) && (decide ((w64 (x11.tdiv r214)) < 0))) = false →
                    ((((decide ((w64 ((w64 ((w64 ((w64 (u1 - (w64 (u0.Add * u2)))).tdiv r169)).tdiv r259)) * (w64 (x11.tdiv r214)))) < (boundsS u0).1)) || (decide ((w64 ((w64 ((w64 ((w64 (u1 - (w64 (u0.Add * u2)))).tdiv r169)).tdiv r259)) * (w64 (x11.tdiv r214)))) > (boundsS u0).2))) = true →
                      (K (0, 3))) ∧
                    (((decide ((w64 ((w64 ((w64 ((w64 (u1 - (w64 (u0.Add * u2)))).tdiv r169)).tdiv r259)) * (w64 (x11.tdiv r214)))) < (boundsS u0).1)) || (decide ((w64 ((w64 ((w64 ((w64 (u1 - (w64 (u0.Add * u2)))).tdiv r169)).tdiv r259)) * (w64 (x11.tdiv r214)))) > (boundsS u0).2))) = false →
                      (K (w64 ((w64 ((w64 ((w64 (u1 - (w64 (u0.Add * u2)))).tdiv r169)).tdiv r259)) * (w64 (x11.tdiv r214))), 0)))))))))))))))))))))))))))))))))

/-! Pure proofs: no program in sight. -/
theorem bounds_small (s : Signal) (h : 1 ≤ s.Size ∧ s.Size ≤ 40) : (-1099511627776 ≤ lowS s ∧ lowS s ≤ 0) ∧ 0 ≤ highS s ∧ highS s ≤ 1099511627776 := by
  have b : ∀ k : Nat, k ≤ 40 → 1 ≤ (2 : Int) ^ k ∧ (2 : Int) ^ k ≤ 1099511627776 := fun k hk => by
    have h1 : 1 ≤ 2 ^ k ∧ 2 ^ k ≤ 1099511627776 := ⟨Nat.one_le_two_pow, Nat.pow_le_pow_right (by omega : 0 < 2) hk⟩
    have c : ((2 ^ k : Nat) : Int) = (2 : Int) ^ k := by norm_cast
    rw [← c]
    omega
  have b1 := b (s.Size.toNat - 1) (by omega)
  have b2 := b s.Size.toNat (by omega)
  unfold lowS highS
  split <;> omega
theorem nzpp {v a : Int} (c : ((decide (v > 0)) && (decide (a > 0))) = true) : a ≠ 0 := by rw [Bool.and_eq_true, decide_eq_true_eq, decide_eq_true_eq] at c; omega
theorem nznp {v a : Int} (c : ((decide (v < 0)) && (decide (a > 0))) = true) : a ≠ 0 := by rw [Bool.and_eq_true, decide_eq_true_eq, decide_eq_true_eq] at c; omega
theorem nzpn {v a : Int} (c : ((decide (v > 0)) && (decide (a < 0))) = true) : a ≠ 0 := by rw [Bool.and_eq_true, decide_eq_true_eq, decide_eq_true_eq] at c; omega
theorem nznn {v a : Int} (c : ((decide (v < 0)) && (decide (a < 0))) = true) : a ≠ 0 := by rw [Bool.and_eq_true, decide_eq_true_eq, decide_eq_true_eq] at c; omega
theorem tdiv_nz {a g : Int} (ha : a ≠ 0) (hd : g ∣ a) : a.tdiv g ≠ 0 := by
  intro h
  have := Int.tdiv_mul_cancel hd
  rw [h, Int.zero_mul] at this
  exact ha this.symm
set_option maxHeartbeats 4000000 in
theorem sraw_ok (s : Signal) (num den : Int) : sraw_vc s num den (fun r => r = rawS s num den) := by
  refine ⟨fun h => ?_, fun h => ⟨fun h1 => ?_, fun h1 => ?_⟩⟩
  · have h : checkS s 64 ≠ 0 := by simpa using h
    unfold rawS
    rw [if_pos h]
  all_goals
    have h : checkS s 64 = 0 := by simpa using h
  · unfold rawS
    rw [if_neg (by rw [h]; decide), if_pos (by simpa [or_assoc] using h1)]
  have h1 : ¬ (den < 1 ∨ 1000000 < den ∨ 1099511627776 < num ∨ num < -1099511627776) := by simp only [Bool.or_eq_false_iff, decide_eq_false_iff_not] at h1; omega
  have hR : ∀ (x : Int) (ok : Bool), rawN s.Mul s.Div s.Add num den = (x, ok) → rawS s num den = if ok = false then (0, 4) else if x < lowS s ∨ highS s < x then (0, 3) else (x, 0) := by
    intro x ok hx
    unfold rawS
    rw [if_neg (by rw [h]; decide), if_neg h1, hx]
  have hN : rawN s.Mul s.Div s.Add num den = rawN s.Mul s.Div s.Add num den := rfl
  conv at hN => rhs; unfold rawN
  dsimp only at hN
  obtain ⟨⟨_, _, hs1, hs2⟩, ⟨f1, f2, f3, f4, f5, f6, f7⟩, _, _⟩ := check_zero h
  obtain ⟨⟨lo1, lo2⟩, hi1, hi2⟩ := bounds_small s ⟨hs1, hs2⟩
  have hA := mul_abs (a := s.Add) (b := den) (A := 1000000) (B := 1000000) ⟨f6, f7⟩ ⟨by omega, by omega⟩
  have e1 : w64 (s.Add * den) = s.Add * den := w64_eq _ (by omega)
  have e2 : w64 (num - s.Add * den) = num - s.Add * den := w64_eq _ (by omega)
  rw [e1, e2]
  have hup : -2200000000000 ≤ num - s.Add * den ∧ num - s.Add * den ≤ 2200000000000 := by omega
  generalize num - s.Add * den = up at *
  refine sgcd_mono (fun g hg => ?_) (sgcd_ok s.Div s.Mul ⟨by omega, by omega⟩)
  rw [← hg] at hN
  have g0 : g ≠ 0 := by have := ngcd_pos (a := s.Div) f1; omega
  have gm : g ∣ s.Mul := by rw [hg]; exact ngcd_right _ _
  have t1 := tdiv_abs s.Div g
  have t2 := tdiv_abs s.Mul g
  have n2 := tdiv_nz f1 gm
  rw [w64_eq (s.Div.tdiv g) (by omega), w64_eq (s.Mul.tdiv g) (by omega), w64_eq (0 - s.Div.tdiv g) (by omega), w64_eq (0 - s.Mul.tdiv g) (by omega), Int.zero_sub, Int.zero_sub]
  refine ⟨g0, g0, fun x y => x = (if s.Mul.tdiv g < 0 then -(s.Div.tdiv g) else s.Div.tdiv g) ∧ y = (if s.Mul.tdiv g < 0 then -(s.Mul.tdiv g) else s.Mul.tdiv g), ⟨fun c => ?_, fun c => ?_⟩, ?_⟩
  · have c := of_decide_eq_true c
    rw [if_pos c, if_pos c]
    exact ⟨rfl, rfl⟩
  · have c := of_decide_eq_false c
    rw [if_neg c, if_neg c]
    exact ⟨rfl, rfl⟩
  rintro x y ⟨hx, hy⟩
  rw [← hx, ← hy] at hN
  have bx : -1000000 ≤ x ∧ x ≤ 1000000 := by rw [hx]; split <;> omega
  have by2 : -1000000 ≤ y ∧ y ≤ 1000000 := by rw [hy]; split <;> omega
  have y0 : y ≠ 0 := by rw [hy]; split <;> omega
  clear hx hy
  refine sgcd_mono (fun k hk => ?_) (sgcd_ok up den ⟨by omega, by omega⟩)
  rw [← hk] at hN
  have k0 : k ≠ 0 := by have := ngcd_pos (a := up) (b := den) (by omega); omega
  have kd : k ∣ den := by rw [hk]; exact ngcd_right _ _
  have t3 := tdiv_abs up k
  have t4 := tdiv_abs den k
  have n4 := tdiv_nz (by omega : den ≠ 0) kd
  rw [w64_eq (up.tdiv k) (by omega), w64_eq (den.tdiv k) (by omega)]
  clear hk
  generalize up.tdiv k = up1 at *
  generalize den.tdiv k = den1 at *
  refine ⟨k0, k0, ?_⟩
  refine sgcd_mono (fun l hl => ?_) (sgcd_ok x den1 ⟨by omega, by omega⟩)
  rw [← hl] at hN
  have l0 : l ≠ 0 := by have := ngcd_pos (a := x) n4; omega
  refine ⟨l0, l0, ?_⟩
  refine sgcd_mono (fun m hm => ?_) (sgcd_ok up1 y ⟨by omega, by omega⟩)
  rw [← hm] at hN
  have m0 : m ≠ 0 := by have := ngcd_pos (a := up1) y0; omega
  refine ⟨m0, m0, ?_⟩
  have t5 := tdiv_abs den1 l
  have t6 := tdiv_abs up1 m
  have t7 := tdiv_abs x l
  have t8 := tdiv_abs y m
  rw [w64_eq (den1.tdiv l) (by omega), w64_eq (up1.tdiv m) (by omega), w64_eq (x.tdiv l) (by omega), w64_eq (y.tdiv m) (by omega)]
  have bv2 : -2200000000000 ≤ up1.tdiv m ∧ up1.tdiv m ≤ 2200000000000 := by omega
  have ba2 : -1000000 ≤ x.tdiv l ∧ x.tdiv l ≤ 1000000 := by omega
  clear t3 t4 t5 t6 t7 t8 hl hm
  generalize den1.tdiv l = den2 at *
  generalize y.tdiv m = b1 at *
  generalize up1.tdiv m = v at *
  generalize x.tdiv l = a at *
  replace hR := hR _ _ hN
  clear hN
  refine ⟨fun c => ?_, fun c => ⟨⟨hs1, hs2⟩, ?_⟩⟩
  · rw [hR, if_pos]
    rw [Bool.or_eq_true, bne_iff_ne, bne_iff_ne] at c
    rw [Bool.and_eq_false_iff, beq_eq_false_iff_ne, beq_eq_false_iff_ne]
    exact c
  rw [if_neg (by rw [Bool.or_eq_false_iff, bne_eq_false_iff_eq, bne_eq_false_iff_eq] at c; rw [c.1, c.2]; decide)] at hR
  have hva := mul_abs bv2 ba2
  have eva : w64 (v * a) = v * a := w64_eq _ (by omega)
  have q1 := tdiv_abs (highS s) a
  have q2 := tdiv_abs (lowS s) a
  have eh : w64 ((boundsS s).2.tdiv a) = (highS s).tdiv a := w64_eq _ (by show _ ≤ (highS s).tdiv a ∧ (highS s).tdiv a ≤ _; omega)
  have el : w64 ((boundsS s).1.tdiv a) = (lowS s).tdiv a := w64_eq _ (by show _ ≤ (lowS s).tdiv a ∧ (lowS s).tdiv a ≤ _; omega)
  rw [eva, eh, el]
  have hout : ∀ hc : (0 < v ∧ 0 < a ∧ (highS s).tdiv a < v) ∨ (v < 0 ∧ 0 < a ∧ v < (lowS s).tdiv a) ∨ (0 < v ∧ a < 0 ∧ (lowS s).tdiv a < v) ∨ (v < 0 ∧ a < 0 ∧ v < (highS s).tdiv a), ((0 : Int), (3 : Int)) = rawS s num den := by
    intro hc
    have := raw_range lo2 hi1 hc
    rw [hR, if_pos (by omega)]
  have o1 : ((decide (v > 0)) && (decide (a > 0))) = true → (decide (v > (highS s).tdiv a)) = true → ((0 : Int), (3 : Int)) = rawS s num den := by
    intro c d
    rw [Bool.and_eq_true, decide_eq_true_eq, decide_eq_true_eq] at c
    exact hout (.inl ⟨c.1, c.2, of_decide_eq_true d⟩)
  have o2 : ((decide (v < 0)) && (decide (a > 0))) = true → (decide (v < (lowS s).tdiv a)) = true → ((0 : Int), (3 : Int)) = rawS s num den := by
    intro c d
    rw [Bool.and_eq_true, decide_eq_true_eq, decide_eq_true_eq] at c
    exact hout (.inr (.inl ⟨c.1, c.2, of_decide_eq_true d⟩))
  have o3 : ((decide (v > 0)) && (decide (a < 0))) = true → (decide (v > (lowS s).tdiv a)) = true → ((0 : Int), (3 : Int)) = rawS s num den := by
    intro c d
    rw [Bool.and_eq_true, decide_eq_true_eq, decide_eq_true_eq] at c
    exact hout (.inr (.inr (.inl ⟨c.1, c.2, of_decide_eq_true d⟩)))
  have o4 : ((decide (v < 0)) && (decide (a < 0))) = true → (decide (v < (highS s).tdiv a)) = true → ((0 : Int), (3 : Int)) = rawS s num den := by
    intro c d
    rw [Bool.and_eq_true, decide_eq_true_eq, decide_eq_true_eq] at c
    exact hout (.inr (.inr (.inr ⟨c.1, c.2, of_decide_eq_true d⟩)))
  have hfin : ((((decide (v * a < (boundsS s).1)) || (decide (v * a > (boundsS s).2))) = true → ((0 : Int), (3 : Int)) = rawS s num den) ∧ (((decide (v * a < (boundsS s).1)) || (decide (v * a > (boundsS s).2))) = false → (v * a, (0 : Int)) = rawS s num den)) := by
    refine ⟨fun c => ?_, fun c => ?_⟩
    · rw [Bool.or_eq_true, decide_eq_true_eq, decide_eq_true_eq] at c
      have c : v * a < lowS s ∨ highS s < v * a := c
      rw [hR, if_pos c]
    · rw [Bool.or_eq_false_iff, decide_eq_false_iff_not, decide_eq_false_iff_not] at c
      have c1 : ¬ v * a < lowS s := c.1
      have c2 : ¬ highS s < v * a := c.2
      rw [hR, if_neg (by rintro (hh | hh); exact c1 hh; exact c2 hh)]
  exact ⟨fun c => ⟨nzpp c, fun d => o1 c d, fun _ => ⟨fun c => ⟨nznp c, fun d => o2 c d, fun _ => ⟨fun c => ⟨nzpn c, fun d => o3 c d, fun _ => ⟨fun c => ⟨nznn c, fun d => o4 c d, fun _ => hfin⟩, fun _ => hfin⟩⟩, fun _ => ⟨fun c => ⟨nznn c, fun d => o4 c d, fun _ => hfin⟩, fun _ => hfin⟩⟩⟩, fun _ => ⟨fun c => ⟨nzpn c, fun d => o3 c d, fun _ => ⟨fun c => ⟨nznn c, fun d => o4 c d, fun _ => hfin⟩, fun _ => hfin⟩⟩, fun _ => ⟨fun c => ⟨nznn c, fun d => o4 c d, fun _ => hfin⟩, fun _ => hfin⟩⟩⟩⟩, fun _ => ⟨fun c => ⟨nznp c, fun d => o2 c d, fun _ => ⟨fun c => ⟨nzpn c, fun d => o3 c d, fun _ => ⟨fun c => ⟨nznn c, fun d => o4 c d, fun _ => hfin⟩, fun _ => hfin⟩⟩, fun _ => ⟨fun c => ⟨nznn c, fun d => o4 c d, fun _ => hfin⟩, fun _ => hfin⟩⟩⟩, fun _ => ⟨fun c => ⟨nzpn c, fun d => o3 c d, fun _ => ⟨fun c => ⟨nznn c, fun d => o4 c d, fun _ => hfin⟩, fun _ => hfin⟩⟩, fun _ => ⟨fun c => ⟨nznn c, fun d => o4 c d, fun _ => hfin⟩, fun _ => hfin⟩⟩⟩⟩

end Go.Proofs.YtdndfbamhnchfaaDoor
set_option linter.unusedVariables false
set_option linter.unusedSimpArgs false
namespace Go.Proofs.YtdndfbamhnchfaaDoor
open Go.Sy Go.RowKit
def iisnan_vc (u0 : Int) (K : Bool → Prop) : Prop :=
  (K (u0 != u0))
def iisnan (u0 : Int) : Bool :=
  u0 != u0
theorem iisnan_ok (u0 : Int) : iisnan_vc u0 (fun r => r = iisnan u0) := (by rfl)

def swrite_vc (u0 : Signal) (u1 : List Int) (u2 : Int) (u3 : Int) (K : ((List Int) × Int) → Prop) : Prop :=
  (u1.length ≤ 140737488355328 →
    ((((checkS u0 (u1.length : Int)) != 0) = true →
      (K (([] : List Int), (checkS u0 (u1.length : Int))))) ∧
    (((checkS u0 (u1.length : Int)) != 0) = false →
      ((((rawS u0 u2 u3).2 != 0) = true →
        (K (([] : List Int), (rawS u0 u2 u3).2))) ∧
      (((rawS u0 u2 u3).2 != 0) = false →
        ((u1.length ≤ 140737488355328) ∧
        ((bcloneS u1).length ≤ 140737488355328 →
        ((inD u0 (bcloneS u1)) ∧
        ((putS u0 (bcloneS u1) (rawS u0 u2 u3).1).length ≤ 140737488355328 →
        (K ((putS u0 (bcloneS u1) (rawS u0 u2 u3).1), 0)))))))))))

def sread_vc (u0 : Signal) (u1 : List Int) (K : (Int × Reading × Int) → Prop) : Prop :=
  (u1.length ≤ 140737488355328 →
    ((((checkS u0 (u1.length : Int)) != 0) = true →
      (K (0, (⟨[], 0, 0⟩ : Reading), (checkS u0 (u1.length : Int))))) ∧
    (((checkS u0 (u1.length : Int)) != 0) = false →
      ((inD u0 u1) ∧
      ((factS u0 ∧ -1099511627776 ≤ (getS u0 u1) ∧ (getS u0 u1) ≤ 1099511627776) ∧
      (K ((getS u0 u1), (meanS u0 (getS u0 u1)), 0)))))))

/-! Pure proofs: no program in sight. -/
theorem re3m {P : Program} {n : Nat} {β : List Bool} {L : List En} {a : Act} {w : World} (hF : Fr n β L a) {fn : Func} {p t u : Tmp} {ty : TypeId} {ad : Addr} (h : fn.results = #[.tmp t, .cell p ty, .tmp u]) {v x y : Value} (hp : ev L [] a (.tmp p) = .pointer (some ad)) (hl : (loadVar ty ad).run P w = .ok v w) (hx : ev L [] a (.tmp t) = x) (hy : ev L [] a (.tmp u) = y) :
    (results fn a.tmps).run P w = .ok (.tuple #[x, v, y]) w := by
  rw [ev_eq hF (g := []) rfl] at hp hx hy; subst hx; subst hy
  simp only [Act.eval, Array.getD_eq_getD_getElem?] at hp
  simp [results, h, hp, asAddr, hl, Act.eval]
theorem inD_of {s : Signal} {d : List Int} (hd : isBytes d) (h : checkS s d.length = 0) : inD s d := by
  obtain ⟨h1, h2, h3, h4⟩ := check_zero h
  exact ⟨⟨⟨h3.1, by omega⟩, h1.2.2.1, h1.2.2.2⟩, hd, fun p hp => by have := h4 p hp; omega⟩
theorem get_bound {s : Signal} {d : List Int} (h : 1 ≤ s.Size ∧ s.Size ≤ 40) : -1099511627776 ≤ getS s d ∧ getS s d ≤ 1099511627776 := by
  have hv := vb_lt ((plS s).map (bitat d))
  rw [List.length_map, plS_len] at hv
  have hb : 2 ^ s.Size.toNat ≤ 1099511627776 := Nat.pow_le_pow_right (by omega : 0 < 2) (by omega : s.Size.toNat ≤ 40)
  have c : ((2 ^ s.Size.toNat : Nat) : Int) = (2 : Int) ^ s.Size.toNat := by norm_cast
  unfold getS sgn
  rw [← c]
  split <;> omega
theorem swrite_ok (s : Signal) (d : List Int) (num den : Int) (hd : isBytes d) : swrite_vc s d num den (fun r => r = swriteS s d num den) := by
  intro hl
  unfold swriteS
  refine ⟨fun h => ?_, fun h => ⟨fun h1 => ?_, fun h1 => ?_⟩⟩
  · rw [if_pos (by simpa using h)]
  · rw [if_neg (by simpa using h), if_pos (by simpa using h1)]
  · rw [if_neg (by simpa using h), if_neg (by simpa using h1)]
    have h0 : checkS s d.length = 0 := by simpa using h
    exact ⟨hl, fun _ => ⟨inD_of hd h0, fun _ => rfl⟩⟩
theorem sread_ok (s : Signal) (d : List Int) (hd : isBytes d) : sread_vc s d (fun r => r = sreadS s d) := by
  intro hl
  unfold sreadS
  refine ⟨fun h => ?_, fun h => ?_⟩
  · rw [if_pos (by simpa using h)]
  · have h0 : checkS s d.length = 0 := by simpa using h
    obtain ⟨h1, h2, _⟩ := check_zero h0
    have hb := get_bound (s := s) (d := d) h1.2.2
    rw [if_neg (by simpa using h)]
    exact ⟨inD_of hd h0, ⟨h2, hb.1, hb.2⟩, rfl⟩

end Go.Proofs.YtdndfbamhnchfaaDoor
set_option linter.unusedVariables false
set_option linter.unusedSimpArgs false
namespace Go.Proofs.YtdndfbamhnchfaaDoor
open Go.Sy Go.RowKit
def icmp_vc (u0 : Int) (u1 : Int) (K : Int → Prop) : Prop :=
  (((iisnan u0) = true →
      (((iisnan u1) = true →
        (K 0)) ∧
      ((iisnan u1) = false →
        (K (-1))))) ∧
    ((iisnan u0) = false →
      (((iisnan u1) = true →
        (K 1)) ∧
      ((iisnan u1) = false →
        (((decide (u0 < u1)) = true →
          (K (-1))) ∧
        ((decide (u0 < u1)) = false →
          (((decide (u0 > u1)) = true →
            (K 1)) ∧
          ((decide (u0 > u1)) = false →
            (K 0)))))))))

/-! Pure proofs: no program in sight. -/
def isortS (l : List Int) : List Int := l.mergeSort fun x y => decide (x ≤ y)
theorem isort_len (l : List Int) : (isortS l).length = l.length := List.length_mergeSort l
def icmpS (a b : Int) : Int := if a < b then -1 else if a > b then 1 else 0
theorem icmp_ok (a b : Int) : icmp_vc a b (fun r => r = icmpS a b) := by
  have hn : ∀ x : Int, iisnan x = false := fun x => by unfold iisnan; simp
  unfold icmp_vc icmpS
  rw [hn, hn]
  refine ⟨fun h => (by cases h), fun _ => ⟨fun h => (by cases h), fun _ => ⟨fun h => ?_, fun h => ⟨fun h2 => ?_, fun h2 => ?_⟩⟩⟩⟩
  · rw [if_pos (of_decide_eq_true h)]
  · rw [if_neg (of_decide_eq_false h), if_pos (of_decide_eq_true h2)]
  · rw [if_neg (of_decide_eq_false h), if_neg (of_decide_eq_false h2)]

end Go.Proofs.YtdndfbamhnchfaaDoor
set_option linter.unusedVariables false
set_option linter.unusedSimpArgs false
namespace Go.Proofs.YtdndfbamhnchfaaDoor
open Go.Sy Go.RowKit
def sover_vc (u0 : Signal) (u1 : Signal) (K : Bool → Prop) : Prop :=
  (((((checkS u0 64) != 0) || ((checkS u1 64) != 0)) = true →
      (K false)) ∧
    ((((checkS u0 64) != 0) || ((checkS u1 64) != 0)) = false →
      (((0 ≤ u0.Start ∧ u0.Start ≤ 512) ∧ 1 ≤ u0.Size ∧ u0.Size ≤ 40) ∧
      (((0 ≤ u1.Start ∧ u1.Start ≤ 512) ∧ 1 ≤ u1.Size ∧ u1.Size ≤ 40) ∧
      ((isortS (placesS u0)).length ≤ 140737488355328 →
      ((isortS (placesS u1)).length ≤ 140737488355328 →
      (∃ inv107 : (List Int) → (List Int) → Prop, ∃ mu107 : (List Int) → (List Int) → Nat, inv107 (isortS (placesS u0)) (isortS (placesS u1)) ∧
      (∀ (x5 : List Int) (x6 : List Int), inv107 x5 x6 →
      ((((decide ((x5.length : Int) > 0)) && (decide ((x6.length : Int) > 0))) = true →
        ((0 ≤ (0 : Int) ∧ (0 : Int) < (x5.length : Int)) ∧
        (∀ q163, x5[(0 : Int).toNat]? = some q163 →
        ((0 ≤ (0 : Int) ∧ (0 : Int) < (x6.length : Int)) ∧
        (∀ q182, x6[(0 : Int).toNat]? = some q182 →
        ((((icmpS q163 q182) == 0) = true →
          (K true)) ∧
        (((icmpS q163 q182) == 0) = false →
          (((decide ((icmpS q163 q182) < 0)) = true →
            ((0 ≤ (1 : Int) ∧ (1 : Int) ≤ (x5.length : Int)) ∧
            (inv107 (x5.drop (1 : Int).toNat) x6 ∧ mu107 (x5.drop (1 : Int).toNat) x6 < mu107 x5 x6))) ∧
          ((decide ((icmpS q163 q182) < 0)) = false →
            ((0 ≤ (1 : Int) ∧ (1 : Int) ≤ (x6.length : Int)) ∧
            (inv107 x5 (x6.drop (1 : Int).toNat) ∧ mu107 x5 (x6.drop (1 : Int).toNat) < mu107 x5 x6))))))))))) ∧
      (((decide ((x5.length : Int) > 0)) && (decide ((x6.length : Int) > 0))) = false →
        (K false)))))))))))

/-! Pure proofs: no program in sight. -/
def Common (x y : List Int) : Prop := ∃ p, p ∈ x ∧ p ∈ y
theorem isort_up (l : List Int) : (isortS l).Pairwise (· ≤ ·) := by
  have h := List.pairwise_mergeSort (le := fun x y : Int => decide (x ≤ y)) (fun a b c h1 h2 => by rw [decide_eq_true_eq] at *; omega) (fun a b => by rw [Bool.or_eq_true, decide_eq_true_eq, decide_eq_true_eq]; omega) l
  exact h.imp (fun hh => of_decide_eq_true hh)
theorem isort_mem (l : List Int) (p : Int) : p ∈ isortS l ↔ p ∈ l := List.mem_mergeSort
theorem over_common {s t : Signal} (h1 : checkS s 64 = 0) (h2 : checkS t 64 = 0) : overS s t = true ↔ Common (placesS s) (placesS t) := by
  unfold overS
  rw [if_neg (by rw [h1, h2]; simp), List.any_eq_true]
  unfold Common placesS
  constructor
  · rintro ⟨p, hp, hq⟩
    exact ⟨p, List.mem_map.2 ⟨p, hp, rfl⟩, List.mem_map.2 ⟨p, by simpa using hq, rfl⟩⟩
  · rintro ⟨q, hp, hq⟩
    obtain ⟨a, ha, rfl⟩ := List.mem_map.1 hp
    obtain ⟨b, hb, e⟩ := List.mem_map.1 hq
    have e : b = a := by have e : (b : Int) = (a : Int) := e; omega
    subst e
    exact ⟨b, ha, by simpa using hb⟩
theorem sover_ok (s t : Signal) : sover_vc s t (fun r => r = overS s t) := by
  refine ⟨fun h => ?_, fun h => ?_⟩
  · unfold overS
    rw [if_pos (by simpa using h)]
  · have h1 : checkS s 64 = 0 ∧ checkS t 64 = 0 := by simpa using h
    obtain ⟨a1, a2, a3, a4⟩ := check_zero h1.1
    obtain ⟨b1, b2, b3, b4⟩ := check_zero h1.2
    have hov := over_common h1.1 h1.2
    refine ⟨⟨⟨a3.1, by omega⟩, a1.2.2⟩, ⟨⟨b3.1, by omega⟩, b1.2.2⟩, fun _ _ => ⟨fun x y => x.Pairwise (· ≤ ·) ∧ y.Pairwise (· ≤ ·) ∧ (overS s t = true ↔ Common x y), fun x y => x.length + y.length, ⟨isort_up _, isort_up _, ?_⟩, ?_⟩⟩
    · rw [hov]
      unfold Common
      simp only [isort_mem]
    rintro x y ⟨hx, hy, hc⟩
    refine ⟨fun h2 => ?_, fun h2 => ?_⟩
    · rw [Bool.and_eq_true, decide_eq_true_eq, decide_eq_true_eq] at h2
      cases x with
      | nil => simp at h2
      | cons a r =>
        cases y with
        | nil => simp at h2
        | cons b q =>
          rw [List.pairwise_cons] at hx hy
          refine ⟨by simp only [List.length_cons]; omega, fun u hu => ⟨by simp only [List.length_cons]; omega, fun v hv => ?_⟩⟩
          have hu : a = u := by simpa using hu
          have hv : b = v := by simpa using hv
          subst hu hv
          unfold icmpS
          refine ⟨fun h3 => ?_, fun h3 => ⟨fun h4 => ?_, fun h4 => ?_⟩⟩
          · have e : a = b := by
              rw [beq_iff_eq] at h3
              split at h3
              · omega
              · split at h3 <;> omega
            exact (hc.2 ⟨a, List.mem_cons_self, by rw [e]; exact List.mem_cons_self⟩).symm
          · have hab : a < b := by
              have h4 := of_decide_eq_true h4
              split at h4
              · assumption
              · split at h4 <;> omega
            refine ⟨by simp only [List.length_cons]; omega, ⟨hx.2, List.pairwise_cons.2 hy, hc.trans ⟨?_, ?_⟩⟩, by (try dsimp only); simp only [List.length_cons, List.length_drop]; omega⟩
            · rintro ⟨p, hp, hq⟩
              rw [List.mem_cons] at hp
              rcases hp with rfl | hp
              · exfalso
                rw [List.mem_cons] at hq
                rcases hq with rfl | hq
                · omega
                · have := hy.1 _ hq; omega
              · exact ⟨p, hp, hq⟩
            · rintro ⟨p, hp, hq⟩
              exact ⟨p, List.mem_cons_of_mem _ hp, hq⟩
          · have hab : b < a := by
              have h4 := of_decide_eq_false h4
              rw [beq_eq_false_iff_ne] at h3
              split at h3
              · rename_i h5; rw [if_pos h5] at h4; omega
              · split at h3
                · assumption
                · omega
            refine ⟨by simp only [List.length_cons]; omega, ⟨List.pairwise_cons.2 hx, hy.2, hc.trans ⟨?_, ?_⟩⟩, by (try dsimp only); simp only [List.length_cons, List.length_drop]; omega⟩
            · rintro ⟨p, hp, hq⟩
              rw [List.mem_cons] at hq
              rcases hq with rfl | hq
              · exfalso
                rw [List.mem_cons] at hp
                rcases hp with rfl | hp
                · omega
                · have := hx.1 _ hp; omega
              · exact ⟨p, hp, hq⟩
            · rintro ⟨p, hp, hq⟩
              exact ⟨p, hp, List.mem_cons_of_mem _ hq⟩
    · cases ho : overS s t with
      | false => rfl
      | true =>
        obtain ⟨p, hp, hq⟩ := hc.1 ho
        rw [Bool.and_eq_false_iff, decide_eq_false_iff_not, decide_eq_false_iff_not] at h2
        rcases h2 with h2 | h2
        · cases x with
          | nil => cases hp
          | cons a r => simp only [List.length_cons] at h2; omega
        · cases y with
          | nil => cases hq
          | cons a r => simp only [List.length_cons] at h2; omega

end Go.Proofs.YtdndfbamhnchfaaDoor
set_option linter.unusedVariables false
set_option linter.unusedSimpArgs false
namespace Go.Proofs.YtdndfbamhnchfaaDoor
open Go.Sy Go.RowKit
def speed_vc  (K : Signal → Prop) : Prop :=
  (K (⟨([115, 112, 101, 101, 100] : List UInt8), 8, 16, false, false, 1, 10, 0, -1⟩ : Signal))
def speed  : Signal :=
  (⟨([115, 112, 101, 101, 100] : List UInt8), 8, 16, false, false, 1, 10, 0, -1⟩ : Signal)
theorem speed_ok  : speed_vc  (fun r => r = speed ) := (by rfl)

def signalled_vc  (K : Bool → Prop) : Prop :=
  ((isBytes ([0, 44, 1] : List Int)) ∧
    ((isBytes ([9, 0, 0] : List Int)) ∧
    ((swriteS speed ([9, 0, 0] : List Int) 30 1).1.length ≤ 140737488355328 →
    (((((((sreadS speed ([0, 44, 1] : List Int)).2.2 == 0) && ((swriteS speed ([9, 0, 0] : List Int) 30 1).2 == 0)) && ((sreadS speed ([0, 44, 1] : List Int)).1 == 300)) && (((sreadS speed ([0, 44, 1] : List Int)).2.1.Name == ([115, 112, 101, 101, 100] : List UInt8)) && (((sreadS speed ([0, 44, 1] : List Int)).2.1.Num == 30) && (((sreadS speed ([0, 44, 1] : List Int)).2.1.Den == 1) && true)))) = true →
      (K (beqS (swriteS speed ([9, 0, 0] : List Int) 30 1).1 ([9, 44, 1] : List Int)))) ∧
    ((((((sreadS speed ([0, 44, 1] : List Int)).2.2 == 0) && ((swriteS speed ([9, 0, 0] : List Int) 30 1).2 == 0)) && ((sreadS speed ([0, 44, 1] : List Int)).1 == 300)) && (((sreadS speed ([0, 44, 1] : List Int)).2.1.Name == ([115, 112, 101, 101, 100] : List UInt8)) && (((sreadS speed ([0, 44, 1] : List Int)).2.1.Num == 30) && (((sreadS speed ([0, 44, 1] : List Int)).2.1.Den == 1) && true)))) = false →
      (K false))))))

/-! Pure proofs: no program in sight. -/
theorem signalled_ok : signalled_vc (fun r => r = true) := by
  refine ⟨by unfold isBytes; decide, by unfold isBytes; decide, fun _ => ⟨fun _ => ?_, fun h => absurd h (by decide +kernel)⟩⟩
  show beqS (swriteS speed ([9, 0, 0] : List Int) 30 1).1 ([9, 44, 1] : List Int) = true
  decide +kernel

end Go.Proofs.YtdndfbamhnchfaaDoor
set_option linter.unusedVariables false
set_option linter.unusedSimpArgs false
namespace Go.Proofs.YtdndfbamhnchfaaDoor
open Go.Sy Go.RowKit
def sindex_vc (u0 : List Int) (u1 : Int) (K : Int → Prop) : Prop :=
  (u0.length ≤ 140737488355328 →
    (∃ inv16 : Int → Prop, ∃ mu16 : Int → Nat, inv16 0 ∧
    (∀ (x8 : Int), inv16 x8 →
    (((decide (x8 < (u0.length : Int))) = true →
      ((0 ≤ x8 ∧ x8 < (u0.length : Int)) ∧
      (∀ q51, u0[x8.toNat]? = some q51 →
      (((u1 == q51) = true →
        (K x8)) ∧
      ((u1 == q51) = false →
        (inv16 (w64 (x8 + 1)) ∧ mu16 (w64 (x8 + 1)) < mu16 x8)))))) ∧
    ((decide (x8 < (u0.length : Int))) = false →
      (K (-1)))))))
theorem sindex_mono {u0 : List Int} {u1 : Int} {K K1 : Int → Prop} (hK : ∀ r, K r → K1 r) (h : sindex_vc u0 u1 K) : sindex_vc u0 u1 K1 :=
  fun z0 => (Exists.elim (h z0) fun i1 e1 => Exists.elim e1 fun m1 g1 => ⟨i1, m1, g1.1, fun x8 z1 => ⟨fun c2 => ⟨((g1.2 x8 z1).1 c2).1, fun y4 z4 => ⟨fun c5 => hK _ ((((g1.2 x8 z1).1 c2).2 y4 z4).1 c5), fun c5 => ((((g1.2 x8 z1).1 c2).2 y4 z4).2 c5)⟩⟩, fun c2 => hK _ ((g1.2 x8 z1).2 c2)⟩⟩)

def scontains_vc (u0 : List Int) (u1 : Int) (K : Bool → Prop) : Prop :=
  (u0.length ≤ 140737488355328 →
    (sindex_vc u0 u1 fun r13 =>
    (K (decide (r13 ≥ 0)))))

def iidxf_vc (u0 : List Int) (u1 : Int → Bool) (K : Int → Prop) : Prop :=
  (u0.length ≤ 140737488355328 →
    (∃ inv20 : Int → Prop, ∃ mu20 : Int → Nat, inv20 0 ∧
    (∀ (x8 : Int), inv20 x8 →
    (((decide (x8 < (u0.length : Int))) = true →
      ((0 ≤ x8 ∧ x8 < (u0.length : Int)) ∧
      (∀ q55, u0[x8.toNat]? = some q55 →
      (((u1 q55) = true →
        (K x8)) ∧
      ((u1 q55) = false →
        (inv20 (w64 (x8 + 1)) ∧ mu20 (w64 (x8 + 1)) < mu20 x8)))))) ∧
    ((decide (x8 < (u0.length : Int))) = false →
      (K (-1)))))))
theorem iidxf_mono {u0 : List Int} {u1 : Int → Bool} {K K1 : Int → Prop} (hK : ∀ r, K r → K1 r) (h : iidxf_vc u0 u1 K) : iidxf_vc u0 u1 K1 :=
  fun z0 => (Exists.elim (h z0) fun i1 e1 => Exists.elim e1 fun m1 g1 => ⟨i1, m1, g1.1, fun x8 z1 => ⟨fun c2 => ⟨((g1.2 x8 z1).1 c2).1, fun y4 z4 => ⟨fun c5 => hK _ ((((g1.2 x8 z1).1 c2).2 y4 z4).1 c5), fun c5 => ((((g1.2 x8 z1).1 c2).2 y4 z4).2 c5)⟩⟩, fun c2 => hK _ ((g1.2 x8 z1).2 c2)⟩⟩)

def icontf_vc (u0 : List Int) (u1 : Int → Bool) (K : Bool → Prop) : Prop :=
  (u0.length ≤ 140737488355328 →
    (iidxf_vc u0 u1 fun r17 =>
    (K (decide (r17 ≥ 0)))))

def rplaces_vc (u0 : Signal) (K : (List Int) → Prop) : Prop :=
  ((0 ≤ u0.Size ∧ u0.Size ≤ u0.Size ∧ u0.Size * 8 ≤ 140737488355328) ∧
    (((!u0.Back) = true →
      (∃ inv41 : Int → (List Int) → Prop, ∃ mu41 : Int → (List Int) → Nat, inv41 0 (List.replicate u0.Size.toNat (0 : Int)) ∧
      (∀ (x16 : Int) (zg160 : List Int), inv41 x16 zg160 →
      (((decide (x16 < ((List.replicate u0.Size.toNat (0 : Int)).length : Int))) = true →
        ((0 ≤ x16 ∧ x16 < (zg160.length : Int)) ∧
        (inv41 (w64 (x16 + 1)) (zg160.set x16.toNat (w64 (u0.Start + x16))) ∧ mu41 (w64 (x16 + 1)) (zg160.set x16.toNat (w64 (u0.Start + x16))) < mu41 x16 zg160))) ∧
      ((decide (x16 < ((List.replicate u0.Size.toNat (0 : Int)).length : Int))) = false →
        (K zg160)))))) ∧
    ((!u0.Back) = false →
      (∃ inv128 : Int → (List Int) → Prop, ∃ mu128 : Int → (List Int) → Nat, inv128 0 (List.replicate u0.Size.toNat (0 : Int)) ∧
      (∀ (x39 : Int) (zg160 : List Int), inv128 x39 zg160 →
      (((decide (x39 < ((List.replicate u0.Size.toNat (0 : Int)).length : Int))) = true →
        ((0 ≤ x39 ∧ x39 < (zg160.length : Int)) ∧
        (inv128 (w64 (x39 + 1)) (zg160.set x39.toNat (w64 ((w64 ((w64 ((w64 ((w64 ((w64 ((w64 ((w64 ((w64 ((w64 ((w64 (u0.Start.tdiv 8)) * 8)) + 7)) - (u0.Start.tmod 8))) + u0.Size)) - 1)) - x39)).tdiv 8)) * 8)) + 7)) - ((w64 ((w64 ((w64 ((w64 ((w64 ((w64 ((w64 (u0.Start.tdiv 8)) * 8)) + 7)) - (u0.Start.tmod 8))) + u0.Size)) - 1)) - x39)).tmod 8)))) ∧ mu128 (w64 (x39 + 1)) (zg160.set x39.toNat (w64 ((w64 ((w64 ((w64 ((w64 ((w64 ((w64 ((w64 ((w64 ((w64 ((w64 (u0.Start.tdiv 8)) * 8)) + 7)) - (u0.Start.tmod 8))) + u0.Size)) - 1)) - x39)).tdiv 8)) * 8)) + 7)) - ((w64 ((w64 ((w64 ((w64 ((w64 ((w64 ((w64 (u0.Start.tdiv 8)) * 8)) + 7)) - (u0.Start.tmod 8))) + u0.Size)) - 1)) - x39)).tmod 8)))) < mu128 x39 zg160))) ∧
      ((decide (x39 < ((List.replicate u0.Size.toNat (0 : Int)).length : Int))) = false →
        (K zg160))))))))

def rin_vc (u0 : Int) (u1 : Int) (u2 : Int) (K : Bool → Prop) : Prop :=
  (K ((decide (u0 ≥ u1)) && (decide (u0 ≤ u2))))
def rin (u0 : Int) (u1 : Int) (u2 : Int) : Bool :=
  (decide (u0 ≥ u1)) && (decide (u0 ≤ u2))
theorem rin_ok (u0 : Int) (u1 : Int) (u2 : Int) : rin_vc u0 u1 u2 (fun r => r = rin u0 u1 u2) := (by rfl)

/-! Pure proofs: no program in sight. -/
/-- strings.Trim at a set of ASCII bytes. -/
def trimS (l cs : List UInt8) : List UInt8 := ((l.reverse.dropWhile (cs.contains ·)).reverse).dropWhile (cs.contains ·)
theorem dropWhile_nil {α : Type} (p : α → Bool) (l : List α) : l.dropWhile p = [] ↔ l.all p = true := by
  induction l with
  | nil => simp
  | cons x l ih =>
    rw [List.dropWhile_cons]
    cases h : p x <;> simp [h, ih]
def sidx {α : Type} (p : α → Bool) (l : List α) : Int := match l.findIdx? p with | some i => (i : Int) | none => -1
theorem sidx_at {α : Type} (p : α → Bool) (l : List α) (k : Nat) (q : α) (hq : l[k]? = some q) (hp : p q = true) (hb : ∀ j x, j < k → l[j]? = some x → p x = false) : sidx p l = k := by
  unfold sidx
  have : l.findIdx? p = some k := by
    rw [List.findIdx?_eq_some_iff_getElem]
    obtain ⟨h1, h2⟩ := List.getElem?_eq_some_iff.1 hq
    exact ⟨h1, by rw [h2]; exact hp, fun j hj => by rw [hb j _ hj (List.getElem?_eq_getElem (by omega))]; simp⟩
  rw [this]
theorem sidx_none {α : Type} (p : α → Bool) (l : List α) (hb : ∀ (j : Nat) x, l[j]? = some x → p x = false) : sidx p l = -1 := by
  unfold sidx
  have : l.findIdx? p = none := by
    rw [List.findIdx?_eq_none_iff]
    intro x hx
    obtain ⟨j, hj⟩ := List.mem_iff_getElem?.1 hx
    exact hb j x hj
  rw [this]
theorem sidx_ge {α : Type} (p : α → Bool) (l : List α) : decide (sidx p l ≥ 0) = l.any p := by
  unfold sidx
  cases h : l.findIdx? p with
  | none =>
    have : l.any p = false := by
      rw [List.findIdx?_eq_none_iff] at h
      rw [List.any_eq_false]
      intro x hx
      simp [h x hx]
    rw [this]
    rfl
  | some i =>
    have : l.any p = true := by
      rw [List.findIdx?_eq_some_iff_getElem] at h
      obtain ⟨h1, h2, _⟩ := h
      exact List.any_eq_true.2 ⟨_, List.getElem_mem h1, h2⟩
    rw [this]
    simp
theorem sindex_ok (l : List Int) (x : Int) : sindex_vc l x (fun r => r = sidx (fun q => x == q) l) := by
  intro hl
  refine rg0 hl (fun k => ∀ j y, j < k → l[j]? = some y → (x == y) = false) (fun j y h => absurd h (Nat.not_lt_zero _)) ?_ ?_
  · intro k q hk hq hj inv mu hn
    refine ⟨fun h => (sidx_at _ l k q hq h hj).symm, fun h => hn fun j y hj1 hy => ?_⟩
    rcases Nat.lt_or_ge j k with h1 | h1
    · exact hj j y h1 hy
    · have : j = k := by omega
      subst this
      rw [hq] at hy
      cases hy
      exact h
  · intro hj
    refine (sidx_none _ l fun j y hy => hj j y (List.getElem?_eq_some_iff.1 hy).1 hy).symm
def scontainsS (l : List Int) (x : Int) : Bool := l.any fun q => x == q
theorem scontains_ok (l : List Int) (x : Int) : scontains_vc l x (fun r => r = scontainsS l x) := fun _ => sindex_mono (fun r h => by subst h; exact sidx_ge _ l) (sindex_ok l x)
def plT (s : Signal) (i : Nat) : Int := if s.Back = true then (lin (lin s.Start.toNat + (s.Size.toNat - 1 - i)) : Int) else ((s.Start.toNat + i : Nat) : Int)
theorem places_T (s : Signal) : placesS s = (List.range s.Size.toNat).map (plT s) := by
  unfold placesS plS plN
  apply List.ext_getElem?
  intro k
  by_cases hB : s.Back = true
  · rw [if_pos hB, List.map_reverse, List.map_map]
    by_cases hk : k < s.Size.toNat
    · rw [List.getElem?_reverse (by simpa using hk), List.length_map, List.length_range, List.getElem?_map, List.getElem?_map, List.getElem?_range (by omega), List.getElem?_range hk]
      show some (((fp s.Back s.Start.toNat (s.Size.toNat - 1 - k) : Nat) : Int)) = some (plT s k)
      unfold fp plT
      rw [if_pos hB, if_pos hB]
    · rw [List.getElem?_eq_none (by simp; omega), List.getElem?_eq_none (by simp; omega)]
  · rw [if_neg hB, List.map_map, List.getElem?_map, List.getElem?_map]
    congr 1
    funext i
    show ((fp s.Back s.Start.toNat i : Nat) : Int) = plT s i
    unfold fp plT
    rw [if_neg hB, if_neg hB]
theorem fill_set (T : Nat → Int) (n i : Nat) (h : i < n) : ((List.range i).map T ++ List.replicate (n - i) (0 : Int)).set i (T i) = (List.range (i + 1)).map T ++ List.replicate (n - (i + 1)) 0 := by
  obtain ⟨m, hm⟩ : ∃ m, n - i = m + 1 := ⟨n - i - 1, by omega⟩
  have hm2 : n - (i + 1) = m := by omega
  rw [hm, hm2, List.set_append_right _ _ (by simp), List.length_map, List.length_range, Nat.sub_self, List.replicate_succ, List.set_cons_zero, List.range_succ, List.map_append, List.append_assoc]
  rfl
theorem rplaces_ok (s : Signal) (h : (0 ≤ s.Start ∧ s.Start ≤ 512) ∧ 1 ≤ s.Size ∧ s.Size ≤ 40) : rplaces_vc s (fun r => r = placesS s) := by
  obtain ⟨⟨h1, h2⟩, h3, h4⟩ := h
  rw [places_T]
  have hbase : ((List.range 0).map (plT s) ++ List.replicate (s.Size.toNat - 0) (0 : Int)) = List.replicate s.Size.toNat (0 : Int) := by simp
  refine ⟨by omega, fun hB => ?_, fun hB => ?_⟩
  · have hB : s.Back = false := by simpa using hB
    refine ⟨fun i l => ∃ k : Nat, i = k ∧ k ≤ s.Size.toNat ∧ l = (List.range k).map (plT s) ++ List.replicate (s.Size.toNat - k) (0 : Int), fun i _ => s.Size.toNat - i.toNat, ⟨0, rfl, by omega, hbase.symm⟩, ?_⟩
    rintro _ _ ⟨k, rfl, hk, rfl⟩
    rw [List.length_replicate]
    refine ⟨fun hc => ?_, fun hc => ?_⟩
    · have hc := of_decide_eq_true hc
      have hT : w64 (s.Start + (k : Int)) = plT s k := by
        unfold plT
        rw [if_neg (by rw [hB]; decide), w64_eq _ (by omega)]
        omega
      rw [hT, Int.toNat_natCast, fill_set _ _ _ (by omega), w64_succ k (by omega)]
      exact ⟨by simp; omega, ⟨k + 1, rfl, by omega, rfl⟩, by (try dsimp only); omega⟩
    · have hc := of_decide_eq_false hc
      have : k = s.Size.toNat := by omega
      subst this
      rw [Nat.sub_self, List.replicate_zero, List.append_nil]
  · have hB : s.Back = true := by simpa using hB
    refine ⟨fun i l => ∃ k : Nat, i = k ∧ k ≤ s.Size.toNat ∧ l = (List.range k).map (plT s) ++ List.replicate (s.Size.toNat - k) (0 : Int), fun i _ => s.Size.toNat - i.toNat, ⟨0, rfl, by omega, hbase.symm⟩, ?_⟩
    rintro _ _ ⟨k, rfl, hk, rfl⟩
    rw [List.length_replicate]
    refine ⟨fun hc => ?_, fun hc => ?_⟩
    · have hc := of_decide_eq_true hc
      obtain ⟨st, hst⟩ : ∃ st : Nat, s.Start = st := ⟨s.Start.toNat, by omega⟩
      obtain ⟨n, hn⟩ : ∃ n : Nat, s.Size = n := ⟨s.Size.toNat, by omega⟩
      have e1 : w64 ((st : Int).tdiv 8) = ((st / 8 : Nat) : Int) := by rw [Int.tdiv_eq_ediv_of_nonneg (by omega), w64_eq _ (by omega)]; omega
      have e2 : (st : Int).tmod 8 = ((st % 8 : Nat) : Int) := by rw [Int.tmod_eq_emod_of_nonneg (by omega)]; omega
      have e3 : w64 (((st / 8 : Nat) : Int) * 8) = ((st / 8 * 8 : Nat) : Int) := by rw [w64_eq _ (by omega)]; omega
      have e4 : w64 (((st / 8 * 8 : Nat) : Int) + 7) = ((st / 8 * 8 + 7 : Nat) : Int) := by rw [w64_eq _ (by omega)]; omega
      have e5 : w64 (((st / 8 * 8 + 7 : Nat) : Int) - ((st % 8 : Nat) : Int)) = ((lin st : Nat) : Int) := by unfold lin; rw [w64_eq _ (by omega)]; omega
      have hlin : lin st ≤ 600 := by unfold lin; omega
      have e6 : w64 (((lin st : Nat) : Int) + (n : Int)) = ((lin st + n : Nat) : Int) := by rw [w64_eq _ (by omega)]; omega
      have e7 : w64 (((lin st + n : Nat) : Int) - 1) = ((lin st + n - 1 : Nat) : Int) := by rw [w64_eq _ (by omega)]; omega
      have e8 : w64 (((lin st + n - 1 : Nat) : Int) - (k : Int)) = ((lin st + (n - 1 - k) : Nat) : Int) := by
        have hkn : k < n := by omega
        rw [w64_eq _ (by omega)]
        omega
      have hn' : s.Size.toNat = n := by omega
      have hs' : s.Start.toNat = st := by omega
      have hT : plT s k = ((lin (lin st + (n - 1 - k)) : Nat) : Int) := by unfold plT; rw [if_pos hB, hs', hn']
      have hm : lin st + (n - 1 - k) ≤ 700 := by omega
      rw [hst, hn]
      rw [e1, e2, e3, e4, e5, e6, e7, e8]
      clear e1 e2 e3 e4 e5 e6 e7 e8
      generalize lin st + (n - 1 - k) = m at *
      have f1 : w64 ((m : Int).tdiv 8) = ((m / 8 : Nat) : Int) := by rw [Int.tdiv_eq_ediv_of_nonneg (by omega), w64_eq _ (by omega)]; omega
      have f2 : (m : Int).tmod 8 = ((m % 8 : Nat) : Int) := by rw [Int.tmod_eq_emod_of_nonneg (by omega)]; omega
      have f3 : w64 (((m / 8 : Nat) : Int) * 8) = ((m / 8 * 8 : Nat) : Int) := by rw [w64_eq _ (by omega)]; omega
      have f4 : w64 (((m / 8 * 8 : Nat) : Int) + 7) = ((m / 8 * 8 + 7 : Nat) : Int) := by rw [w64_eq _ (by omega)]; omega
      have f5 : w64 (((m / 8 * 8 + 7 : Nat) : Int) - ((m % 8 : Nat) : Int)) = ((lin m : Nat) : Int) := by unfold lin; rw [w64_eq _ (by omega)]; omega
      rw [f1, f2, f3, f4, f5, ← hT, Int.toNat_natCast, Int.toNat_natCast, fill_set _ _ _ (by omega), w64_succ k (by omega)]
      exact ⟨by simp; omega, ⟨k + 1, rfl, by omega, rfl⟩, by (try dsimp only); omega⟩
    · have hc := of_decide_eq_false hc
      have : k = s.Size.toNat := by omega
      subst this
      rw [Nat.sub_self, List.replicate_zero, List.append_nil]
theorem iidxf_ok (l : List Int) (p : Int → Bool) : iidxf_vc l p (fun r => r = sidx p l) := by
  intro hl
  refine rg0 hl (fun k => ∀ j y, j < k → l[j]? = some y → p y = false) (fun j y h => absurd h (Nat.not_lt_zero _)) ?_ ?_
  · intro k q hk hq hj inv mu hn
    refine ⟨fun h => (sidx_at _ l k q hq h hj).symm, fun h => hn fun j y hj1 hy => ?_⟩
    rcases Nat.lt_or_ge j k with h1 | h1
    · exact hj j y h1 hy
    · have : j = k := by omega
      subst this
      rw [hq] at hy
      cases hy
      exact h
  · intro hj
    refine (sidx_none _ l fun j y hy => hj j y (List.getElem?_eq_some_iff.1 hy).1 hy).symm
def icontfS (l : List Int) (p : Int → Bool) : Bool := l.any p
theorem icontf_ok (l : List Int) (p : Int → Bool) : icontf_vc l p (fun r => r = icontfS l p) := fun _ => iidxf_mono (fun r h => by subst h; exact sidx_ge _ l) (iidxf_ok l p)

end Go.Proofs.YtdndfbamhnchfaaDoor
set_option linter.unusedVariables false
set_option linter.unusedSimpArgs false
namespace Go.Proofs.YtdndfbamhnchfaaDoor
open Go.Sy Go.RowKit
def risname_vc (u0 : List UInt8) (K : Bool → Prop) : Prop :=
  ((((u0 == ([] : List UInt8)) || (decide ((u0.length : Int) > 16))) = true →
      (K false)) ∧
    (((u0 == ([] : List UInt8)) || (decide ((u0.length : Int) > 16))) = false →
      ((0 ≤ (0 : Int) ∧ (0 : Int) < (u0.length : Int)) ∧
      (∀ c52, u0[(0 : Int).toNat]? = some c52 →
      (((decide ((c52.toNat : Int) ≥ 48)) = true →
        ((0 ≤ (0 : Int) ∧ (0 : Int) < (u0.length : Int)) ∧
        (∀ c68, u0[(0 : Int).toNat]? = some c68 →
        (((decide ((c68.toNat : Int) ≤ 57)) = true →
          (K false)) ∧
        ((decide ((c68.toNat : Int) ≤ 57)) = false →
          ((u0.length ≤ 9223372036854775807 ∧ ([97, 98, 99, 100, 101, 102, 103, 104, 105, 106, 107, 108, 109, 110, 111, 112, 113, 114, 115, 116, 117, 118, 119, 120, 121, 122, 65, 66, 67, 68, 69, 70, 71, 72, 73, 74, 75, 76, 77, 78, 79, 80, 81, 82, 83, 84, 85, 86, 87, 88, 89, 90, 48, 49, 50, 51, 52, 53, 54, 55, 56, 57] : List UInt8).length < 4294967281 ∧ ([97, 98, 99, 100, 101, 102, 103, 104, 105, 106, 107, 108, 109, 110, 111, 112, 113, 114, 115, 116, 117, 118, 119, 120, 121, 122, 65, 66, 67, 68, 69, 70, 71, 72, 73, 74, 75, 76, 77, 78, 79, 80, 81, 82, 83, 84, 85, 86, 87, 88, 89, 90, 48, 49, 50, 51, 52, 53, 54, 55, 56, 57] : List UInt8).all (fun b => decide (b.toNat < 128)) = true) ∧
          (K ((trimS u0 ([97, 98, 99, 100, 101, 102, 103, 104, 105, 106, 107, 108, 109, 110, 111, 112, 113, 114, 115, 116, 117, 118, 119, 120, 121, 122, 65, 66, 67, 68, 69, 70, 71, 72, 73, 74, 75, 76, 77, 78, 79, 80, 81, 82, 83, 84, 85, 86, 87, 88, 89, 90, 48, 49, 50, 51, 52, 53, 54, 55, 56, 57] : List UInt8)) == ([] : List UInt8))))))))) ∧
      ((decide ((c52.toNat : Int) ≥ 48)) = false →
        ((u0.length ≤ 9223372036854775807 ∧ ([97, 98, 99, 100, 101, 102, 103, 104, 105, 106, 107, 108, 109, 110, 111, 112, 113, 114, 115, 116, 117, 118, 119, 120, 121, 122, 65, 66, 67, 68, 69, 70, 71, 72, 73, 74, 75, 76, 77, 78, 79, 80, 81, 82, 83, 84, 85, 86, 87, 88, 89, 90, 48, 49, 50, 51, 52, 53, 54, 55, 56, 57] : List UInt8).length < 4294967281 ∧ ([97, 98, 99, 100, 101, 102, 103, 104, 105, 106, 107, 108, 109, 110, 111, 112, 113, 114, 115, 116, 117, 118, 119, 120, 121, 122, 65, 66, 67, 68, 69, 70, 71, 72, 73, 74, 75, 76, 77, 78, 79, 80, 81, 82, 83, 84, 85, 86, 87, 88, 89, 90, 48, 49, 50, 51, 52, 53, 54, 55, 56, 57] : List UInt8).all (fun b => decide (b.toNat < 128)) = true) ∧
        (K ((trimS u0 ([97, 98, 99, 100, 101, 102, 103, 104, 105, 106, 107, 108, 109, 110, 111, 112, 113, 114, 115, 116, 117, 118, 119, 120, 121, 122, 65, 66, 67, 68, 69, 70, 71, 72, 73, 74, 75, 76, 77, 78, 79, 80, 81, 82, 83, 84, 85, 86, 87, 88, 89, 90, 48, 49, 50, 51, 52, 53, 54, 55, 56, 57] : List UInt8)) == ([] : List UInt8))))))))))

def rsetraw_vc (u0 : Signal) (u1 : List Int) (u2 : Int) (K : (List Int) → Prop) : Prop :=
  (u1.length ≤ 140737488355328 →
    ((u1.length ≤ 140737488355328) ∧
    ((bcloneS u1).length ≤ 140737488355328 →
    (((0 ≤ u0.Start ∧ u0.Start ≤ 512) ∧ 1 ≤ u0.Size ∧ u0.Size ≤ 40) ∧
    ((placesS u0).length ≤ 140737488355328 →
    (∃ inv50 : Int → (List Int) → Prop, ∃ mu50 : Int → (List Int) → Nat, inv50 0 (bcloneS u1) ∧
    (∀ (x16 : Int) (zao22 : List Int), inv50 x16 zao22 →
    (((decide (x16 < ((placesS u0).length : Int))) = true →
      (∃ inv74 : (List Int) → Prop,
      ((0 ≤ x16 ∧ x16 < ((placesS u0).length : Int)) ∧
      (∀ q100, (placesS u0)[x16.toNat]? = some q100 →
      ((0 ≤ q100.tmod 8) ∧
      ((0 ≤ x16) ∧
      ((((bAnd .i64 (bShr .i64 u2 x16) 1) == 1) = true →
        ((0 ≤ w64 (q100.tdiv 8) ∧ w64 (q100.tdiv 8) < (zao22.length : Int)) ∧
        (∀ q152, zao22[(w64 (q100.tdiv 8)).toNat]? = some q152 →
        ((0 ≤ w64 (q100.tdiv 8) ∧ w64 (q100.tdiv 8) < (zao22.length : Int)) ∧
        (inv74 (zao22.set (w64 (q100.tdiv 8)).toNat (bOr .u8 q152 (bShl .u8 1 (q100.tmod 8))))))))) ∧
      (((bAnd .i64 (bShr .i64 u2 x16) 1) == 1) = false →
        ((0 ≤ w64 (q100.tdiv 8) ∧ w64 (q100.tdiv 8) < (zao22.length : Int)) ∧
        (∀ q188, zao22[(w64 (q100.tdiv 8)).toNat]? = some q188 →
        ((0 ≤ w64 (q100.tdiv 8) ∧ w64 (q100.tdiv 8) < (zao22.length : Int)) ∧
        (inv74 (zao22.set (w64 (q100.tdiv 8)).toNat (bAnd .u8 q188 (w8 (255 - (bShl .u8 1 (q100.tmod 8)))))))))))))))) ∧
      (∀ (zao22v : List Int), inv74 zao22v →
        (inv50 (w64 (x16 + 1)) zao22v ∧ mu50 (w64 (x16 + 1)) zao22v < mu50 x16 zao22)))) ∧
    ((decide (x16 < ((placesS u0).length : Int))) = false →
      (K zao22))))))))))

/-! Pure proofs: no program in sight. -/
theorem put_one : ∀ (d : Fin 256) (k : Fin 8), bOr .u8 (d.val : Int) (bShl .u8 1 (k.val : Int)) = sb d.val k.val 1 ∧ bAnd .u8 (d.val : Int) (w8 (255 - bShl .u8 1 (k.val : Int))) = sb d.val k.val 0 := by decide +kernel
theorem rsetraw_ok (s : Signal) (d : List Int) (n : Int) (h : inD s d) : rsetraw_vc s d n (fun r => r = putS s d n) := by
  obtain ⟨⟨h1, h2, h3⟩, hd, hp⟩ := h
  have hl := places_len s
  have hpl := plS_len s
  intro hdl
  refine ⟨hdl, fun _ => ⟨⟨h1, h2, h3⟩, fun _ => ⟨fun i x => ∃ k : Nat, i = k ∧ k ≤ s.Size.toNat ∧ x = putF n 0 ((plS s).take k) d, fun i _ => s.Size.toNat - i.toNat, ⟨0, rfl, by omega, rfl⟩, ?_⟩⟩⟩
  rintro _ _ ⟨k, rfl, hk, rfl⟩
  have hlen := putF_len n ((plS s).take k) 0 d
  have hby := putF_bytes n ((plS s).take k) 0 d hd
  refine ⟨fun hc => ?_, fun hc => ?_⟩
  · have hc := of_decide_eq_true hc
    refine ⟨fun x => x = putF n 0 ((plS s).take (k + 1)) d, ⟨by omega, fun q hq => ?_⟩, ?_⟩
    · rw [Int.toNat_natCast] at hq
      obtain ⟨p, hp1, rfl, hp2⟩ := place_at hq
      have hlt := hp p hp2
      have hfp : p < 1000000 := by
        unfold plS plN at hp2
        have hb : ∀ j, j ∈ (List.range s.Size.toNat).map (fp s.Back s.Start.toNat) → j < 1000000 := by
          intro j hj
          obtain ⟨i, hi, rfl⟩ := List.mem_map.1 hj
          have := List.mem_range.1 hi
          have := fp_le s.Back s.Start.toNat i
          omega
        split at hp2
        · exact hb p (List.mem_reverse.1 hp2)
        · exact hb p hp2
      obtain ⟨d1, d2⟩ := div8 p hfp
      rw [d1, d2, Int.toNat_natCast]
      have hnext : putF n 0 ((plS s).take (k + 1)) d = set1 (putF n 0 ((plS s).take k) d) p (nb n k) := by
        rw [List.take_add_one, hp1]
        show putF n 0 (List.take k (plS s) ++ [p]) d = _
        rw [putF_snoc, List.length_take, hpl, Nat.min_eq_left hk, Nat.zero_add]
      have hbit : (bAnd .i64 (bShr .i64 n (k : Int)) 1 == 1) = nb n k := by
        rw [shr_any _ _ (by omega), and_one]
        unfold nb
        have e0 : ((2 ^ k : Nat) : Int) = (2 : Int) ^ k := by norm_cast
        try rw [e0]
        rw [Bool.eq_iff_iff, beq_iff_eq, decide_eq_true_eq]
      have key : ∀ q, (putF n 0 ((plS s).take k) d)[p / 8]? = some q → bOr .u8 q (bShl .u8 1 ((p % 8 : Nat) : Int)) = sb q ((p % 8 : Nat) : Int) 1 ∧ bAnd .u8 q (w8 (255 - bShl .u8 1 ((p % 8 : Nat) : Int))) = sb q ((p % 8 : Nat) : Int) 0 := by
        intro q hq
        obtain ⟨m, hm, hl⟩ := byte_at hby (p / 8)
        rw [hq, Option.getD_some] at hm
        subst hm
        exact put_one ⟨m, hl⟩ ⟨p % 8, Nat.mod_lt _ (by decide)⟩
      refine ⟨by omega, by omega, fun h5 => ⟨by omega, fun q hq2 => ⟨by omega, ?_⟩⟩, fun h5 => ⟨by omega, fun q hq2 => ⟨by omega, ?_⟩⟩⟩
      · rw [hbit] at h5
        rw [hnext, h5, (key q hq2).1]
        unfold set1
        rw [hq2, Option.getD_some]
        rfl
      · rw [hbit] at h5
        rw [hnext, h5, (key q hq2).2]
        unfold set1
        rw [hq2, Option.getD_some]
        rfl
    · rintro _ rfl
      rw [w64_succ k (by omega)]
      exact ⟨⟨k + 1, rfl, by omega, rfl⟩, by (try dsimp only); omega⟩
  · have hc := of_decide_eq_false hc
    have hkk : k = s.Size.toNat := by omega
    subst hkk
    unfold putS
    rw [← hpl, List.take_length]
def lds : List UInt8 := [97, 98, 99, 100, 101, 102, 103, 104, 105, 106, 107, 108, 109, 110, 111, 112, 113, 114, 115, 116, 117, 118, 119, 120, 121, 122, 65, 66, 67, 68, 69, 70, 71, 72, 73, 74, 75, 76, 77, 78, 79, 80, 81, 82, 83, 84, 85, 86, 87, 88, 89, 90, 48, 49, 50, 51, 52, 53, 54, 55, 56, 57]
theorem lds_at : ∀ n : Fin 256, lds.contains (UInt8.ofNat n.val) = isLD (UInt8.ofNat n.val) := by decide +kernel
theorem lds_eq (c : UInt8) : lds.contains c = isLD c := by
  have h := lds_at ⟨c.toNat, c.toNat_lt⟩
  have e : UInt8.ofNat c.toNat = c := UInt8.ofNat_toNat
  rw [e] at h
  exact h
theorem trim_all (l cs : List UInt8) : trimS l cs = [] ↔ l.all (fun x => cs.contains x) = true := by
  unfold trimS
  rw [dropWhile_nil]
  constructor
  · intro h
    rw [List.all_reverse] at h
    cases hd : l.reverse.dropWhile (cs.contains ·) with
    | nil => rw [dropWhile_nil, List.all_reverse] at hd; exact hd
    | cons x r =>
      have h1 := List.head?_dropWhile_not (fun x => cs.contains x) l.reverse
      rw [hd] at h h1
      rw [List.all_cons, Bool.and_eq_true] at h
      have h1 : cs.contains x = false := by simpa using h1
      rw [h.1] at h1
      cases h1
  · intro h
    have : l.reverse.dropWhile (cs.contains ·) = [] := by rw [dropWhile_nil, List.all_reverse]; exact h
    rw [this]
    rfl
theorem name_trim {c : UInt8} {r : List UInt8} (hl : r.length < 16) (hc : ¬ (48 ≤ c.toNat ∧ c.toNat ≤ 57)) : (trimS (c :: r) lds == ([] : List UInt8)) = nameS (c :: r) := by
  have e : nameS (c :: r) = (isLet c && r.all isLD) := by show (decide (r.length < 16) && isLet c && r.all isLD) = _; rw [decide_eq_true hl, Bool.true_and]
  have hcl : isLD c = isLet c := by
    unfold isLD
    have : (decide (48 ≤ c.toNat) && decide (c.toNat ≤ 57)) = false := by rw [Bool.and_eq_false_iff, decide_eq_false_iff_not, decide_eq_false_iff_not]; omega
    rw [this, Bool.or_false]
  rw [e, Bool.eq_iff_iff, beq_iff_eq, trim_all]
  have hf : (fun x => lds.contains x) = isLD := funext lds_eq
  rw [hf, List.all_cons, hcl]
theorem risname_ok (u : List UInt8) : risname_vc u (fun r => r = nameS u) := by
  refine ⟨fun h => ?_, fun h => ?_⟩
  · rw [Bool.or_eq_true, beq_iff_eq, decide_eq_true_eq] at h
    cases u with
    | nil => rfl
    | cons c r =>
      rcases h with h | h
      · cases h
      · rw [List.length_cons] at h
        show false = (decide (r.length < 16) && isLet c && r.all isLD)
        rw [decide_eq_false (by omega)]
        rfl
  · rw [Bool.or_eq_false_iff, decide_eq_false_iff_not] at h
    cases u with
    | nil => simp at h
    | cons c r =>
      have hl : r.length < 16 := by have := h.2; rw [List.length_cons] at this; omega
      have hlen : (0 : Int) ≤ 0 ∧ (0 : Int) < ((c :: r).length : Int) := ⟨by omega, by rw [List.length_cons]; omega⟩
      have hpre : (c :: r).length ≤ 9223372036854775807 ∧ lds.length < 4294967281 ∧ lds.all (fun b => decide (b.toNat < 128)) = true := ⟨by rw [List.length_cons]; omega, by decide, by decide⟩
      refine ⟨hlen, fun q hq => ⟨fun h1 => ⟨hlen, fun v hv => ⟨fun h2 => ?_, fun h2 => ⟨hpre, ?_⟩⟩⟩, fun h1 => ⟨hpre, ?_⟩⟩⟩
      all_goals
        have hq : c = q := by simpa using hq
        subst hq
      · have hv : c = v := by simpa using hv
        subst hv
        have h1 := of_decide_eq_true h1
        have h2 := of_decide_eq_true h2
        have : isLet c = false := by
          unfold isLet
          rw [Bool.or_eq_false_iff, Bool.and_eq_false_iff, Bool.and_eq_false_iff, decide_eq_false_iff_not, decide_eq_false_iff_not, decide_eq_false_iff_not, decide_eq_false_iff_not]
          omega
        show false = (decide (r.length < 16) && isLet c && r.all isLD)
        rw [this, Bool.and_false, Bool.false_and]
      · have hv : c = v := by simpa using hv
        subst hv
        have h2 := of_decide_eq_false h2
        exact name_trim hl (by omega)
      · have h1 := of_decide_eq_false h1
        exact name_trim hl (by omega)

end Go.Proofs.YtdndfbamhnchfaaDoor
set_option linter.unusedVariables false
set_option linter.unusedSimpArgs false
namespace Go.Proofs.YtdndfbamhnchfaaDoor
open Go.Sy Go.RowKit
def rcheck_vc (u0 : Signal) (u1 : Int) (K : Int → Prop) : Prop :=
  (((!(nameS u0.Name)) = true →
      (K 1)) ∧
    ((!(nameS u0.Name)) = false →
      (((((((((!(rin u1 0 64)) || (!(rin u0.Size 1 40))) || (u0.Mul == 0)) || (!(rin u0.Mul (-1000000) 1000000))) || (!(rin u0.Div 1 1000000))) || (!(rin u0.Add (-1000000) 1000000))) || (!(rin u0.Key (-1) 255))) = true →
        (K 3)) ∧
      ((((((((!(rin u1 0 64)) || (!(rin u0.Size 1 40))) || (u0.Mul == 0)) || (!(rin u0.Mul (-1000000) 1000000))) || (!(rin u0.Div 1 1000000))) || (!(rin u0.Add (-1000000) 1000000))) || (!(rin u0.Key (-1) 255))) = false →
        (((!(rin u0.Start 0 (w64 ((w64 (8 * u1)) - 1)))) = true →
          (K 7)) ∧
        ((!(rin u0.Start 0 (w64 ((w64 (8 * u1)) - 1)))) = false →
          (((0 ≤ u0.Start ∧ u0.Start ≤ 512) ∧ 1 ≤ u0.Size ∧ u0.Size ≤ 40) ∧
          ((placesS u0).length ≤ 140737488355328 →
          (∃ inv189 : Int → Prop, ∃ mu189 : Int → Nat, inv189 0 ∧
          (∀ (x67 : Int), inv189 x67 →
          (((decide (x67 < ((placesS u0).length : Int))) = true →
            ((0 ≤ x67 ∧ x67 < ((placesS u0).length : Int)) ∧
            (∀ q218, (placesS u0)[x67.toNat]? = some q218 →
            (((decide (q218 ≥ (w64 (8 * u1)))) = true →
              (K 7)) ∧
            ((decide (q218 ≥ (w64 (8 * u1)))) = false →
              (inv189 (w64 (x67 + 1)) ∧ mu189 (w64 (x67 + 1)) < mu189 x67)))))) ∧
          ((decide (x67 < ((placesS u0).length : Int))) = false →
            (K 0)))))))))))))

/-! Pure proofs: no program in sight. -/
theorem rin_eq (x a b : Int) : rin x a b = decide (a ≤ x ∧ x ≤ b) := by
  unfold rin
  rw [Bool.eq_iff_iff, Bool.and_eq_true, decide_eq_true_eq, decide_eq_true_eq, decide_eq_true_eq]
theorem rcheck_ok (s : Signal) (n : Int) : rcheck_vc s n (fun r => r = checkS s n) := by
  unfold rcheck_vc
  simp only [rin_eq]
  unfold checkS
  refine ⟨fun h => ?_, fun h => ?_⟩
  · rw [if_pos (by simpa using h)]
  rw [if_neg (by simpa using h)]
  refine ⟨fun h1 => ?_, fun h1 => ?_⟩
  · simp only [Bool.or_eq_true, Bool.not_eq_true', decide_eq_false_iff_not, beq_iff_eq] at h1
    by_cases c1 : n < 0 ∨ 64 < n ∨ s.Size < 1 ∨ 40 < s.Size
    · rw [if_pos c1]
    · rw [if_neg c1]
      by_cases c2 : ¬ factS s
      · rw [if_pos c2]
      · rw [if_neg c2]
        have c2 : factS s := Classical.not_not.1 c2
        unfold factS at c2
        rw [if_pos (by omega)]
  · simp only [Bool.or_eq_false_iff, Bool.not_eq_false', decide_eq_true_eq, beq_eq_false_iff_ne] at h1
    have c1 : ¬ (n < 0 ∨ 64 < n ∨ s.Size < 1 ∨ 40 < s.Size) := by omega
    have c2 : factS s := by unfold factS; omega
    rw [if_neg c1, if_neg (fun hh => hh c2), if_neg (by omega), w64_eq (8 * n) (by omega), w64_eq (8 * n - 1) (by omega)]
    refine ⟨fun h2 => ?_, fun h2 => ?_⟩
    · simp only [Bool.not_eq_true', decide_eq_false_iff_not] at h2
      rw [if_pos (by omega)]
    · simp only [Bool.not_eq_false', decide_eq_true_eq] at h2
      rw [if_neg (by omega)]
      have hpl := plS_len s
      have hl := places_len s
      refine ⟨by omega, fun _ => ⟨fun i => ∃ k : Nat, i = k ∧ k ≤ (plS s).length ∧ ((plS s).take k).any (fun p => decide (8 * n ≤ (p : Int))) = false, fun i => (plS s).length - i.toNat, ⟨0, rfl, by omega, rfl⟩, ?_⟩⟩
      rintro _ ⟨k, rfl, hk, ha⟩
      refine ⟨fun h3 => ?_, fun h3 => ?_⟩
      · have h3 := of_decide_eq_true h3
        refine ⟨by omega, fun q hq => ?_⟩
        rw [Int.toNat_natCast] at hq
        obtain ⟨p, hp, rfl, hm⟩ := place_at hq
        refine ⟨fun h4 => ?_, fun h4 => ?_⟩
        · have h4 : decide (8 * n ≤ (p : Int)) = true := h4
          rw [if_pos (List.any_eq_true.2 ⟨p, hm, h4⟩)]
        · have h4 : decide (8 * n ≤ (p : Int)) = false := h4
          rw [w64_succ k (by omega)]
          refine ⟨⟨k + 1, rfl, by omega, ?_⟩, by (try dsimp only); omega⟩
          rw [List.take_add_one, hp, List.any_append, ha]
          simp only [Option.toList_some, List.any_cons, List.any_nil, Bool.or_false, Bool.false_or]
          exact h4
      · have h3 := of_decide_eq_false h3
        have : k = (plS s).length := by omega
        subst this
        rw [List.take_length] at ha
        rw [if_neg (by rw [ha]; decide)]

end Go.Proofs.YtdndfbamhnchfaaDoor
set_option linter.unusedVariables false
set_option linter.unusedSimpArgs false
namespace Go.Proofs.YtdndfbamhnchfaaDoor
open Go.Sy Go.RowKit
structure BInt where
  neg : Bool
  abs : List Int
  deriving DecidableEq, Inhabited
structure BRat where
  a : BInt
  b : BInt
  deriving DecidableEq, Inhabited
def gtrim_vc (u0 : List Int) (K : (List Int) → Prop) : Prop :=
  (u0.length ≤ 140737488355328 →
    (∃ inv16 : Int → Prop, ∃ mu16 : Int → Nat, inv16 (u0.length : Int) ∧
    (∀ (x3 : Int), inv16 x3 →
    (((decide (x3 > 0)) = true →
      ((0 ≤ w64 (x3 - 1) ∧ w64 (x3 - 1) < (u0.length : Int)) ∧
      (∀ q50, u0[(w64 (x3 - 1)).toNat]? = some q50 →
      (((q50 == 0) = true →
        (inv16 (w64 (x3 - 1)) ∧ mu16 (w64 (x3 - 1)) < mu16 x3)) ∧
      ((q50 == 0) = false →
        ((0 ≤ x3 ∧ x3 ≤ (u0.length : Int)) ∧
        (K (u0.take x3.toNat)))))))) ∧
    ((decide (x3 > 0)) = false →
      ((0 ≤ x3 ∧ x3 ≤ (u0.length : Int)) ∧
      (K (u0.take x3.toNat))))))))

def gplain_vc (u0 : List Int) (K : Int → Prop) : Prop :=
  (u0.length ≤ 140737488355328 →
    (((decide ((u0.length : Int) > 0)) = true →
      ((0 ≤ (0 : Int) ∧ (0 : Int) < (u0.length : Int)) ∧
      (∀ q28, u0[(0 : Int).toNat]? = some q28 →
      (((decide ((u0.length : Int) > 1)) = true →
        ((0 ≤ (1 : Int) ∧ (1 : Int) < (u0.length : Int)) ∧
        (∀ q60, u0[(1 : Int).toNat]? = some q60 →
        (K (bOr .u64 (wu64 q28) (bShl .u64 (wu64 q60) 32)))))) ∧
      ((decide ((u0.length : Int) > 1)) = false →
        (K (wu64 q28))))))) ∧
    ((decide ((u0.length : Int) > 0)) = false →
      (((decide ((u0.length : Int) > 1)) = true →
        ((0 ≤ (1 : Int) ∧ (1 : Int) < (u0.length : Int)) ∧
        (∀ q108, u0[(1 : Int).toNat]? = some q108 →
        (K (bOr .u64 0 (bShl .u64 (wu64 q108) 32)))))) ∧
      ((decide ((u0.length : Int) > 1)) = false →
        (K 0))))))

def gcmp_vc (u0 : List Int) (u1 : List Int) (K : Int → Prop) : Prop :=
  (u0.length ≤ 140737488355328 →
    (u1.length ≤ 140737488355328 →
    ((((u0.length : Int) != (u1.length : Int)) = true →
      (((decide ((u0.length : Int) < (u1.length : Int))) = true →
        (K (-1))) ∧
      ((decide ((u0.length : Int) < (u1.length : Int))) = false →
        (K 1)))) ∧
    (((u0.length : Int) != (u1.length : Int)) = false →
      (∃ inv56 : Int → Prop, ∃ mu56 : Int → Nat, inv56 (w64 ((u0.length : Int) - 1)) ∧
      (∀ (x5 : Int), inv56 x5 →
      (((decide (x5 ≥ 0)) = true →
        ((0 ≤ x5 ∧ x5 < (u0.length : Int)) ∧
        (∀ q90, u0[x5.toNat]? = some q90 →
        ((0 ≤ x5 ∧ x5 < (u1.length : Int)) ∧
        (∀ q112, u1[x5.toNat]? = some q112 →
        (((q90 != q112) = true →
          ((0 ≤ x5 ∧ x5 < (u0.length : Int)) ∧
          (∀ q143, u0[x5.toNat]? = some q143 →
          ((0 ≤ x5 ∧ x5 < (u1.length : Int)) ∧
          (∀ q165, u1[x5.toNat]? = some q165 →
          (((decide (q143 < q165)) = true →
            (K (-1))) ∧
          ((decide (q143 < q165)) = false →
            (K 1)))))))) ∧
        ((q90 != q112) = false →
          (inv56 (w64 (x5 - 1)) ∧ mu56 (w64 (x5 - 1)) < mu56 x5)))))))) ∧
      ((decide (x5 ≥ 0)) = false →
        (K 0)))))))))

/-! Pure proofs: no program in sight. -/
theorem wtake_next {α : Type} (l : List α) (k : Nat) (q : α) (hq : l[k]? = some q) : l.take (k + 1) = l.take k ++ [q] := by rw [List.take_add_one, hq]; rfl
/-! Numbers in words of 32 bits, the least first. -/
def wv : List Int → Nat
  | [] => 0
  | x :: r => x.toNat + 4294967296 * wv r
def wok (l : List Int) : Prop := ∀ x ∈ l, 0 ≤ x ∧ x < 4294967296
def ws (n : Nat) : List Int := if n = 0 then [] else ((n % 4294967296 : Nat) : Int) :: ws (n / 4294967296)
 termination_by n
 decreasing_by omega
theorem ws_zero : ws 0 = [] := by rw [ws]; rfl
theorem ws_pos {n : Nat} (h : n ≠ 0) : ws n = ((n % 4294967296 : Nat) : Int) :: ws (n / 4294967296) := by rw [ws, if_neg h]
theorem wv_ws : ∀ n : Nat, wv (ws n) = n := by
  intro n
  induction n using Nat.strongRecOn with
  | ind n ih =>
    by_cases h : n = 0
    · subst h; rw [ws_zero]; rfl
    · rw [ws_pos h, wv, ih _ (by omega), Int.toNat_natCast]
      omega
theorem ws_wok : ∀ n : Nat, wok (ws n) := by
  intro n
  induction n using Nat.strongRecOn with
  | ind n ih =>
    by_cases h : n = 0
    · subst h; rw [ws_zero]; intro x hx; cases hx
    · rw [ws_pos h]
      intro x hx
      rcases List.mem_cons.1 hx with rfl | hx
      · omega
      · exact ih _ (by omega) x hx
theorem ws_len : ∀ (k n : Nat), n < 4294967296 ^ k → (ws n).length ≤ k := by
  intro k
  induction k with
  | zero => intro n h; have : n = 0 := by simpa using h
            subst this; rw [ws_zero]; simp
  | succ k ih =>
    intro n h
    by_cases h0 : n = 0
    · subst h0; rw [ws_zero]; simp
    · rw [ws_pos h0, List.length_cons]
      have : n / 4294967296 < 4294967296 ^ k := by
        rw [Nat.div_lt_iff_lt_mul (by decide)]
        rwa [Nat.pow_succ] at h
      have := ih _ this
      omega
theorem wok_cons {x : Int} {r : List Int} (h : wok (x :: r)) : (0 ≤ x ∧ x < 4294967296) ∧ wok r := ⟨h x (List.mem_cons_self ..), fun y hy => h y (List.mem_cons_of_mem _ hy)⟩
theorem wok_at {l : List Int} (h : wok l) {k : Nat} {q : Int} (hq : l[k]? = some q) : ∃ n : Nat, q = n ∧ n < 4294967296 := by
  have := h q (List.mem_of_getElem? hq)
  exact ⟨q.toNat, by omega, by omega⟩
theorem wok_set {l : List Int} (h : wok l) (k : Nat) (n : Nat) (hn : n < 4294967296) : wok (l.set k (n : Int)) := by
  intro x hx
  rcases List.mem_or_eq_of_mem_set hx with hx | rfl
  · exact h x hx
  · omega
theorem wok_rep (n : Nat) : wok (List.replicate n (0 : Int)) := fun x hx => by rw [(List.mem_replicate.1 hx).2]; omega
theorem wok_take {a : List Int} (ha : wok a) (k : Nat) : wok (a.take k) := fun x hx => ha x (List.mem_of_mem_take hx)
theorem wv_append (a b : List Int) : wv (a ++ b) = wv a + 4294967296 ^ a.length * wv b := by
  induction a with
  | nil => simp [wv]
  | cons x r ih => rw [List.cons_append, wv, ih, wv, List.length_cons, Nat.pow_succ, Nat.mul_add, Nat.add_assoc, Nat.mul_comm (4294967296 ^ r.length) 4294967296, Nat.mul_assoc]
theorem wv_rep (n : Nat) : wv (List.replicate n (0 : Int)) = 0 := by
  induction n with
  | zero => rfl
  | succ n ih => rw [List.replicate_succ, wv, ih]; rfl
theorem wv_next {l : List Int} {k n : Nat} (h : l[k]? = some (n : Int)) : wv (l.take (k + 1)) = wv (l.take k) + 4294967296 ^ k * n := by
  have hk := (List.getElem?_eq_some_iff.1 h).1
  rw [wtake_next l k _ h, wv_append, List.length_take, Nat.min_eq_left (by omega)]
  simp [wv]
theorem wv_set : ∀ (l : List Int) (k q n : Nat), l[k]? = some (q : Int) → wv (l.set k (n : Int)) + 4294967296 ^ k * q = wv l + 4294967296 ^ k * n := by
  intro l
  induction l with
  | nil => intro k q n h; simp at h
  | cons x r ih =>
    intro k q n h
    cases k with
    | zero =>
      cases h
      simp [wv]
      omega
    | succ k =>
      have := ih k q n (by simpa using h)
      rw [List.set_cons_succ, wv, wv, Nat.pow_succ, Nat.mul_comm (4294967296 ^ k) 4294967296, Nat.mul_assoc, Nat.mul_assoc]
      omega
theorem wv_lt {l : List Int} (h : wok l) : wv l < 4294967296 ^ l.length := by
  induction l with
  | nil => simp [wv]
  | cons x r ih =>
    obtain ⟨h1, h2⟩ := wok_cons h
    have := ih h2
    rw [wv, List.length_cons, Nat.pow_succ]
    omega
/-- Without the noughts at the end. -/
def gtrimS : List Int → List Int
  | [] => []
  | x :: r => match gtrimS r with
    | [] => if x = 0 then [] else [x]
    | y :: q => x :: y :: q
theorem gtrim_ws {l : List Int} (h : wok l) : gtrimS l = ws (wv l) := by
  induction l with
  | nil => rw [wv, ws_zero]; rfl
  | cons x r ih =>
    obtain ⟨h1, h2⟩ := wok_cons h
    rw [gtrimS, ih h2, wv]
    by_cases h0 : wv r = 0
    · rw [h0, ws_zero]
      by_cases hx : x = 0
      · subst hx
        rw [if_pos rfl]
        show [] = ws 0
        rw [ws_zero]
      · rw [if_neg hx, ws_pos (by omega)]
        have e1 : (x.toNat + 4294967296 * 0) % 4294967296 = x.toNat := by omega
        have e2 : (x.toNat + 4294967296 * 0) / 4294967296 = 0 := by omega
        rw [e1, e2, ws_zero, Int.toNat_of_nonneg h1.1]
    · have e1 : (x.toNat + 4294967296 * wv r) % 4294967296 = x.toNat := by omega
      have e2 : (x.toNat + 4294967296 * wv r) / 4294967296 = wv r := by omega
      rw [ws_pos (n := x.toNat + 4294967296 * wv r) (by omega), e1, e2]
      have e3 : ((x.toNat : Nat) : Int) = x := Int.toNat_of_nonneg h1.1
      rw [e3]
      rw [ws_pos h0]
theorem ws_trim (n : Nat) : gtrimS (ws n) = ws n := by rw [gtrim_ws (ws_wok n), wv_ws]
theorem gtrim_len (l : List Int) : (gtrimS l).length ≤ l.length := by
  induction l with
  | nil => exact Nat.le_refl _
  | cons x r ih =>
    rw [gtrimS]
    split
    · split <;> simp
    · rename_i y q e
      rw [e] at ih
      simpa using ih
theorem gtrim_snoc0 (l : List Int) : gtrimS (l ++ [0]) = gtrimS l := by
  induction l with
  | nil => rfl
  | cons x r ih => rw [List.cons_append, gtrimS, ih, gtrimS]
theorem gtrim_snoc (l : List Int) (x : Int) (hx : x ≠ 0) : gtrimS (l ++ [x]) = l ++ [x] := by
  induction l with
  | nil => show (if x = 0 then [] else [x]) = [x]; rw [if_neg hx]
  | cons y r ih =>
    rw [List.cons_append, gtrimS, ih]
    cases hr : r ++ [x] with
    | nil => simp at hr
    | cons a b => rfl
theorem gtrim_ok (l : List Int) : gtrim_vc l (fun r => r = gtrimS l) := by
  intro hl
  refine ⟨fun i => ∃ k : Nat, i = k ∧ k ≤ l.length ∧ gtrimS (l.take k) = gtrimS l, fun i => i.toNat, ⟨l.length, rfl, Nat.le_refl _, by rw [List.take_length]⟩, ?_⟩
  rintro _ ⟨k, rfl, hk, hg⟩
  refine ⟨fun h => ?_, fun h => ?_⟩
  · have h : 0 < k := by have := of_decide_eq_true h; omega
    have e : w64 ((k : Int) - 1) = ((k - 1 : Nat) : Int) := by rw [w64_eq _ (by omega)]; omega
    rw [e]
    refine ⟨by omega, fun q hq => ?_⟩
    rw [Int.toNat_natCast] at hq
    have ht := wtake_next l (k - 1) q hq
    have e1 : k - 1 + 1 = k := by omega
    rw [e1] at ht
    refine ⟨fun h1 => ?_, fun h1 => ?_⟩
    · have h1 : q = 0 := by simpa using h1
      subst h1
      rw [ht, gtrim_snoc0] at hg
      exact ⟨⟨k - 1, rfl, by omega, hg⟩, by (try dsimp only); omega⟩
    · have h1 : q ≠ 0 := by simpa using h1
      refine ⟨by omega, ?_⟩
      rw [Int.toNat_natCast, ← hg, ht, gtrim_snoc _ _ h1]
  · have h : k = 0 := by have := of_decide_eq_false h; omega
    subst h
    refine ⟨by omega, ?_⟩
    rw [← hg]
    rfl
/-- How many bits a number has. -/
theorem shru (n s : Nat) (hs : s ≤ 64) (k : IntKind) (hk : s ≤ k.bits) : bShr k (n : Int) (s : Int) = ((n / 2 ^ s : Nat) : Int) := by
  unfold bShr
  have : min (s : Int).toNat k.bits = s := by rw [Int.toNat_natCast]; omega
  rw [this, Int.fdiv_eq_ediv_of_nonneg _ (Int.le_of_lt (Int.pow_pos (by decide)))]
  norm_cast
theorem wu32_nat (n : Nat) : wu32 (n : Int) = ((n % 4294967296 : Nat) : Int) := by
  show IntKind.u32.wrap (n : Int) = _
  rw [IntKind.wrap_u32]
  omega
theorem ws_last {n : Nat} (h : n ≠ 0) : ∃ (p : List Int) (q : Nat), ws n = p ++ [(q : Int)] ∧ q ≠ 0 ∧ q < 4294967296 := by
  have hne : ws n ≠ [] := by rw [ws_pos h]; simp
  obtain ⟨p, x, hp⟩ : ∃ p x, ws n = p ++ [x] := ⟨(ws n).dropLast, (ws n).getLast hne, (List.dropLast_concat_getLast hne).symm⟩
  have hx := ws_wok n x (by rw [hp]; simp)
  refine ⟨p, x.toNat, by rw [hp]; congr 2; omega, fun h0 => ?_, by omega⟩
  have h1 : x = 0 := by omega
  have h2 := ws_trim n
  rw [hp, h1, gtrim_snoc0] at h2
  have h3 := gtrim_len p
  rw [h2] at h3
  rw [List.length_append, List.length_singleton] at h3
  omega

end Go.Proofs.YtdndfbamhnchfaaDoor
set_option linter.unusedVariables false
set_option linter.unusedSimpArgs false
namespace Go.Proofs.YtdndfbamhnchfaaDoor
open Go.Sy Go.RowKit
def gtwin_vc (u0 : List Int) (K : (List Int) → Prop) : Prop :=
  (u0.length ≤ 140737488355328 →
    (((([] : List Int).length + u0.length) * 4 ≤ 140737488355328) ∧
    (K (([] : List Int) ++ u0))))

def gwords_vc (u0 : Int) (K : (List Int) → Prop) : Prop :=
  ((gtrimS ([wu32 u0, wu32 (bShr .u64 u0 32)] : List Int)).length ≤ 140737488355328 →
    (K (gtrimS ([wu32 u0, wu32 (bShr .u64 u0 32)] : List Int))))

def gmul_vc (u0 : List Int) (u1 : List Int) (K : (List Int) → Prop) : Prop :=
  (u0.length ≤ 140737488355328 →
    (u1.length ≤ 140737488355328 →
    (((((u0.length : Int) == 0) || ((u1.length : Int) == 0)) = true →
      (K [])) ∧
    ((((u0.length : Int) == 0) || ((u1.length : Int) == 0)) = false →
      ((0 ≤ (w64 ((u0.length : Int) + (u1.length : Int))) ∧ (w64 ((u0.length : Int) + (u1.length : Int))) ≤ (w64 ((u0.length : Int) + (u1.length : Int))) ∧ (w64 ((u0.length : Int) + (u1.length : Int))) * 4 ≤ 140737488355328) ∧
      (∃ inv61 : Int → (List Int) → Prop, ∃ mu61 : Int → (List Int) → Nat, inv61 0 (List.replicate (w64 ((u0.length : Int) + (u1.length : Int))).toNat (0 : Int)) ∧
      (∀ (x6 : Int) (zg490 : List Int), inv61 x6 zg490 →
      (((decide (x6 < (u0.length : Int))) = true →
        (∃ inv92 : Int → Int → (List Int) → Prop, ∃ mu92 : Int → Int → (List Int) → Nat, inv92 0 0 zg490 ∧
        (∀ (x7 : Int) (x8 : Int) (zg490v : List Int), inv92 x7 x8 zg490v →
        (((decide (x8 < (u1.length : Int))) = true →
          ((0 ≤ x6 ∧ x6 < (u0.length : Int)) ∧
          (∀ q145, u0[x6.toNat]? = some q145 →
          ((0 ≤ x8 ∧ x8 < (u1.length : Int)) ∧
          (∀ q163, u1[x8.toNat]? = some q163 →
          ((0 ≤ w64 (x6 + x8) ∧ w64 (x6 + x8) < (zg490v.length : Int)) ∧
          (∀ q185, zg490v[(w64 (x6 + x8)).toNat]? = some q185 →
          ((0 ≤ w64 (x6 + x8) ∧ w64 (x6 + x8) < (zg490v.length : Int)) ∧
          (inv92 (bShr .u64 (wu64 (x7 + (wu64 ((wu64 ((wu64 q145) * (wu64 q163))) + (wu64 q185))))) 32) (w64 (x8 + 1)) (zg490v.set (w64 (x6 + x8)).toNat (wu32 (wu64 (x7 + (wu64 ((wu64 ((wu64 q145) * (wu64 q163))) + (wu64 q185))))))) ∧ mu92 (bShr .u64 (wu64 (x7 + (wu64 ((wu64 ((wu64 q145) * (wu64 q163))) + (wu64 q185))))) 32) (w64 (x8 + 1)) (zg490v.set (w64 (x6 + x8)).toNat (wu32 (wu64 (x7 + (wu64 ((wu64 ((wu64 q145) * (wu64 q163))) + (wu64 q185))))))) < mu92 x7 x8 zg490v))))))))) ∧
        ((decide (x8 < (u1.length : Int))) = false →
          ((0 ≤ w64 (x6 + (u1.length : Int)) ∧ w64 (x6 + (u1.length : Int)) < (zg490v.length : Int)) ∧
          (inv61 (w64 (x6 + 1)) (zg490v.set (w64 (x6 + (u1.length : Int))).toNat (wu32 x7)) ∧ mu61 (w64 (x6 + 1)) (zg490v.set (w64 (x6 + (u1.length : Int))).toNat (wu32 x7)) < mu61 x6 zg490))))))) ∧
      ((decide (x6 < (u0.length : Int))) = false →
        ((gtrimS zg490).length ≤ 140737488355328 →
        (K (gtrimS zg490))))))))))))

def gadd_vc (u0 : List Int) (u1 : List Int) (K : (List Int) → Prop) : Prop :=
  (u0.length ≤ 140737488355328 →
    (u1.length ≤ 140737488355328 →
    (((decide ((u0.length : Int) < (u1.length : Int))) = true →
      ((0 ≤ (w64 ((u1.length : Int) + 1)) ∧ (w64 ((u1.length : Int) + 1)) ≤ (w64 ((u1.length : Int) + 1)) ∧ (w64 ((u1.length : Int) + 1)) * 4 ≤ 140737488355328) ∧
      (∃ inv58 : Int → Int → (List Int) → Prop, ∃ mu58 : Int → Int → (List Int) → Nat, inv58 0 0 (List.replicate (w64 ((u1.length : Int) + 1)).toNat (0 : Int)) ∧
      (∀ (x6 : Int) (x7 : Int) (zg430 : List Int), inv58 x6 x7 zg430 →
      (((decide (x7 < (u1.length : Int))) = true →
        ((0 ≤ x7 ∧ x7 < (u1.length : Int)) ∧
        (∀ q94, u1[x7.toNat]? = some q94 →
        (((decide (x7 < (u0.length : Int))) = true →
          ((0 ≤ x7 ∧ x7 < (u0.length : Int)) ∧
          (∀ q132, u0[x7.toNat]? = some q132 →
          ((0 ≤ x7 ∧ x7 < (zg430.length : Int)) ∧
          (inv58 (bShr .u64 (wu64 ((wu64 (x6 + (wu64 q94))) + (wu64 q132))) 32) (w64 (x7 + 1)) (zg430.set x7.toNat (wu32 (wu64 ((wu64 (x6 + (wu64 q94))) + (wu64 q132))))) ∧ mu58 (bShr .u64 (wu64 ((wu64 (x6 + (wu64 q94))) + (wu64 q132))) 32) (w64 (x7 + 1)) (zg430.set x7.toNat (wu32 (wu64 ((wu64 (x6 + (wu64 q94))) + (wu64 q132))))) < mu58 x6 x7 zg430))))) ∧
        ((decide (x7 < (u0.length : Int))) = false →
          ((0 ≤ x7 ∧ x7 < (zg430.length : Int)) ∧
          (inv58 (bShr .u64 (wu64 (x6 + (wu64 q94))) 32) (w64 (x7 + 1)) (zg430.set x7.toNat (wu32 (wu64 (x6 + (wu64 q94))))) ∧ mu58 (bShr .u64 (wu64 (x6 + (wu64 q94))) 32) (w64 (x7 + 1)) (zg430.set x7.toNat (wu32 (wu64 (x6 + (wu64 q94))))) < mu58 x6 x7 zg430))))))) ∧
      ((decide (x7 < (u1.length : Int))) = false →
        ((0 ≤ (u1.length : Int) ∧ (u1.length : Int) < (zg430.length : Int)) ∧
        ((gtrimS (zg430.set (u1.length : Int).toNat (wu32 x6))).length ≤ 140737488355328 →
        (K (gtrimS (zg430.set (u1.length : Int).toNat (wu32 x6)))))))))))) ∧
    ((decide ((u0.length : Int) < (u1.length : Int))) = false →
      ((0 ≤ (w64 ((u0.length : Int) + 1)) ∧ (w64 ((u0.length : Int) + 1)) ≤ (w64 ((u0.length : Int) + 1)) ∧ (w64 ((u0.length : Int) + 1)) * 4 ≤ 140737488355328) ∧
      (∃ inv282 : Int → Int → (List Int) → Prop, ∃ mu282 : Int → Int → (List Int) → Nat, inv282 0 0 (List.replicate (w64 ((u0.length : Int) + 1)).toNat (0 : Int)) ∧
      (∀ (x6 : Int) (x7 : Int) (zg2670 : List Int), inv282 x6 x7 zg2670 →
      (((decide (x7 < (u0.length : Int))) = true →
        ((0 ≤ x7 ∧ x7 < (u0.length : Int)) ∧
        (∀ q318, u0[x7.toNat]? = some q318 →
        (((decide (x7 < (u1.length : Int))) = true →
          ((0 ≤ x7 ∧ x7 < (u1.length : Int)) ∧
          (∀ q356, u1[x7.toNat]? = some q356 →
          ((0 ≤ x7 ∧ x7 < (zg2670.length : Int)) ∧
          (inv282 (bShr .u64 (wu64 ((wu64 (x6 + (wu64 q318))) + (wu64 q356))) 32) (w64 (x7 + 1)) (zg2670.set x7.toNat (wu32 (wu64 ((wu64 (x6 + (wu64 q318))) + (wu64 q356))))) ∧ mu282 (bShr .u64 (wu64 ((wu64 (x6 + (wu64 q318))) + (wu64 q356))) 32) (w64 (x7 + 1)) (zg2670.set x7.toNat (wu32 (wu64 ((wu64 (x6 + (wu64 q318))) + (wu64 q356))))) < mu282 x6 x7 zg2670))))) ∧
        ((decide (x7 < (u1.length : Int))) = false →
          ((0 ≤ x7 ∧ x7 < (zg2670.length : Int)) ∧
          (inv282 (bShr .u64 (wu64 (x6 + (wu64 q318))) 32) (w64 (x7 + 1)) (zg2670.set x7.toNat (wu32 (wu64 (x6 + (wu64 q318))))) ∧ mu282 (bShr .u64 (wu64 (x6 + (wu64 q318))) 32) (w64 (x7 + 1)) (zg2670.set x7.toNat (wu32 (wu64 (x6 + (wu64 q318))))) < mu282 x6 x7 zg2670))))))) ∧
      ((decide (x7 < (u0.length : Int))) = false →
        ((0 ≤ (u0.length : Int) ∧ (u0.length : Int) < (zg2670.length : Int)) ∧
        ((gtrimS (zg2670.set (u0.length : Int).toNat (wu32 x6))).length ≤ 140737488355328 →
        (K (gtrimS (zg2670.set (u0.length : Int).toNat (wu32 x6)))))))))))))))

def gsub_vc (u0 : List Int) (u1 : List Int) (K : (List Int) → Prop) : Prop :=
  (u0.length ≤ 140737488355328 →
    (u1.length ≤ 140737488355328 →
    ((0 ≤ (u0.length : Int) ∧ (u0.length : Int) ≤ (u0.length : Int) ∧ (u0.length : Int) * 4 ≤ 140737488355328) ∧
    (∃ inv34 : Int → Int → (List Int) → Prop, ∃ mu34 : Int → Int → (List Int) → Nat, inv34 0 0 (List.replicate (u0.length : Int).toNat (0 : Int)) ∧
    (∀ (x6 : Int) (x7 : Int) (zg190 : List Int), inv34 x6 x7 zg190 →
    (((decide (x7 < (u0.length : Int))) = true →
      ((0 ≤ x7 ∧ x7 < (u0.length : Int)) ∧
      (∀ q68, u0[x7.toNat]? = some q68 →
      (((decide (x7 < (u1.length : Int))) = true →
        ((0 ≤ x7 ∧ x7 < (u1.length : Int)) ∧
        (∀ q108, u1[x7.toNat]? = some q108 →
        ((0 ≤ x7 ∧ x7 < (zg190.length : Int)) ∧
        (inv34 (bShr .u64 (wu64 ((wu64 ((wu64 q68) - x6)) - (wu64 q108))) 63) (w64 (x7 + 1)) (zg190.set x7.toNat (wu32 (wu64 ((wu64 ((wu64 q68) - x6)) - (wu64 q108))))) ∧ mu34 (bShr .u64 (wu64 ((wu64 ((wu64 q68) - x6)) - (wu64 q108))) 63) (w64 (x7 + 1)) (zg190.set x7.toNat (wu32 (wu64 ((wu64 ((wu64 q68) - x6)) - (wu64 q108))))) < mu34 x6 x7 zg190))))) ∧
      ((decide (x7 < (u1.length : Int))) = false →
        ((0 ≤ x7 ∧ x7 < (zg190.length : Int)) ∧
        (inv34 (bShr .u64 (wu64 ((wu64 q68) - x6)) 63) (w64 (x7 + 1)) (zg190.set x7.toNat (wu32 (wu64 ((wu64 q68) - x6)))) ∧ mu34 (bShr .u64 (wu64 ((wu64 q68) - x6)) 63) (w64 (x7 + 1)) (zg190.set x7.toNat (wu32 (wu64 ((wu64 q68) - x6)))) < mu34 x6 x7 zg190))))))) ∧
    ((decide (x7 < (u0.length : Int))) = false →
      ((gtrimS zg190).length ≤ 140737488355328 →
      (K (gtrimS zg190))))))))))

def gleft_vc (u0 : List Int) (u1 : Int) (K : (List Int) → Prop) : Prop :=
  (u0.length ≤ 140737488355328 →
    ((((u0.length : Int) == 0) = true →
      (K [])) ∧
    (((u0.length : Int) == 0) = false →
      ((0 ≤ (w64 ((w64 ((u0.length : Int) + (w64 (wu64 (u1.tdiv 32))))) + 1)) ∧ (w64 ((w64 ((u0.length : Int) + (w64 (wu64 (u1.tdiv 32))))) + 1)) ≤ (w64 ((w64 ((u0.length : Int) + (w64 (wu64 (u1.tdiv 32))))) + 1)) ∧ (w64 ((w64 ((u0.length : Int) + (w64 (wu64 (u1.tdiv 32))))) + 1)) * 4 ≤ 140737488355328) ∧
      (∃ inv61 : Int → (List Int) → Prop, ∃ mu61 : Int → (List Int) → Nat, inv61 0 (List.replicate (w64 ((w64 ((u0.length : Int) + (w64 (wu64 (u1.tdiv 32))))) + 1)).toNat (0 : Int)) ∧
      (∀ (x8 : Int) (zg490 : List Int), inv61 x8 zg490 →
      (((decide (x8 < (u0.length : Int))) = true →
        ((0 ≤ x8 ∧ x8 < (u0.length : Int)) ∧
        (∀ q95, u0[x8.toNat]? = some q95 →
        ((0 ≤ u1.tmod 32) ∧
        ((0 ≤ w64 (x8 + (w64 (wu64 (u1.tdiv 32)))) ∧ w64 (x8 + (w64 (wu64 (u1.tdiv 32)))) < (zg490.length : Int)) ∧
        (∀ q129, zg490[(w64 (x8 + (w64 (wu64 (u1.tdiv 32))))).toNat]? = some q129 →
        ((0 ≤ w64 (x8 + (w64 (wu64 (u1.tdiv 32)))) ∧ w64 (x8 + (w64 (wu64 (u1.tdiv 32)))) < (zg490.length : Int)) ∧
        ((0 ≤ w64 ((w64 (x8 + (w64 (wu64 (u1.tdiv 32))))) + 1) ∧ w64 ((w64 (x8 + (w64 (wu64 (u1.tdiv 32))))) + 1) < ((zg490.set (w64 (x8 + (w64 (wu64 (u1.tdiv 32))))).toNat (bOr .u32 q129 (wu32 (bShl .u64 (wu64 q95) (u1.tmod 32))))).length : Int)) ∧
        (∀ q170, (zg490.set (w64 (x8 + (w64 (wu64 (u1.tdiv 32))))).toNat (bOr .u32 q129 (wu32 (bShl .u64 (wu64 q95) (u1.tmod 32)))))[(w64 ((w64 (x8 + (w64 (wu64 (u1.tdiv 32))))) + 1)).toNat]? = some q170 →
        ((0 ≤ w64 ((w64 (x8 + (w64 (wu64 (u1.tdiv 32))))) + 1) ∧ w64 ((w64 (x8 + (w64 (wu64 (u1.tdiv 32))))) + 1) < ((zg490.set (w64 (x8 + (w64 (wu64 (u1.tdiv 32))))).toNat (bOr .u32 q129 (wu32 (bShl .u64 (wu64 q95) (u1.tmod 32))))).length : Int)) ∧
        (inv61 (w64 (x8 + 1)) ((zg490.set (w64 (x8 + (w64 (wu64 (u1.tdiv 32))))).toNat (bOr .u32 q129 (wu32 (bShl .u64 (wu64 q95) (u1.tmod 32))))).set (w64 ((w64 (x8 + (w64 (wu64 (u1.tdiv 32))))) + 1)).toNat (bOr .u32 q170 (wu32 (bShr .u64 (bShl .u64 (wu64 q95) (u1.tmod 32)) 32)))) ∧ mu61 (w64 (x8 + 1)) ((zg490.set (w64 (x8 + (w64 (wu64 (u1.tdiv 32))))).toNat (bOr .u32 q129 (wu32 (bShl .u64 (wu64 q95) (u1.tmod 32))))).set (w64 ((w64 (x8 + (w64 (wu64 (u1.tdiv 32))))) + 1)).toNat (bOr .u32 q170 (wu32 (bShr .u64 (bShl .u64 (wu64 q95) (u1.tmod 32)) 32)))) < mu61 x8 zg490))))))))))) ∧
      ((decide (x8 < (u0.length : Int))) = false →
        ((gtrimS zg490).length ≤ 140737488355328 →
        (K (gtrimS zg490)))))))))))

def gright_vc (u0 : List Int) (u1 : Int) (K : (List Int) → Prop) : Prop :=
  (u0.length ≤ 140737488355328 →
    (((decide ((w64 (wu64 (u1.tdiv 32))) ≥ (u0.length : Int))) = true →
      (K [])) ∧
    ((decide ((w64 (wu64 (u1.tdiv 32))) ≥ (u0.length : Int))) = false →
      ((0 ≤ (w64 ((u0.length : Int) - (w64 (wu64 (u1.tdiv 32))))) ∧ (w64 ((u0.length : Int) - (w64 (wu64 (u1.tdiv 32))))) ≤ (w64 ((u0.length : Int) - (w64 (wu64 (u1.tdiv 32))))) ∧ (w64 ((u0.length : Int) - (w64 (wu64 (u1.tdiv 32))))) * 4 ≤ 140737488355328) ∧
      (∃ inv61 : Int → (List Int) → Prop, ∃ mu61 : Int → (List Int) → Nat, inv61 0 (List.replicate (w64 ((u0.length : Int) - (w64 (wu64 (u1.tdiv 32))))).toNat (0 : Int)) ∧
      (∀ (x8 : Int) (zg490 : List Int), inv61 x8 zg490 →
      (((decide (x8 < (zg490.length : Int))) = true →
        ((0 ≤ w64 (x8 + (w64 (wu64 (u1.tdiv 32)))) ∧ w64 (x8 + (w64 (wu64 (u1.tdiv 32)))) < (u0.length : Int)) ∧
        (∀ q99, u0[(w64 (x8 + (w64 (wu64 (u1.tdiv 32))))).toNat]? = some q99 →
        (((decide ((w64 ((w64 (x8 + (w64 (wu64 (u1.tdiv 32))))) + 1)) < (u0.length : Int))) = true →
          ((0 ≤ w64 ((w64 (x8 + (w64 (wu64 (u1.tdiv 32))))) + 1) ∧ w64 ((w64 (x8 + (w64 (wu64 (u1.tdiv 32))))) + 1) < (u0.length : Int)) ∧
          (∀ q147, u0[(w64 ((w64 (x8 + (w64 (wu64 (u1.tdiv 32))))) + 1)).toNat]? = some q147 →
          ((0 ≤ u1.tmod 32) ∧
          ((0 ≤ x8 ∧ x8 < (zg490.length : Int)) ∧
          (inv61 (w64 (x8 + 1)) (zg490.set x8.toNat (wu32 (bShr .u64 (bOr .u64 (wu64 q99) (bShl .u64 (wu64 q147) 32)) (u1.tmod 32)))) ∧ mu61 (w64 (x8 + 1)) (zg490.set x8.toNat (wu32 (bShr .u64 (bOr .u64 (wu64 q99) (bShl .u64 (wu64 q147) 32)) (u1.tmod 32)))) < mu61 x8 zg490)))))) ∧
        ((decide ((w64 ((w64 (x8 + (w64 (wu64 (u1.tdiv 32))))) + 1)) < (u0.length : Int))) = false →
          ((0 ≤ u1.tmod 32) ∧
          ((0 ≤ x8 ∧ x8 < (zg490.length : Int)) ∧
          (inv61 (w64 (x8 + 1)) (zg490.set x8.toNat (wu32 (bShr .u64 (wu64 q99) (u1.tmod 32)))) ∧ mu61 (w64 (x8 + 1)) (zg490.set x8.toNat (wu32 (bShr .u64 (wu64 q99) (u1.tmod 32)))) < mu61 x8 zg490)))))))) ∧
      ((decide (x8 < (zg490.length : Int))) = false →
        ((gtrimS zg490).length ≤ 140737488355328 →
        (K (gtrimS zg490)))))))))))

/-! Pure proofs: no program in sight. -/
theorem wu64_eq (x : Int) (h : 0 ≤ x ∧ x ≤ 18446744073709551615) : wu64 x = x := IntWalk.u64_in x h
theorem shr32 (n : Nat) : bShr .u64 (n : Int) 32 = ((n / 2 ^ 32 : Nat) : Int) := shru n 32 (by omega) .u64 (by decide)
theorem take_set_self {α : Type} (l : List α) (k : Nat) (x : α) : (l.set k x).take k = l.take k := by
  apply List.ext_getElem?
  intro j
  rw [List.getElem?_take, List.getElem?_take]
  split
  · rw [List.getElem?_set_ne (by omega)]
  · rfl
theorem wv_take_set {l : List Int} {k d : Nat} (h : k < l.length) : wv ((l.set k (d : Int)).take (k + 1)) = wv (l.take k) + 4294967296 ^ k * d := by
  have h1 : (l.set k (d : Int))[k]? = some (d : Int) := by rw [List.getElem?_set_self (by omega)]
  rw [wv_next h1, take_set_self]
theorem bor64 (x y : Nat) (hx : x < 18446744073709551616) (hy : y < 18446744073709551616) : bOr .u64 (x : Int) (y : Int) = ((x ||| y : Nat) : Int) := by
  have e : (BitVec.ofInt IntKind.u64.bits (x : Int) ||| BitVec.ofInt IntKind.u64.bits (y : Int)).toNat = x ||| y := by
    rw [BitVec.toNat_or]
    show (BitVec.ofInt 64 (x : Int)).toNat ||| (BitVec.ofInt 64 (y : Int)).toNat = _
    rw [ofInt_toNat x hx, ofInt_toNat y hy]
  unfold bOr
  rw [e]
  have := Nat.or_lt_two_pow (x := x) (y := y) (n := 64) hx hy
  exact wu64_eq _ (by omega)
theorem ofInt32_toNat (a : Nat) (h : a < 4294967296) : (BitVec.ofInt 32 (a : Int)).toNat = a := by simp; omega
theorem wu32_eq (n : Nat) (h : n < 4294967296) : wu32 (n : Int) = (n : Int) := by rw [wu32_nat, Nat.mod_eq_of_lt h]
theorem bor32 (x y : Nat) (hx : x < 4294967296) (hy : y < 4294967296) : bOr .u32 (x : Int) (y : Int) = ((x ||| y : Nat) : Int) := by
  have e : (BitVec.ofInt IntKind.u32.bits (x : Int) ||| BitVec.ofInt IntKind.u32.bits (y : Int)).toNat = x ||| y := by
    rw [BitVec.toNat_or]
    show (BitVec.ofInt 32 (x : Int)).toNat ||| (BitVec.ofInt 32 (y : Int)).toNat = _
    rw [ofInt32_toNat x hx, ofInt32_toNat y hy]
  unfold bOr
  rw [e]
  exact wu32_eq _ (Nat.or_lt_two_pow (n := 32) hx hy)
theorem shlu (n s : Nat) (hs : s ≤ 64) (h : n * 2 ^ s < 18446744073709551616) : bShl .u64 (n : Int) (s : Int) = ((n * 2 ^ s : Nat) : Int) := by
  unfold bShl
  have e : min (s : Int).toNat IntKind.u64.bits = s := by rw [Int.toNat_natCast]; exact Nat.min_eq_left hs
  rw [e]
  have e2 : (n : Int) * 2 ^ s = ((n * 2 ^ s : Nat) : Int) := by norm_cast
  rw [e2]
  exact wu64_eq _ (by omega)
def gtwinS (l : List Int) : List Int := l
theorem gtwin_ok (l : List Int) (h : l.length ≤ 1000000) : gtwin_vc l (fun r => r = gtwinS l) := fun _ => ⟨by simp; omega, rfl⟩
def gwordsS (x : Int) : List Int := ws x.toNat
theorem gwords_ok (x : Int) (h : 0 ≤ x ∧ x ≤ 18446744073709551615) : gwords_vc x (fun r => r = gwordsS x) := by
  intro _
  obtain ⟨n, rfl⟩ : ∃ n : Nat, x = n := ⟨x.toNat, by omega⟩
  have e : bShr .u64 (n : Int) 32 = ((n / 2 ^ 32 : Nat) : Int) := shru n 32 (by omega) .u64 (by decide)
  rw [e, wu32_nat, wu32_nat]
  have hw : wok [((n % 4294967296 : Nat) : Int), ((n / 2 ^ 32 % 4294967296 : Nat) : Int)] := by
    intro y hy
    rcases List.mem_cons.1 hy with rfl | hy
    · omega
    · rw [List.mem_singleton.1 hy]; omega
  rw [gtrim_ws hw]
  unfold gwordsS
  congr 1
  simp only [wv, Int.toNat_natCast]
  omega
def gaddS (a b : List Int) : List Int := ws (wv a + wv b)
theorem gadd_loop (a b : List Int) (hab : b.length ≤ a.length) (ha : wok a) (hb : wok b) (hl : a.length ≤ 1000000) {Q : List Int → Prop} (hQ : ∀ l, l = ws (wv a + wv b) → Q l) :
      ((0 ≤ (w64 ((a.length : Int) + 1)) ∧ (w64 ((a.length : Int) + 1)) ≤ (w64 ((a.length : Int) + 1)) ∧ (w64 ((a.length : Int) + 1)) * 4 ≤ 140737488355328) ∧
      (∃ inv59 : Int → Int → (List Int) → Prop, ∃ mu59 : Int → Int → (List Int) → Nat, inv59 0 0 (List.replicate (w64 ((a.length : Int) + 1)).toNat (0 : Int)) ∧
      (∀ (x6 : Int) (x7 : Int) (zg430 : List Int), inv59 x6 x7 zg430 →
      (((decide (x7 < (a.length : Int))) = true →
        ((0 ≤ x7 ∧ x7 < (a.length : Int)) ∧
        (∀ q95, a[x7.toNat]? = some q95 →
        (((decide (x7 < (b.length : Int))) = true →
          ((0 ≤ x7 ∧ x7 < (b.length : Int)) ∧
          (∀ q134, b[x7.toNat]? = some q134 →
          ((0 ≤ x7 ∧ x7 < (zg430.length : Int)) ∧
          (inv59 (bShr .u64 (wu64 ((wu64 (x6 + (wu64 q95))) + (wu64 q134))) 32) (w64 (x7 + 1)) (zg430.set x7.toNat (wu32 (wu64 ((wu64 (x6 + (wu64 q95))) + (wu64 q134))))) ∧ mu59 (bShr .u64 (wu64 ((wu64 (x6 + (wu64 q95))) + (wu64 q134))) 32) (w64 (x7 + 1)) (zg430.set x7.toNat (wu32 (wu64 ((wu64 (x6 + (wu64 q95))) + (wu64 q134))))) < mu59 x6 x7 zg430))))) ∧
        ((decide (x7 < (b.length : Int))) = false →
          ((0 ≤ x7 ∧ x7 < (zg430.length : Int)) ∧
          (inv59 (bShr .u64 (wu64 (x6 + (wu64 q95))) 32) (w64 (x7 + 1)) (zg430.set x7.toNat (wu32 (wu64 (x6 + (wu64 q95))))) ∧ mu59 (bShr .u64 (wu64 (x6 + (wu64 q95))) 32) (w64 (x7 + 1)) (zg430.set x7.toNat (wu32 (wu64 (x6 + (wu64 q95))))) < mu59 x6 x7 zg430))))))) ∧
      ((decide (x7 < (a.length : Int))) = false →
        ((0 ≤ (a.length : Int) ∧ (a.length : Int) < (zg430.length : Int)) ∧
        ((gtrimS (zg430.set (a.length : Int).toNat (wu32 x6))).length ≤ 140737488355328 →
        (Q (gtrimS (zg430.set (a.length : Int).toNat (wu32 x6))))))))))) := by
  have e0 : w64 ((a.length : Int) + 1) = ((a.length + 1 : Nat) : Int) := w64_succ _ (by omega)
  rw [e0]
  refine ⟨by omega, fun c i z => ∃ (cn k : Nat), c = cn ∧ i = k ∧ k ≤ a.length ∧ cn ≤ 1 ∧ z.length = a.length + 1 ∧ wok z ∧ wv (z.take k) + 4294967296 ^ k * cn = wv (a.take k) + wv (b.take k), fun _ i _ => a.length - i.toNat, ⟨0, 0, rfl, rfl, by omega, by omega, by simp, wok_rep _, by simp [wv]⟩, ?_⟩
  rintro _ _ z ⟨c, k, rfl, rfl, hk, hc, hz, hw, hv⟩
  have hmax : k < a.length → ∀ s : Nat, s ≤ 8589934591 → ∀ p n : Nat, s = c + n + p → a[k]? = some (n : Int) → wv (b.take (k + 1)) = wv (b.take k) + 4294967296 ^ k * p →
      (∃ (cn j : Nat), bShr .u64 (s : Int) 32 = cn ∧ w64 ((k : Int) + 1) = j ∧ j ≤ a.length ∧ cn ≤ 1 ∧ (z.set k (wu32 (s : Int))).length = a.length + 1 ∧ wok (z.set k (wu32 (s : Int))) ∧ wv ((z.set k (wu32 (s : Int))).take j) + 4294967296 ^ j * cn = wv (a.take j) + wv (b.take j)) ∧ a.length - (w64 ((k : Int) + 1)).toNat < a.length - k := by
    intro hka s hs p n hsum hn hp
    rw [w64_succ k (by omega), wu32_nat, shr32 s]
    refine ⟨⟨s / 2 ^ 32, k + 1, rfl, rfl, by omega, by omega, by rw [List.length_set]; exact hz, wok_set hw _ _ (Nat.mod_lt _ (by decide)), ?_⟩, by rw [Int.toNat_natCast]; omega⟩
    rw [wv_take_set (by omega), wv_next hn, hp, Nat.pow_succ]
    have h1 : 4294967296 ^ k * s = 4294967296 ^ k * (s % 4294967296) + 4294967296 ^ k * 4294967296 * (s / 2 ^ 32) := by
      rw [Nat.mul_assoc, ← Nat.mul_add]
      congr 1
      omega
    have h2 : 4294967296 ^ k * s = 4294967296 ^ k * c + 4294967296 ^ k * n + 4294967296 ^ k * p := by rw [hsum, Nat.mul_add, Nat.mul_add]
    generalize 4294967296 ^ k * s = A1 at *
    omega
  refine ⟨fun h1 => ?_, fun h1 => ?_⟩
  · have hka : k < a.length := by have := of_decide_eq_true h1; omega
    refine ⟨by omega, fun q hq => ?_⟩
    rw [Int.toNat_natCast] at hq
    obtain ⟨n, rfl, hn⟩ := wok_at ha hq
    rw [wu64_eq (n : Int) (by omega), wu64_eq ((c : Int) + n) (by omega)]
    refine ⟨fun h2 => ⟨by have := of_decide_eq_true h2; omega, fun p hp => ⟨by omega, ?_⟩⟩, fun h2 => ⟨by omega, ?_⟩⟩
    · rw [Int.toNat_natCast] at hp ⊢
      obtain ⟨m, rfl, hm⟩ := wok_at hb hp
      rw [wu64_eq (m : Int) (by omega), wu64_eq ((c : Int) + n + m) (by omega)]
      exact hmax hka (c + n + m) (by omega) m n rfl hq (wv_next hp)
    · rw [Int.toNat_natCast]
      have hkb : b.length ≤ k := by have := of_decide_eq_false h2; omega
      refine hmax hka (c + n) (by omega) 0 n rfl hq ?_
      have t1 : b.take (k + 1) = b := List.take_of_length_le (by omega)
      have t2 : b.take k = b := List.take_of_length_le hkb
      rw [t1, t2]
      rfl
  · have hka : k = a.length := by have := of_decide_eq_false h1; omega
    subst hka
    refine ⟨by omega, fun _ => hQ _ ?_⟩
    rw [Int.toNat_natCast, wu32_nat, gtrim_ws (wok_set hw _ _ (Nat.mod_lt _ (by decide)))]
    congr 1
    have h2 := wv_take_set (l := z) (k := a.length) (d := c % 4294967296) (by omega)
    have t1 : (z.set a.length ((c % 4294967296 : Nat) : Int)).take (a.length + 1) = z.set a.length ((c % 4294967296 : Nat) : Int) := List.take_of_length_le (by rw [List.length_set]; omega)
    have t2 : b.take a.length = b := List.take_of_length_le hab
    rw [t1] at h2
    rw [List.take_length, t2] at hv
    rw [h2, Nat.mod_eq_of_lt (by omega)]
    exact hv
theorem gadd_ok (a b : List Int) (h : wok a ∧ wok b ∧ a.length ≤ 1000000 ∧ b.length ≤ 1000000) : gadd_vc a b (fun r => r = gaddS a b) := by
  obtain ⟨ha, hb, la, lb⟩ := h
  intro _ _
  refine ⟨fun h1 => ?_, fun h1 => ?_⟩
  · exact gadd_loop (Q := fun r => r = gaddS a b) b a (by have := of_decide_eq_true h1; omega) hb ha lb fun l h => by
      show l = ws (wv a + wv b)
      rw [h, Nat.add_comm]
  · exact gadd_loop (Q := fun r => r = gaddS a b) a b (by have := of_decide_eq_false h1; omega) ha hb la fun l h => h
def gmulS (a b : List Int) : List Int := ws (wv a * wv b)
theorem mul_lt32 {n p : Nat} (hn : n < 4294967296) (hp : p < 4294967296) : n * p ≤ 18446744065119617025 :=
  Nat.mul_le_mul (Nat.le_of_lt_succ hn) (Nat.le_of_lt_succ hp)
theorem gmul_ok (a b : List Int) (h : wok a ∧ wok b ∧ a.length ≤ 1000 ∧ b.length ≤ 1000) : gmul_vc a b (fun r => r = gmulS a b) := by
  obtain ⟨ha, hb, la, lb⟩ := h
  intro _ _
  refine ⟨fun h1 => ?_, fun h1 => ?_⟩
  · have : a = [] ∨ b = [] := by
      rcases (show ((a.length : Int) == 0) = true ∨ ((b.length : Int) == 0) = true by simpa only [Bool.or_eq_true] using h1) with h1 | h1
      · have h2 : (a.length : Int) = 0 := by simpa only [beq_iff_eq] using h1
        exact .inl (List.eq_nil_of_length_eq_zero (by omega))
      · have h2 : (b.length : Int) = 0 := by simpa only [beq_iff_eq] using h1
        exact .inr (List.eq_nil_of_length_eq_zero (by omega))
    unfold gmulS
    rcases this with rfl | rfl
    · rw [wv, Nat.zero_mul, ws_zero]
    · rw [wv, Nat.mul_zero, ws_zero]
  · have e0 : w64 ((a.length : Int) + (b.length : Int)) = ((a.length + b.length : Nat) : Int) := by rw [w64_eq _ (by omega)]; rfl
    rw [e0]
    refine ⟨by omega, fun i z => ∃ k : Nat, i = k ∧ k ≤ a.length ∧ z.length = a.length + b.length ∧ wok z ∧ wv z = wv (a.take k) * wv b ∧ ∀ j, k + b.length ≤ j → j < a.length + b.length → z[j]? = some 0, fun i _ => a.length - i.toNat, ⟨0, rfl, by omega, by rw [List.length_replicate, Int.toNat_natCast], wok_rep _, by rw [wv_rep]; simp [wv], fun j _ hj => by rw [Int.toNat_natCast, List.getElem?_replicate, if_pos hj]⟩, ?_⟩
    rintro _ z ⟨k, rfl, hk, hz, hw, hv, h0⟩
    refine ⟨fun h2 => ?_, fun h2 => ?_⟩
    · have hka : k < a.length := by have := of_decide_eq_true h2; omega
      obtain ⟨x, hx⟩ : ∃ x, a[k]? = some x := ⟨_, List.getElem?_eq_getElem hka⟩
      obtain ⟨n, rfl, hn⟩ := wok_at ha hx
      refine ⟨fun c j y => ∃ (cn m : Nat), c = cn ∧ j = m ∧ m ≤ b.length ∧ cn < 4294967296 ∧ y.length = a.length + b.length ∧ wok y ∧ wv y + 4294967296 ^ (k + m) * cn = wv z + 4294967296 ^ k * (n * wv (b.take m)) ∧ ∀ i, k + b.length ≤ i → i < a.length + b.length → y[i]? = some 0, fun _ j _ => b.length - j.toNat, ⟨0, 0, rfl, rfl, by omega, by omega, hz, hw, by simp [wv], h0⟩, ?_⟩
      rintro _ _ y ⟨c, m, rfl, rfl, hm, hc, hy, hwy, hvy, h0y⟩
      refine ⟨fun h3 => ?_, fun h3 => ?_⟩
      · have hmb : m < b.length := by have := of_decide_eq_true h3; omega
        have e1 : w64 ((k : Int) + (m : Int)) = ((k + m : Nat) : Int) := by rw [w64_eq _ (by omega)]; rfl
        rw [e1]
        refine ⟨by omega, fun q hq => ⟨by omega, fun p hp => ⟨by omega, fun t ht => ⟨by omega, ?_⟩⟩⟩⟩
        rw [Int.toNat_natCast] at hq hp ht ⊢
        rw [hx] at hq
        cases hq
        obtain ⟨p, rfl, hpp⟩ := wok_at hb hp
        obtain ⟨t, rfl, htt⟩ := wok_at hwy ht
        have hnp := mul_lt32 hn hpp
        have e2 : (n : Int) * (p : Int) = ((n * p : Nat) : Int) := by norm_cast
        rw [wu64_eq (n : Int) (by omega), wu64_eq (p : Int) (by omega), wu64_eq (t : Int) (by omega), e2]
        have hvb := wv_next hp
        generalize hs : n * p = np at *
        rw [wu64_eq (np : Int) (by omega), wu64_eq ((np : Int) + t) (by omega), wu64_eq ((c : Int) + ((np : Int) + t)) (by omega)]
        have e3 : ((c : Int) + ((np : Int) + t)) = ((c + (np + t) : Nat) : Int) := by norm_cast
        rw [e3, w64_succ m (by omega), wu32_nat, shr32]
        have hset := wv_set y (k + m) t ((c + (np + t)) % 4294967296) ht
        refine ⟨⟨(c + (np + t)) / 2 ^ 32, m + 1, rfl, rfl, by omega, by omega, by rw [List.length_set]; exact hy, wok_set hwy _ _ (Nat.mod_lt _ (by decide)), ?_, fun i hi1 hi2 => ?_⟩, by (try dsimp only); omega⟩
        · rw [hvb, Nat.mul_add, Nat.mul_add, ← Nat.add_assoc k m 1, Nat.pow_succ]
          have h4 : 4294967296 ^ k * (n * (4294967296 ^ m * p)) = 4294967296 ^ (k + m) * np := by
            rw [Nat.pow_add, Nat.mul_left_comm n, hs, Nat.mul_assoc]
          rw [h4]
          have h5 : 4294967296 ^ (k + m) * (c + (np + t)) = 4294967296 ^ (k + m) * ((c + (np + t)) % 4294967296) + 4294967296 ^ (k + m) * 4294967296 * ((c + (np + t)) / 2 ^ 32) := by
            rw [Nat.mul_assoc, ← Nat.mul_add]
            congr 1
            omega
          rw [Nat.mul_add, Nat.mul_add] at h5
          generalize 4294967296 ^ (k + m) * np = A1 at *
          generalize 4294967296 ^ (k + m) * t = A2 at *
          generalize 4294967296 ^ (k + m) * c = A3 at *
          generalize 4294967296 ^ (k + m) * ((c + (np + t)) % 4294967296) = A4 at *
          generalize 4294967296 ^ (k + m) * 4294967296 * ((c + (np + t)) / 2 ^ 32) = A5 at *
          generalize 4294967296 ^ k * (n * wv (b.take m)) = A6 at *
          omega
        · rw [List.getElem?_set_ne (by omega)]
          exact h0y i hi1 hi2
      · have hmb : m = b.length := by have := of_decide_eq_false h3; omega
        subst hmb
        have e1 : w64 ((k : Int) + (b.length : Int)) = ((k + b.length : Nat) : Int) := by rw [w64_eq _ (by omega)]; rfl
        have hz0 : y[k + b.length]? = some ((0 : Nat) : Int) := h0y (k + b.length) (by omega) (by omega)
        rw [e1]
        refine ⟨by omega, ?_⟩
        rw [Int.toNat_natCast, w64_succ k (by omega), wu32_eq c hc]
        have hset := wv_set y (k + b.length) 0 c hz0
        rw [Nat.mul_zero, Nat.add_zero] at hset
        refine ⟨⟨k + 1, rfl, by omega, by rw [List.length_set]; exact hy, wok_set hwy _ _ hc, ?_, fun j hj1 hj2 => ?_⟩, by (try dsimp only); omega⟩
        · rw [hset, hvy, List.take_length, wv_next hx, hv, Nat.add_mul, Nat.mul_assoc]
        · rw [List.getElem?_set_ne (by omega)]
          exact h0y j (by omega) hj2
    · have hka : k = a.length := by have := of_decide_eq_false h2; omega
      subst hka
      intro _
      rw [gtrim_ws hw, hv, List.take_length]
      rfl
def gleftS (a : List Int) (s : Int) : List Int := ws (wv a * 2 ^ s.toNat)
theorem or_add {t lo r m : Nat} (ht : t < 2 ^ r) (hlo : lo = m * 2 ^ r) : t ||| lo = t + lo := by
  have := Nat.shiftLeft_add_eq_or_of_lt (i := r) (b := t) ht m
  rw [Nat.shiftLeft_eq, ← hlo] at this
  rw [Nat.or_comm, ← this, Nat.add_comm]
theorem gleft_ok (a : List Int) (s : Int) (h : wok a ∧ a.length ≤ 1000 ∧ 0 ≤ s ∧ s ≤ 100000) : gleft_vc a s (fun r => r = gleftS a s) := by
  obtain ⟨ha, la, hs0, hs1⟩ := h
  obtain ⟨s, rfl⟩ : ∃ n : Nat, s = n := ⟨s.toNat, by omega⟩
  intro _
  refine ⟨fun h1 => ?_, fun h1 => ?_⟩
  · have h2 : (a.length : Int) = 0 := by simpa only [beq_iff_eq] using h1
    have h3 : a = [] := List.eq_nil_of_length_eq_zero (by omega)
    subst h3
    unfold gleftS
    rw [wv, Nat.zero_mul, ws_zero]
  · have t1 : ((s : Int).tdiv 32) = ((s / 32 : Nat) : Int) := by rw [Int.tdiv_eq_ediv_of_nonneg (by omega)]; omega
    have t2 : ((s : Int).tmod 32) = ((s % 32 : Nat) : Int) := by rw [Int.tmod_eq_emod_of_nonneg (by omega)]; omega
    rw [t1, t2]
    have hsd : s = 32 * (s / 32) + s % 32 := by omega
    have hr : s % 32 < 32 := by omega
    have hwb : s / 32 ≤ 3125 := by omega
    have hpow : 2 ^ s = 4294967296 ^ (s / 32) * 2 ^ (s % 32) := by
      rw [show (4294967296 : Nat) = 2 ^ 32 from rfl, ← Nat.pow_mul, ← Nat.pow_add, ← hsd]
    unfold gleftS
    rw [Int.toNat_natCast, hpow]
    generalize s / 32 = w at *
    generalize s % 32 = r at *
    have e1 : wu64 (w : Int) = (w : Int) := wu64_eq _ (by omega)
    have e2 : w64 (w : Int) = (w : Int) := w64_eq _ (by omega)
    have e3 : w64 ((a.length : Int) + w) = ((a.length + w : Nat) : Int) := by rw [w64_eq _ (by omega)]; rfl
    rw [e1, e2, e3, w64_succ _ (by omega)]
    have p32 : 2 ^ 32 = 2 ^ (32 - r) * 2 ^ r := by rw [← Nat.pow_add]; congr 1; omega
    have pr0 := Nat.two_pow_pos r
    have pr1 : 2 ^ r ≤ 2147483648 := (show 2 ^ r ≤ 2 ^ 31 from Nat.pow_le_pow_right (by omega) (by omega))
    refine ⟨by omega, fun i z => ∃ k : Nat, i = k ∧ k ≤ a.length ∧ z.length = a.length + w + 1 ∧ wok z ∧ wv z = wv (a.take k) * (4294967296 ^ w * 2 ^ r) ∧ (∀ j, k + w + 1 ≤ j → j < a.length + w + 1 → z[j]? = some 0) ∧ ∃ t : Nat, z[k + w]? = some (t : Int) ∧ t < 2 ^ r, fun i _ => a.length - i.toNat, ⟨0, rfl, by omega, by rw [List.length_replicate, Int.toNat_natCast], wok_rep _, by rw [wv_rep]; simp [wv], fun j _ hj => by rw [Int.toNat_natCast, List.getElem?_replicate, if_pos hj], 0, by rw [Int.toNat_natCast, List.getElem?_replicate, if_pos (by omega)]; rfl, pr0⟩, ?_⟩
    rintro _ z ⟨k, rfl, hk, hz, hw, hv, h0, t, ht, htr⟩
    refine ⟨fun h2 => ?_, fun h2 => ?_⟩
    · have hka : k < a.length := by have := of_decide_eq_true h2; omega
      refine ⟨by omega, fun q hq => ⟨by omega, ?_⟩⟩
      rw [Int.toNat_natCast] at hq
      obtain ⟨n, rfl, hn⟩ := wok_at ha hq
      have e4 : w64 ((k : Int) + w) = ((k + w : Nat) : Int) := by rw [w64_eq _ (by omega)]; rfl
      have hvb : n * 2 ^ r < 18446744073709551616 := by
        have := Nat.mul_le_mul (Nat.le_of_lt_succ (show n < 4294967295 + 1 from hn)) pr1
        omega
      rw [e4, w64_succ _ (by omega), wu64_eq (n : Int) (by omega), shlu n r (by omega) hvb, wu32_nat, shr32]
      have hlo : (n * 2 ^ r) % 4294967296 = (n % 2 ^ (32 - r)) * 2 ^ r := by
        rw [show (4294967296 : Nat) = 2 ^ 32 from rfl, p32, Nat.mul_mod_mul_right]
      have hhi : (n * 2 ^ r) / 2 ^ 32 < 2 ^ r := by
        rw [Nat.div_lt_iff_lt_mul (by decide), Nat.mul_comm (2 ^ r)]
        exact Nat.mul_lt_mul_of_pos_right (show n < 2 ^ 32 from hn) pr0
      have hvv : n * 2 ^ r = (n * 2 ^ r) % 4294967296 + 4294967296 * ((n * 2 ^ r) / 2 ^ 32) := by omega
      have hlt : (n * 2 ^ r) % 4294967296 < 4294967296 := Nat.mod_lt _ (by decide)
      generalize hV : n * 2 ^ r = V at *
      generalize V % 4294967296 = lo at *
      generalize V / 2 ^ 32 = hi at *
      refine ⟨by omega, fun t' ht' => ?_⟩
      rw [Int.toNat_natCast] at ht'
      rw [ht] at ht'
      cases ht'
      have hor : t ||| lo = t + lo := or_add htr hlo
      have hsum : t + lo < 4294967296 := by
        rw [← hor]
        exact Nat.or_lt_two_pow (n := 32) (by omega) hlt
      rw [bor32 t lo (by omega) hlt, hor]
      refine ⟨by omega, by rw [List.length_set]; omega, fun u hu => ?_⟩
      rw [Int.toNat_natCast, Int.toNat_natCast] at *
      have hz0 := h0 (k + w + 1) (by omega) (by omega)
      rw [List.getElem?_set_ne (by omega), hz0] at hu
      cases hu
      have hb0 : bOr .u32 0 (wu32 (hi : Int)) = ((hi : Nat) : Int) := by
        have hih : hi < 4294967296 := by omega
        rw [wu32_eq hi hih]
        have := bor32 0 hi (by omega) hih
        rw [Nat.zero_or] at this
        exact this
      refine ⟨by rw [List.length_set]; omega, ?_⟩
      rw [hb0, w64_succ k (by omega)]
      have s1 := wv_set z (k + w) t (t + lo) ht
      have hz1 : (z.set (k + w) ((t + lo : Nat) : Int))[k + w + 1]? = some ((0 : Nat) : Int) := by rw [List.getElem?_set_ne (by omega)]; exact hz0
      have s2 := wv_set (z.set (k + w) ((t + lo : Nat) : Int)) (k + w + 1) 0 hi hz1
      refine ⟨⟨k + 1, rfl, by omega, by rw [List.length_set, List.length_set]; exact hz, wok_set (wok_set hw _ _ hsum) _ _ (by omega), ?_, fun j hj1 hj2 => ?_, hi, ?_, hhi⟩, by (try dsimp only); omega⟩
      · rw [Nat.mul_zero, Nat.add_zero] at s2
        rw [s2, wv_next hq, Nat.add_mul, ← hv]
        have h5 : 4294967296 ^ k * n * (4294967296 ^ w * 2 ^ r) = 4294967296 ^ (k + w) * V := by
          rw [← hV, Nat.pow_add, Nat.mul_assoc, Nat.mul_assoc, Nat.mul_left_comm n]
        rw [h5, hvv, Nat.mul_add, Nat.pow_succ, Nat.mul_assoc (4294967296 ^ (k + w))]
        rw [Nat.mul_add] at s1
        generalize 4294967296 ^ (k + w) * t = A1 at *
        generalize 4294967296 ^ (k + w) * lo = A2 at *
        generalize 4294967296 ^ (k + w) * (4294967296 * hi) = A3 at *
        omega
      · rw [List.getElem?_set_ne (by omega), List.getElem?_set_ne (by omega)]
        exact h0 j (by omega) hj2
      · have e9 : k + 1 + w = k + w + 1 := by omega
        rw [e9, List.getElem?_set_self (by rw [List.length_set]; omega)]
    · have hka : k = a.length := by have := of_decide_eq_false h2; omega
      subst hka
      intro _
      rw [gtrim_ws hw, hv, List.take_length]
/-! ### Plain numbers, comparison, difference -/
def gplainS (l : List Int) : Int := ((wv l % 18446744073709551616 : Nat) : Int)
theorem gplain_ok (l : List Int) (h : wok l) : gplain_vc l (fun r => r = gplainS l) := by
  intro _
  unfold gplainS
  have key : ∀ n m : Nat, n < 4294967296 → m < 4294967296 → bOr .u64 (n : Int) (bShl .u64 (m : Int) 32) = ((n + 4294967296 * m : Nat) : Int) := by
    intro n m hn hm
    have e1 : bShl .u64 (m : Int) 32 = ((m * 2 ^ 32 : Nat) : Int) := shlu m 32 (by omega) (by omega)
    rw [e1, bor64 n _ (by omega) (by omega), or_add (r := 32) hn rfl]
    congr 1
    omega
  cases l with
  | nil => exact ⟨fun h1 => (by cases h1), fun _ => ⟨fun h1 => (by cases h1), fun _ => rfl⟩⟩
  | cons a l =>
    obtain ⟨h1, h2⟩ := wok_cons h
    obtain ⟨a, rfl⟩ : ∃ n : Nat, a = n := ⟨a.toNat, by omega⟩
    refine ⟨fun _ => ⟨by (simp <;> omega), fun q hq => ?_⟩, fun h3 => ?_⟩
    · cases hq
      rw [wu64_eq (a : Int) (by omega)]
      cases l with
      | nil => exact ⟨fun h3 => absurd h3 (by simp), fun _ => by simp only [wv, Int.toNat_natCast, Nat.mul_zero, Nat.add_zero]; rw [Nat.mod_eq_of_lt (by omega)]⟩
      | cons b l =>
        obtain ⟨h3, h4⟩ := wok_cons h2
        obtain ⟨b, rfl⟩ : ∃ n : Nat, b = n := ⟨b.toNat, by omega⟩
        refine ⟨fun _ => ⟨by (simp <;> omega), fun p hp => ?_⟩, fun h5 => absurd (of_decide_eq_false h5) (by simp <;> omega)⟩
        cases hp
        rw [wu64_eq (b : Int) (by omega), key a b (by omega) (by omega)]
        simp only [wv, Int.toNat_natCast]
        congr 2
        omega
    · exact absurd (of_decide_eq_false h3) (by simp <;> omega)
theorem ws_ge {n : Nat} (h : n ≠ 0) : 4294967296 ^ ((ws n).length - 1) ≤ n := by
  obtain ⟨p, q, hp, hq, _⟩ := ws_last h
  have e := wv_ws n
  rw [hp, wv_append] at e
  rw [hp, List.length_append, List.length_singleton, Nat.add_sub_cancel]
  simp only [wv, Int.toNat_natCast, Nat.mul_zero, Nat.add_zero] at e
  have : 4294967296 ^ p.length * 1 ≤ 4294967296 ^ p.length * q := Nat.mul_le_mul_left _ (by omega)
  omega
theorem ws_nil {n : Nat} : ws n = [] ↔ n = 0 := by
  constructor
  · intro h
    rw [← wv_ws n, h]
    rfl
  · rintro rfl
    exact ws_zero
theorem ws_len0 {n : Nat} : (ws n).length = 0 ↔ n = 0 := by rw [List.length_eq_zero_iff, ws_nil]
theorem ws_lt_len {n m : Nat} (h : (ws n).length < (ws m).length) : n < m := by
  have hm : m ≠ 0 := by
    rintro rfl
    rw [ws_zero] at h
    exact absurd h (Nat.not_lt_zero _)
  have h1 := wv_lt (ws_wok n)
  rw [wv_ws] at h1
  have h2 := ws_ge hm
  have h3 : 4294967296 ^ (ws n).length ≤ 4294967296 ^ ((ws m).length - 1) := Nat.pow_le_pow_right (by omega) (by omega)
  omega
theorem wv_split (l : List Int) (k : Nat) (hk : k ≤ l.length) : wv l = wv (l.take k) + 4294967296 ^ k * wv (l.drop k) := by
  have := wv_append (l.take k) (l.drop k)
  rw [List.take_append_drop, List.length_take, Nat.min_eq_left hk] at this
  exact this
theorem wv_top {l : List Int} {k : Nat} {q : Int} (h : l[k]? = some q) : wv l = wv (l.take k) + 4294967296 ^ k * (q.toNat + 4294967296 * wv (l.drop (k + 1))) := by
  obtain ⟨hk, he⟩ := List.getElem?_eq_some_iff.1 h
  rw [wv_split l k (by omega), List.drop_eq_getElem_cons hk, he]
  rfl
def gcmpS (a b : List Int) : Int := if wv a < wv b then -1 else if wv b < wv a then 1 else 0
theorem gcmp_ok (a b : List Int) (h : a.length ≤ 1000 ∧ b.length ≤ 1000 ∧ a = ws (wv a) ∧ b = ws (wv b)) : gcmp_vc a b (fun r => r = gcmpS a b) := by
  intro _ _
  obtain ⟨h1, h2, ha, hb⟩ := h
  have wa : wok a := by rw [ha]; exact ws_wok _
  have wb : wok b := by rw [hb]; exact ws_wok _
  unfold gcmpS
  refine ⟨fun h3 => ⟨fun h4 => ?_, fun h4 => ?_⟩, fun h3 => ?_⟩
  · have h4 := of_decide_eq_true h4
    have : wv a < wv b := ws_lt_len (by rw [← ha, ← hb]; omega)
    rw [if_pos this]
  · have h4 := of_decide_eq_false h4
    have h3 : ¬ (a.length : Int) = b.length := by simpa using h3
    have : wv b < wv a := ws_lt_len (by rw [← ha, ← hb]; omega)
    rw [if_neg (by omega), if_pos this]
  · have h3 : (a.length : Int) = b.length := by simpa using h3
    refine ⟨fun i => ∃ k : Nat, i = (k : Int) - 1 ∧ k ≤ a.length ∧ a.drop k = b.drop k, fun i => (i + 1).toNat, ⟨a.length, w64_eq _ (by omega), by omega, ?_⟩, ?_⟩
    · rw [List.drop_eq_nil_of_le (by omega), List.drop_eq_nil_of_le (by omega)]
    · rintro _ ⟨k, rfl, hk, he⟩
      refine ⟨fun h5 => ?_, fun h5 => ?_⟩
      · have h5 := of_decide_eq_true h5
        obtain ⟨k, rfl⟩ : ∃ n, k = n + 1 := ⟨k - 1, by omega⟩
        have e : (((k + 1 : Nat) : Int) - 1) = k := by omega
        rw [e] at *
        refine ⟨by omega, fun p hp => ⟨by omega, fun q hq => ?_⟩⟩
        rw [Int.toNat_natCast] at hp hq
        have ep := wv_top hp
        have eq := wv_top hq
        rw [he] at ep
        have lp := wv_lt (wok_take wa k)
        have lq := wv_lt (wok_take wb k)
        rw [List.length_take, Nat.min_eq_left (by omega)] at lp lq
        obtain ⟨p, rfl, hp2⟩ := wok_at wa hp
        obtain ⟨q, rfl, hq2⟩ := wok_at wb hq
        rw [Int.toNat_natCast] at ep eq
        refine ⟨fun h6 => ⟨by omega, fun p' hp' => ⟨by omega, fun q' hq' => ?_⟩⟩, fun h6 => ?_⟩
        · rw [Int.toNat_natCast, hp] at hp'
          rw [Int.toNat_natCast, hq] at hq'
          cases hp'
          cases hq'
          have h6 : ¬ p = q := fun hc => by subst hc; simp at h6
          have key : ∀ {x y : Nat}, x < y → ∀ {u v : Nat}, u < 4294967296 ^ k → ∀ r, u + 4294967296 ^ k * (x + 4294967296 * r) < v + 4294967296 ^ k * (y + 4294967296 * r) := by
            intro x y hxy u v hu r
            have : 4294967296 ^ k * (x + 4294967296 * r + 1) ≤ 4294967296 ^ k * (y + 4294967296 * r) := Nat.mul_le_mul_left _ (by omega)
            rw [Nat.mul_add, Nat.mul_one] at this
            omega
          refine ⟨fun h7 => ?_, fun h7 => ?_⟩
          · have h7 := of_decide_eq_true h7
            have : wv a < wv b := by rw [ep, eq]; exact key (by omega) lp _
            rw [if_pos this]
          · have h7 := of_decide_eq_false h7
            have : wv b < wv a := by rw [ep, eq]; exact key (by omega) lq _
            rw [if_neg (by omega), if_pos this]
        · have h6 : (p : Int) = q := by simpa using h6
          have h6 : p = q := by omega
          subst h6
          refine ⟨⟨k, ?_, by omega, ?_⟩, ?_⟩
          · rw [w64_eq _ (by omega)]
          · obtain ⟨k1, e1⟩ := List.getElem?_eq_some_iff.1 hp
            obtain ⟨k2, e2⟩ := List.getElem?_eq_some_iff.1 hq
            rw [List.drop_eq_getElem_cons k1, List.drop_eq_getElem_cons k2, e1, e2, he]
          · rw [w64_eq _ (by omega)]
            (try dsimp only)
            omega
      · have h5 := of_decide_eq_false h5
        have e : k = 0 := by omega
        subst e
        rw [List.drop_zero, List.drop_zero] at he
        rw [he, if_neg (Nat.lt_irrefl _), if_neg (Nat.lt_irrefl _)]
def gsubS (a b : List Int) : List Int := ws (wv a - wv b)
theorem wu64_neg (x : Int) (h : -18446744073709551616 ≤ x ∧ x < 0) : wu64 x = x + 18446744073709551616 := by
  show IntKind.u64.wrap x = _
  simp [IntKind.wrap, IntKind.bits, IntKind.signed]
  omega
theorem wu64_less (x y : Int) (hx : -18446744073709551616 ≤ x ∧ x ≤ 18446744073709551615) (hy : 0 ≤ y ∧ y ≤ 4294967296) : wu64 (wu64 x - y) = wu64 (x - y) := by
  show IntKind.u64.wrap (IntKind.u64.wrap x - y) = IntKind.u64.wrap (x - y)
  simp [IntKind.wrap, IntKind.bits, IntKind.signed]
theorem borrow (d : Int) (h : -4294967296 ≤ d ∧ d < 4294967296) : ∃ r c : Nat, wu32 (wu64 d) = (r : Int) ∧ bShr .u64 (wu64 d) 63 = (c : Int) ∧ r < 4294967296 ∧ c ≤ 1 ∧ d + 4294967296 * c = r := by
  by_cases hd : 0 ≤ d
  · obtain ⟨n, rfl⟩ : ∃ n : Nat, d = n := ⟨d.toNat, by omega⟩
    have e : bShr .u64 (n : Int) 63 = ((n / 2 ^ 63 : Nat) : Int) := shru n 63 (by omega) .u64 (by decide)
    rw [wu64_eq (n : Int) (by omega), wu32_nat, e]
    exact ⟨_, _, rfl, rfl, Nat.mod_lt _ (by decide), by omega, by omega⟩
  · rw [wu64_neg d (by omega)]
    obtain ⟨n, hn⟩ : ∃ n : Nat, d + 18446744073709551616 = n := ⟨(d + 18446744073709551616).toNat, by omega⟩
    have e : bShr .u64 (n : Int) 63 = ((n / 2 ^ 63 : Nat) : Int) := shru n 63 (by omega) .u64 (by decide)
    rw [hn, wu32_nat, e]
    exact ⟨_, _, rfl, rfl, Nat.mod_lt _ (by decide), by omega, by omega⟩
theorem gsub_ok (a b : List Int) (h : wok a ∧ wok b ∧ a.length ≤ 1000 ∧ b.length ≤ a.length ∧ wv b ≤ wv a) : gsub_vc a b (fun r => r = gsubS a b) := by
  obtain ⟨ha, hb, hl, hab, hle⟩ := h
  intro _ _
  refine ⟨by omega, fun c i z => ∃ (cn k : Nat), c = cn ∧ i = k ∧ k ≤ a.length ∧ cn ≤ 1 ∧ z.length = a.length ∧ wok z ∧ wv (z.take k) + wv (b.take k) = wv (a.take k) + 4294967296 ^ k * cn, fun _ i _ => a.length - i.toNat, ⟨0, 0, rfl, rfl, by omega, by omega, by simp, wok_rep _, by simp [wv]⟩, ?_⟩
  rintro _ _ z ⟨c, k, rfl, rfl, hk, hc, hz, hw, hv⟩
  have hmax : k < a.length → ∀ (d : Int) (p n : Nat), n < 4294967296 → p < 4294967296 → d = (n : Int) - c - p → a[k]? = some (n : Int) → wv (b.take (k + 1)) = wv (b.take k) + 4294967296 ^ k * p →
      (∃ (cn j : Nat), bShr .u64 (wu64 d) 63 = cn ∧ w64 ((k : Int) + 1) = j ∧ j ≤ a.length ∧ cn ≤ 1 ∧ (z.set k (wu32 (wu64 d))).length = a.length ∧ wok (z.set k (wu32 (wu64 d))) ∧ wv ((z.set k (wu32 (wu64 d))).take j) + wv (b.take j) = wv (a.take j) + 4294967296 ^ j * cn) ∧ a.length - (w64 ((k : Int) + 1)).toNat < a.length - k := by
    intro hka d p n hn0 hp0 hd hn hp
    obtain ⟨r, cn, e1, e2, hr, hcn, hrel⟩ := borrow d (by omega)
    rw [e1, e2, w64_succ k (by omega)]
    refine ⟨⟨cn, k + 1, rfl, rfl, by omega, hcn, by rw [List.length_set]; exact hz, wok_set hw _ _ hr, ?_⟩, by rw [Int.toNat_natCast]; omega⟩
    rw [wv_take_set (by omega), wv_next hn, hp, Nat.pow_succ]
    have h1 : r + c + p = n + 4294967296 * cn := by omega
    have h2 : 4294967296 ^ k * r + 4294967296 ^ k * c + 4294967296 ^ k * p = 4294967296 ^ k * n + 4294967296 ^ k * 4294967296 * cn := by
      rw [Nat.mul_assoc, ← Nat.mul_add, ← Nat.mul_add, ← Nat.mul_add, h1]
    generalize 4294967296 ^ k * 4294967296 * cn = A1 at *
    omega
  refine ⟨fun h1 => ?_, fun h1 => ?_⟩
  · have hka : k < a.length := by have := of_decide_eq_true h1; omega
    refine ⟨by omega, fun q hq => ?_⟩
    rw [Int.toNat_natCast] at hq
    obtain ⟨n, rfl, hn⟩ := wok_at ha hq
    rw [wu64_eq (n : Int) (by omega)]
    refine ⟨fun h2 => ⟨by have := of_decide_eq_true h2; omega, fun p hp => ⟨by omega, ?_⟩⟩, fun h2 => ⟨by omega, ?_⟩⟩
    · rw [Int.toNat_natCast] at hp ⊢
      obtain ⟨m, rfl, hm⟩ := wok_at hb hp
      rw [wu64_eq (m : Int) (by omega), wu64_less _ _ (by omega) (by omega)]
      exact hmax hka _ m n hn hm rfl hq (wv_next hp)
    · rw [Int.toNat_natCast]
      have hkb : b.length ≤ k := by have := of_decide_eq_false h2; omega
      refine hmax hka _ 0 n hn (by omega) (by omega) hq ?_
      have t1 : b.take (k + 1) = b := List.take_of_length_le (by omega)
      have t2 : b.take k = b := List.take_of_length_le hkb
      rw [t1, t2]
      rfl
  · have hka : k = a.length := by have := of_decide_eq_false h1; omega
    subst hka
    intro _
    rw [gtrim_ws hw]
    unfold gsubS
    have t1 : z.take a.length = z := List.take_of_length_le (by omega)
    have t2 : b.take a.length = b := List.take_of_length_le hab
    rw [List.take_length, t1, t2] at hv
    have hzl := wv_lt hw
    rw [hz] at hzl
    have hc0 : c = 0 := by
      rcases Nat.lt_or_ge c 1 with h | h
      · omega
      · have : c = 1 := by omega
        subst this
        omega
    subst hc0
    congr 1
    omega

end Go.Proofs.YtdndfbamhnchfaaDoor
set_option linter.unusedVariables false
set_option linter.unusedSimpArgs false
namespace Go.Proofs.YtdndfbamhnchfaaDoor
open Go.Sy Go.RowKit
def gdiv_vc (u0 : List Int) (u1 : List Int) (K : ((List Int) × (List Int)) → Prop) : Prop :=
  (u0.length ≤ 140737488355328 →
    (u1.length ≤ 140737488355328 →
    ((((u1.length : Int) == 0) = false) ∧
    ((u0.length ≤ 1000 ∧ u1.length ≤ 1000 ∧ u0 = ws (wv u0) ∧ u1 = ws (wv u1)) ∧
    (((decide ((gcmpS u0 u1) < 0)) = true →
      ((u0.length ≤ 1000000) ∧
      ((gtwinS u0).length ≤ 140737488355328 →
      (K ([], (gtwinS u0)))))) ∧
    ((decide ((gcmpS u0 u1) < 0)) = false →
      (((decide ((u0.length : Int) ≤ 2)) = true) ∧
      ((wok u0) ∧
      ((wok u1) ∧
      (((gplainS u1) ≠ 0) ∧
      (((gplainS u1) ≠ 0) ∧
      ((0 ≤ (wu64 ((gplainS u0).tdiv (gplainS u1))) ∧ (wu64 ((gplainS u0).tdiv (gplainS u1))) ≤ 18446744073709551615) ∧
      ((0 ≤ ((gplainS u0).tmod (gplainS u1)) ∧ ((gplainS u0).tmod (gplainS u1)) ≤ 18446744073709551615) ∧
      (K ((gwordsS (wu64 ((gplainS u0).tdiv (gplainS u1)))), (gwordsS ((gplainS u0).tmod (gplainS u1))))))))))))))))))

def gcom_vc (u0 : List Int) (u1 : List Int) (K : (List Int) → Prop) : Prop :=
  (u0.length ≤ 140737488355328 →
    (u1.length ≤ 140737488355328 →
    (∃ inv13 : (List Int) → (List Int) → Prop, ∃ mu13 : (List Int) → (List Int) → Nat, inv13 u0 u1 ∧
    (∀ (x0 : List Int) (x1 : List Int), inv13 x0 x1 →
    (((decide ((x1.length : Int) > 2)) = false) ∧
    ((((x1.length : Int) == 0) = true →
      (K x0)) ∧
    (((x1.length : Int) == 0) = false →
      (((decide ((x0.length : Int) > 2)) = false) ∧
      ((wok x0) ∧
      ((wok x1) ∧
      (∃ inv83 : Int → Int → Prop, ∃ mu83 : Int → Int → Nat, inv83 (gplainS x0) (gplainS x1) ∧
      (∀ (x9 : Int) (x10 : Int), inv83 x9 x10 →
      (((decide (x10 > 0)) = true →
        ((x10 ≠ 0) ∧
        (inv83 x10 (x9.tmod x10) ∧ mu83 x10 (x9.tmod x10) < mu83 x9 x10))) ∧
      ((decide (x10 > 0)) = false →
        ((0 ≤ x9 ∧ x9 ≤ 18446744073709551615) ∧
        ((gwordsS x9).length ≤ 140737488355328 →
        (K (gwordsS x9))))))))))))))))))

def gsum_vc (u0 : Bool) (u1 : List Int) (u2 : Bool) (u3 : List Int) (K : (Bool × (List Int)) → Prop) : Prop :=
  (u1.length ≤ 140737488355328 →
    (u3.length ≤ 140737488355328 →
    (((u0 == u2) = true →
      ((wok u1 ∧ wok u3 ∧ u1.length ≤ 1000000 ∧ u3.length ≤ 1000000) ∧
      ((gaddS u1 u3).length ≤ 140737488355328 →
      (K (u0, (gaddS u1 u3)))))) ∧
    ((u0 == u2) = false →
      ((u1.length ≤ 1000 ∧ u3.length ≤ 1000 ∧ u1 = ws (wv u1) ∧ u3 = ws (wv u3)) ∧
      (((decide ((gcmpS u1 u3) ≥ 0)) = true →
        ((wok u1 ∧ wok u3 ∧ u1.length ≤ 1000 ∧ u3.length ≤ u1.length ∧ wv u3 ≤ wv u1) ∧
        ((gsubS u1 u3).length ≤ 140737488355328 →
        (K (u0, (gsubS u1 u3)))))) ∧
      ((decide ((gcmpS u1 u3) ≥ 0)) = false →
        ((wok u3 ∧ wok u1 ∧ u3.length ≤ 1000 ∧ u1.length ≤ u3.length ∧ wv u1 ≤ wv u3) ∧
        ((gsubS u3 u1).length ≤ 140737488355328 →
        (K (u2, (gsubS u3 u1))))))))))))

def ggive_vc (u0 : BInt) (u1 : Bool) (u2 : List Int) (K : BInt → Prop) : Prop :=
  (u0.abs.length ≤ 140737488355328 →
    (u2.length ≤ 140737488355328 →
    (K (⟨u1 && (decide ((u2.length : Int) > 0)), u2⟩ : BInt))))
def ggive (u0 : BInt) (u1 : Bool) (u2 : List Int) : BInt :=
  (⟨u1 && (decide ((u2.length : Int) > 0)), u2⟩ : BInt)
theorem ggive_ok (u0 : BInt) (u1 : Bool) (u2 : List Int) : ggive_vc u0 u1 u2 (fun r => r = ggive u0 u1 u2) := (fun _ => (fun _ => (by rfl)))

def ggiveA_vc (u0 : BRat) (u1 : Bool) (u2 : List Int) (K : BRat → Prop) : Prop :=
  (u0.a.abs.length ≤ 140737488355328 →
    (u0.b.abs.length ≤ 140737488355328 →
    (u2.length ≤ 140737488355328 →
    (K (⟨(⟨u1 && (decide ((u2.length : Int) > 0)), u2⟩ : BInt), u0.b⟩ : BRat)))))
def ggiveA (u0 : BRat) (u1 : Bool) (u2 : List Int) : BRat :=
  (⟨(⟨u1 && (decide ((u2.length : Int) > 0)), u2⟩ : BInt), u0.b⟩ : BRat)
theorem ggiveA_ok (u0 : BRat) (u1 : Bool) (u2 : List Int) : ggiveA_vc u0 u1 u2 (fun r => r = ggiveA u0 u1 u2) := (fun _ => (fun _ => (fun _ => (by rfl))))

def ggiveB_vc (u0 : BRat) (u1 : Bool) (u2 : List Int) (K : BRat → Prop) : Prop :=
  (u0.a.abs.length ≤ 140737488355328 →
    (u0.b.abs.length ≤ 140737488355328 →
    (u2.length ≤ 140737488355328 →
    (K (⟨u0.a, (⟨u1 && (decide ((u2.length : Int) > 0)), u2⟩ : BInt)⟩ : BRat)))))
def ggiveB (u0 : BRat) (u1 : Bool) (u2 : List Int) : BRat :=
  (⟨u0.a, (⟨u1 && (decide ((u2.length : Int) > 0)), u2⟩ : BInt)⟩ : BRat)
theorem ggiveB_ok (u0 : BRat) (u1 : Bool) (u2 : List Int) : ggiveB_vc u0 u1 u2 (fun r => r = ggiveB u0 u1 u2) := (fun _ => (fun _ => (fun _ => (by rfl))))

def gnew_vc (u0 : Int) (K : BInt → Prop) : Prop :=
  (((decide (u0 < 0)) = true →
      ((0 ≤ (wu64 (0 - (wu64 u0))) ∧ (wu64 (0 - (wu64 u0))) ≤ 18446744073709551615) ∧
      ((gwordsS (wu64 (0 - (wu64 u0)))).length ≤ 140737488355328 →
      (∀ r65, (ggive (⟨false, []⟩ : BInt) (decide (u0 < 0)) (gwordsS (wu64 (0 - (wu64 u0))))) = r65 →
      (r65.abs.length ≤ 140737488355328 →
      (K r65)))))) ∧
    ((decide (u0 < 0)) = false →
      ((0 ≤ (wu64 u0) ∧ (wu64 u0) ≤ 18446744073709551615) ∧
      ((gwordsS (wu64 u0)).length ≤ 140737488355328 →
      (∀ r110, (ggive (⟨false, []⟩ : BInt) (decide (u0 < 0)) (gwordsS (wu64 u0))) = r110 →
      (r110.abs.length ≤ 140737488355328 →
      (K r110)))))))

def rden_vc (u0 : BRat) (K : BRat → Prop) : Prop :=
  (u0.a.abs.length ≤ 140737488355328 →
    (u0.b.abs.length ≤ 140737488355328 →
    ((((u0.b.abs.length : Int) == 0) = false) ∧
    (K u0))))

def gnegA_vc (u0 : BRat) (K : BRat → Prop) : Prop :=
  (u0.a.abs.length ≤ 140737488355328 →
    (u0.b.abs.length ≤ 140737488355328 →
    ((u0.a.abs.length ≤ 1000000) ∧
    (K (ggiveA u0 (!u0.a.neg) (gtwinS u0.a.abs))))))

def gnegB_vc (u0 : BRat) (K : BRat → Prop) : Prop :=
  (u0.a.abs.length ≤ 140737488355328 →
    (u0.b.abs.length ≤ 140737488355328 →
    ((u0.b.abs.length ≤ 1000000) ∧
    (K (ggiveB u0 (!u0.b.neg) (gtwinS u0.b.abs))))))

/-! Pure proofs: no program in sight. -/
def grightS (a : List Int) (n : Int) : List Int := ws (wv a / 2 ^ n.toNat)
theorem low_words {n : Nat} (hn : n ≤ 31) (u t : Nat) : (u + 18446744073709551616 * t) / 2 ^ n % 4294967296 = u / 2 ^ n % 4294967296 := by
  have e : 18446744073709551616 * t = 2 ^ n * (4294967296 * (2 ^ (32 - n) * t)) := by
    have e1 : 2 ^ n * 2 ^ (32 - n) = 4294967296 := by rw [← Nat.pow_add, show n + (32 - n) = 32 by omega]
    have e2 : 2 ^ n * (4294967296 * (2 ^ (32 - n) * t)) = (2 ^ n * 2 ^ (32 - n)) * (4294967296 * t) := by
      rw [Nat.mul_assoc (2 ^ n), Nat.mul_left_comm (2 ^ (32 - n)), Nat.mul_left_comm]
    rw [e2, e1, ← Nat.mul_assoc]
  rw [e, Nat.add_mul_div_left _ _ (Nat.two_pow_pos n), Nat.add_mul_mod_self_left]
theorem wv_drop {l : List Int} (h : wok l) {k : Nat} (hk : k ≤ l.length) : wv l / 4294967296 ^ k = wv (l.drop k) := by
  rw [wv_split l k hk]
  have := wv_lt (wok_take h k)
  rw [List.length_take, Nat.min_eq_left hk] at this
  rw [Nat.add_mul_div_left _ _ (Nat.pow_pos (by omega)), Nat.div_eq_of_lt this, Nat.zero_add]
theorem gright_ok (a : List Int) (s : Int) (h : wok a ∧ a.length ≤ 1000 ∧ 0 ≤ s ∧ s ≤ 31) : gright_vc a s (fun r => r = grightS a s) := by
  obtain ⟨ha, hl, hs⟩ := h
  obtain ⟨n, rfl⟩ : ∃ n : Nat, s = n := ⟨s.toNat, by omega⟩
  have hn : n ≤ 31 := by omega
  have e0 : ((n : Int)).tdiv 32 = 0 := by rw [Int.tdiv_eq_ediv_of_nonneg (by omega)]; omega
  have e1 : ((n : Int)).tmod 32 = n := by rw [Int.tmod_eq_emod_of_nonneg (by omega)]; omega
  have e2 : wu64 0 = 0 := by decide
  have e3 : w64 0 = 0 := by decide
  unfold gright_vc grightS
  rw [e0, e1, e2, e3, Int.toNat_natCast]
  intro _
  refine ⟨fun h1 => ?_, fun h1 => ?_⟩
  · have h1 := of_decide_eq_true h1
    have : a = [] := List.length_eq_zero_iff.1 (by omega)
    subst this
    show [] = ws (0 / 2 ^ n)
    rw [Nat.zero_div, ws_zero]
  · have e4 : w64 ((a.length : Int) - 0) = a.length := by rw [w64_eq _ (by omega)]; omega
    rw [e4]
    refine ⟨by omega, fun i z => ∃ k : Nat, i = k ∧ k ≤ a.length ∧ z.length = a.length ∧ wok z ∧ wv (z.take k) = wv a / 2 ^ n % 4294967296 ^ k, fun i _ => a.length - i.toNat, ⟨0, rfl, by omega, by simp, wok_rep _, by simp [wv, Nat.mod_one]⟩, ?_⟩
    rintro _ z ⟨k, rfl, hk, hz, hw, hv⟩
    have e5 : k < a.length → w64 ((k : Int) + 0) = k := fun h => by rw [w64_eq _ (by omega)]; omega
    have step : k < a.length → ∀ u : Nat, u / 2 ^ n % 4294967296 = wv (a.drop k) / 2 ^ n % 4294967296 →
        (∃ j : Nat, w64 ((k : Int) + 1) = j ∧ j ≤ a.length ∧ (z.set k (wu32 ((u / 2 ^ n : Nat) : Int))).length = a.length ∧ wok (z.set k (wu32 ((u / 2 ^ n : Nat) : Int))) ∧ wv ((z.set k (wu32 ((u / 2 ^ n : Nat) : Int))).take j) = wv a / 2 ^ n % 4294967296 ^ j) ∧ a.length - (w64 ((k : Int) + 1)).toNat < a.length - k := by
      intro hka u hu
      rw [w64_succ k (by omega), wu32_nat]
      refine ⟨⟨k + 1, rfl, by omega, by rw [List.length_set]; exact hz, wok_set hw _ _ (Nat.mod_lt _ (by decide)), ?_⟩, by rw [Int.toNat_natCast]; omega⟩
      rw [wv_take_set (by omega), hv, Nat.mod_pow_succ, hu, Nat.div_div_eq_div_mul, Nat.mul_comm (2 ^ n), ← Nat.div_div_eq_div_mul, wv_drop ha (by omega)]
    refine ⟨fun h2 => ?_, fun h2 => ?_⟩
    · have hka : k < a.length := by have := of_decide_eq_true h2; omega
      rw [e5 hka]
      refine ⟨by omega, fun q hq => ?_⟩
      rw [Int.toNat_natCast] at hq
      obtain ⟨k1, he⟩ := List.getElem?_eq_some_iff.1 hq
      obtain ⟨q, rfl, hq0⟩ := wok_at ha hq
      rw [wu64_eq (q : Int) (by omega), w64_succ k (by omega)]
      have hd : wv (a.drop k) = q + 4294967296 * wv (a.drop (k + 1)) := by
        rw [List.drop_eq_getElem_cons k1, he]
        rfl
      refine ⟨fun h3 => ?_, fun h3 => ⟨by omega, by omega, ?_⟩⟩
      · have hk2 : k + 1 < a.length := by have := of_decide_eq_true h3; omega
        refine ⟨by omega, fun p hp => ?_⟩
        rw [Int.toNat_natCast] at hp
        obtain ⟨k2, hf⟩ := List.getElem?_eq_some_iff.1 hp
        obtain ⟨p, rfl, hp0⟩ := wok_at ha hp
        have hd2 : wv (a.drop (k + 1)) = p + 4294967296 * wv (a.drop (k + 2)) := by
          rw [List.drop_eq_getElem_cons k2, hf]
          rfl
        have ew : bOr .u64 (q : Int) (bShl .u64 (p : Int) 32) = ((q + 4294967296 * p : Nat) : Int) := by
          have e1 : bShl .u64 (p : Int) 32 = ((p * 2 ^ 32 : Nat) : Int) := shlu p 32 (by omega) (by omega)
          rw [e1, bor64 q _ (by omega) (by omega), or_add (r := 32) hq0 rfl]
          congr 1
          omega
        rw [wu64_eq (p : Int) (by omega), ew, shru (q + 4294967296 * p) n (by omega) .u64 (by show n ≤ 64; omega), Int.toNat_natCast]
        refine ⟨by omega, by omega, ?_⟩
        have := step hka (q + 4294967296 * p) (by
          rw [hd, hd2, Nat.mul_add, ← Nat.add_assoc, ← Nat.mul_assoc]
          exact (low_words hn _ _).symm)
        rw [w64_succ k (by omega)] at this
        exact this
      · have hk2 : a.length = k + 1 := by have := of_decide_eq_false h3; omega
        rw [shru q n (by omega) .u64 (by show n ≤ 64; omega), Int.toNat_natCast]
        have hd2 : wv (a.drop (k + 1)) = 0 := by
          rw [List.drop_eq_nil_of_le (by omega)]
          rfl
        have := step hka q (by rw [hd, hd2, Nat.mul_zero, Nat.add_zero])
        rw [w64_succ k (by omega)] at this
        exact this
    · have hka : k = a.length := by have := of_decide_eq_false h2; omega
      subst hka
      intro _
      rw [gtrim_ws hw]
      have t1 : z.take a.length = z := List.take_of_length_le (by omega)
      rw [t1] at hv
      have := wv_lt ha
      have h3 : wv a / 2 ^ n ≤ wv a := Nat.div_le_self _ _
      rw [hv, Nat.mod_eq_of_lt (by omega)]
/-! ### Quotient, common divisor, sum; whole numbers with a sign -/
def gdivS (a b : List Int) : List Int × List Int := (ws (wv a / wv b), ws (wv a % wv b))
theorem gplain_small {l : List Int} (h : wv l < 18446744073709551616) : gplainS l = (wv l : Int) := by
  unfold gplainS
  rw [Nat.mod_eq_of_lt h]
theorem ws_two {n : Nat} (h : n < 18446744073709551616) : (ws n).length ≤ 2 := ws_len 2 n h
theorem can_wok {l : List Int} (h : l = ws (wv l)) : wok l := by rw [h]; exact ws_wok _
theorem can_two {l : List Int} (h : l = ws (wv l)) (hl : wv l < 18446744073709551616) : l.length ≤ 2 := by rw [h]; exact ws_two hl
theorem gdiv_ok (a b : List Int) (h : a = ws (wv a) ∧ b = ws (wv b) ∧ wv a < 18446744073709551616 ∧ wv b < 18446744073709551616 ∧ 0 < wv b) : gdiv_vc a b (fun r => r = gdivS a b) := by
  obtain ⟨ha, hb, la, lb, h0⟩ := h
  have a2 := can_two ha la
  have b2 := can_two hb lb
  intro _ _
  have hb0 : b.length ≠ 0 := by
    intro hc
    rw [List.length_eq_zero_iff] at hc
    rw [hc] at h0
    exact absurd h0 (Nat.not_lt_zero _)
  unfold gdivS
  refine ⟨by rw [beq_eq_false_iff_ne]; omega, ⟨by omega, by omega, ha, hb⟩, fun h1 => ⟨by omega, fun _ => ?_⟩, fun h1 => ⟨by rw [decide_eq_true_eq]; omega, can_wok ha, can_wok hb, ?_⟩⟩
  · have h1 := of_decide_eq_true h1
    have hlt : wv a < wv b := by
      unfold gcmpS at h1
      split at h1
      · assumption
      · split at h1 <;> omega
    rw [Nat.div_eq_of_lt hlt, Nat.mod_eq_of_lt hlt, ws_zero, ← ha]
    rfl
  · rw [gplain_small la, gplain_small lb]
    have e1 : ((wv a : Nat) : Int).tdiv ((wv b : Nat) : Int) = ((wv a / wv b : Nat) : Int) := by rw [Int.tdiv_eq_ediv_of_nonneg (by omega)]; norm_cast
    have e2 : ((wv a : Nat) : Int).tmod ((wv b : Nat) : Int) = ((wv a % wv b : Nat) : Int) := by rw [Int.tmod_eq_emod_of_nonneg (by omega)]; norm_cast
    have l1 : wv a / wv b ≤ wv a := Nat.div_le_self _ _
    have l2 : wv a % wv b < wv b := Nat.mod_lt _ h0
    rw [e1, e2]
    generalize wv a / wv b = Q at *
    generalize wv a % wv b = R at *
    rw [wu64_eq _ (by omega)]
    refine ⟨by omega, by omega, by omega, by omega, ?_⟩
    unfold gwordsS
    rw [Int.toNat_natCast, Int.toNat_natCast]
def gcomS (a b : List Int) : List Int := ws (Nat.gcd (wv a) (wv b))
theorem gcom_ok (a b : List Int) (h : a = ws (wv a) ∧ b = ws (wv b) ∧ wv a < 18446744073709551616 ∧ wv b < 18446744073709551616) : gcom_vc a b (fun r => r = gcomS a b) := by
  obtain ⟨ha, hb, la, lb⟩ := h
  have a2 := can_two ha la
  have b2 := can_two hb lb
  intro _ _
  unfold gcomS
  refine ⟨fun x y => x = a ∧ y = b, fun _ _ => 0, ⟨rfl, rfl⟩, ?_⟩
  rintro x y ⟨hx, hy⟩
  rw [hx, hy]
  clear hx hy
  refine ⟨by rw [decide_eq_false_iff_not]; omega, fun h1 => ?_, fun h1 => ⟨by rw [decide_eq_false_iff_not]; omega, can_wok ha, can_wok hb, fun x y => ∃ p q : Nat, x = p ∧ y = q ∧ p < 18446744073709551616 ∧ q < 18446744073709551616 ∧ Nat.gcd p q = Nat.gcd (wv a) (wv b), fun _ y => y.toNat, ⟨_, _, gplain_small la, gplain_small lb, la, lb, rfl⟩, ?_⟩⟩
  · have h1 : b.length = 0 := by have : (b.length : Int) = 0 := by simpa using h1
                                 omega
    rw [List.length_eq_zero_iff] at h1
    subst h1
    show a = ws (Nat.gcd (wv a) 0)
    rw [Nat.gcd_zero_right]
    exact ha
  · rintro _ _ ⟨p, q, rfl, rfl, hp, hq, hg⟩
    refine ⟨fun h2 => ⟨by have := of_decide_eq_true h2; omega, ⟨q, p % q, rfl, ?_, hq, ?_, ?_⟩, ?_⟩, fun h2 => ⟨by omega, fun _ => ?_⟩⟩
    · rw [Int.tmod_eq_emod_of_nonneg (by omega)]
      norm_cast
    · have := of_decide_eq_true h2
      have : p % q < q := Nat.mod_lt _ (by omega)
      omega
    · rw [← hg, Nat.gcd_comm p q, Nat.gcd_rec q p, Nat.gcd_comm]
    · have := of_decide_eq_true h2
      have e : ((p : Nat) : Int).tmod ((q : Nat) : Int) = ((p % q : Nat) : Int) := by rw [Int.tmod_eq_emod_of_nonneg (by omega)]; norm_cast
      rw [e]
      have : p % q < q := Nat.mod_lt _ (by omega)
      (try dsimp only)
      omega
    · have := of_decide_eq_false h2
      have hq0 : q = 0 := by omega
      subst hq0
      rw [Nat.gcd_zero_right] at hg
      unfold gwordsS
      rw [Int.toNat_natCast, hg]
def gsumS (xn : Bool) (xa : List Int) (yn : Bool) (ya : List Int) : Bool × List Int :=
  if xn = yn then (xn, ws (wv xa + wv ya)) else if wv ya ≤ wv xa then (xn, ws (wv xa - wv ya)) else (yn, ws (wv ya - wv xa))
theorem len_le_of {a b : List Int} (ha : a = ws (wv a)) (hb : b = ws (wv b)) (h : wv b ≤ wv a) : b.length ≤ a.length := by
  rcases Nat.lt_or_ge a.length b.length with hc | hc
  · have : wv a < wv b := ws_lt_len (by rw [← ha, ← hb]; exact hc)
    omega
  · exact hc
theorem gsum_ok (xn : Bool) (xa : List Int) (yn : Bool) (ya : List Int) (h : xa = ws (wv xa) ∧ ya = ws (wv ya) ∧ wv xa < 18446744073709551616 ∧ wv ya < 18446744073709551616) : gsum_vc xn xa yn ya (fun r => r = gsumS xn xa yn ya) := by
  obtain ⟨ha, hb, la, lb⟩ := h
  have a2 := can_two ha la
  have b2 := can_two hb lb
  intro _ _
  unfold gsumS
  refine ⟨fun h1 => ⟨⟨can_wok ha, can_wok hb, by omega, by omega⟩, fun _ => ?_⟩, fun h1 => ⟨⟨by omega, by omega, ha, hb⟩, fun h2 => ?_, fun h2 => ?_⟩⟩
  · rw [if_pos (by simpa using h1)]
    rfl
  · have h2 := of_decide_eq_true h2
    have hle : wv ya ≤ wv xa := by
      unfold gcmpS at h2
      split at h2
      · omega
      · omega
    refine ⟨⟨can_wok ha, can_wok hb, by omega, len_le_of ha hb hle, hle⟩, fun _ => ?_⟩
    rw [if_neg (by simpa using h1), if_pos hle]
    rfl
  · have h2 := of_decide_eq_false h2
    have hle : wv xa < wv ya := by
      unfold gcmpS at h2
      split at h2
      · assumption
      · split at h2 <;> omega
    refine ⟨⟨can_wok hb, can_wok ha, by omega, len_le_of hb ha (by omega), by omega⟩, fun _ => ?_⟩
    rw [if_neg (by simpa using h1), if_neg (by omega)]
    rfl
/-- A whole number as it lies in words. -/
def bz (z : Int) : BInt := ⟨decide (z < 0), ws z.natAbs⟩
def iv (x : BInt) : Int := if x.neg = true then -(wv x.abs : Int) else (wv x.abs : Int)
def bk (x : BInt) : Prop := x = bz (iv x) ∧ (iv x).natAbs < 18446744073709551616
theorem iv_bz (z : Int) : iv (bz z) = z := by
  unfold iv bz
  dsimp only
  rw [wv_ws]
  by_cases h : z < 0
  · rw [decide_eq_true h, if_pos rfl]
    omega
  · rw [decide_eq_false h, if_neg (by simp)]
    omega
theorem bk_bz {z : Int} (h : z.natAbs < 18446744073709551616) : bk (bz z) := by
  unfold bk
  rw [iv_bz]
  exact ⟨rfl, h⟩
theorem bk_abs {x : BInt} (h : bk x) : x.abs = ws (wv x.abs) ∧ wv x.abs = (iv x).natAbs ∧ wv x.abs < 18446744073709551616 ∧ x.neg = decide (iv x < 0) := by
  obtain ⟨h1, h2⟩ := h
  generalize iv x = z at *
  subst h1
  unfold bz
  dsimp only
  rw [wv_ws]
  exact ⟨rfl, rfl, h2, rfl⟩
theorem gnew_ok (x : Int) (h : -9223372036854775808 ≤ x ∧ x ≤ 9223372036854775807) : gnew_vc x (fun r => r = bz x) := by
  refine ⟨fun h1 => ?_, fun h1 => ?_⟩
  · have h1' := of_decide_eq_true h1
    have e : wu64 (0 - wu64 x) = -x := by
      rw [wu64_neg x (by omega), wu64_neg _ (by omega)]
      omega
    rw [e]
    refine ⟨by omega, fun _ r hr _ => ?_⟩
    subst hr
    show ggive _ _ _ = _
    unfold ggive bz gwordsS
    have e2 : (-x).toNat = x.natAbs := by omega
    have e3 : decide (((ws x.natAbs).length : Int) > 0) = true := by
      rw [decide_eq_true_eq]
      have : ¬ (ws x.natAbs).length = 0 := fun hc => by rw [ws_len0] at hc; omega
      omega
    rw [e2, e3, Bool.and_true]
  · have h1' := of_decide_eq_false h1
    rw [wu64_eq x (by omega)]
    refine ⟨by omega, fun _ r hr _ => ?_⟩
    subst hr
    show ggive _ _ _ = _
    unfold ggive bz gwordsS
    have e2 : x.toNat = x.natAbs := by omega
    rw [h1, Bool.false_and, e2]
def rdenS (r : BRat) : BRat := r
theorem rden_ok (r : BRat) (h : r.b.abs ≠ []) : rden_vc r (fun x => x = rdenS r) := by
  intro _ _
  refine ⟨?_, rfl⟩
  rw [beq_eq_false_iff_ne]
  intro hc
  have : r.b.abs.length = 0 := by omega
  exact h (List.length_eq_zero_iff.1 this)
def gnegAS (r : BRat) : BRat := ⟨⟨(!r.a.neg) && decide ((r.a.abs.length : Int) > 0), r.a.abs⟩, r.b⟩
theorem gnegA_ok (r : BRat) (h : r.a.abs.length ≤ 1000000) : gnegA_vc r (fun x => x = gnegAS r) := fun _ _ => ⟨h, rfl⟩
def gnegBS (r : BRat) : BRat := ⟨r.a, ⟨(!r.b.neg) && decide ((r.b.abs.length : Int) > 0), r.b.abs⟩⟩
theorem gnegB_ok (r : BRat) (h : r.b.abs.length ≤ 1000000) : gnegB_vc r (fun x => x = gnegBS r) := fun _ _ => ⟨h, rfl⟩

end Go.Proofs.YtdndfbamhnchfaaDoor
set_option linter.unusedVariables false
set_option linter.unusedSimpArgs false
namespace Go.Proofs.YtdndfbamhnchfaaDoor
open Go.Sy Go.RowKit
def gmulAB_vc (u0 : BInt) (u1 : BRat) (u2 : BRat) (K : (BInt × BRat × BRat) → Prop) : Prop :=
  (u0.abs.length ≤ 140737488355328 →
    (u1.a.abs.length ≤ 140737488355328 →
    (u1.b.abs.length ≤ 140737488355328 →
    (u2.a.abs.length ≤ 140737488355328 →
    (u2.b.abs.length ≤ 140737488355328 →
    ((wok u1.a.abs ∧ wok u2.b.abs ∧ u1.a.abs.length ≤ 1000 ∧ u2.b.abs.length ≤ 1000) ∧
    (K ((ggive u0 (u1.a.neg != u2.b.neg) (gmulS u1.a.abs u2.b.abs)), u1, u2))))))))

def gmulBA_vc (u0 : BInt) (u1 : BRat) (u2 : BRat) (K : (BInt × BRat × BRat) → Prop) : Prop :=
  (u0.abs.length ≤ 140737488355328 →
    (u1.a.abs.length ≤ 140737488355328 →
    (u1.b.abs.length ≤ 140737488355328 →
    (u2.a.abs.length ≤ 140737488355328 →
    (u2.b.abs.length ≤ 140737488355328 →
    ((wok u1.b.abs ∧ wok u2.a.abs ∧ u1.b.abs.length ≤ 1000 ∧ u2.a.abs.length ≤ 1000) ∧
    (K ((ggive u0 (u1.b.neg != u2.a.neg) (gmulS u1.b.abs u2.a.abs)), u1, u2))))))))

def gmulAA_vc (u0 : BInt) (u1 : BRat) (u2 : BRat) (K : (BInt × BRat × BRat) → Prop) : Prop :=
  (u0.abs.length ≤ 140737488355328 →
    (u1.a.abs.length ≤ 140737488355328 →
    (u1.b.abs.length ≤ 140737488355328 →
    (u2.a.abs.length ≤ 140737488355328 →
    (u2.b.abs.length ≤ 140737488355328 →
    ((wok u1.a.abs ∧ wok u2.a.abs ∧ u1.a.abs.length ≤ 1000 ∧ u2.a.abs.length ≤ 1000) ∧
    (K ((ggive u0 (u1.a.neg != u2.a.neg) (gmulS u1.a.abs u2.a.abs)), u1, u2))))))))

def gmulBB_vc (u0 : BInt) (u1 : BRat) (u2 : BRat) (K : (BInt × BRat × BRat) → Prop) : Prop :=
  (u0.abs.length ≤ 140737488355328 →
    (u1.a.abs.length ≤ 140737488355328 →
    (u1.b.abs.length ≤ 140737488355328 →
    (u2.a.abs.length ≤ 140737488355328 →
    (u2.b.abs.length ≤ 140737488355328 →
    ((wok u1.b.abs ∧ wok u2.b.abs ∧ u1.b.abs.length ≤ 1000 ∧ u2.b.abs.length ≤ 1000) ∧
    (K ((ggive u0 (u1.b.neg != u2.b.neg) (gmulS u1.b.abs u2.b.abs)), u1, u2))))))))

def gaddI_vc (u0 : BInt) (u1 : BInt) (u2 : BInt) (K : (BInt × BInt × BInt) → Prop) : Prop :=
  (u0.abs.length ≤ 140737488355328 →
    (u1.abs.length ≤ 140737488355328 →
    (u2.abs.length ≤ 140737488355328 →
    ((u1.abs = ws (wv u1.abs) ∧ u2.abs = ws (wv u2.abs) ∧ wv u1.abs < 18446744073709551616 ∧ wv u2.abs < 18446744073709551616) ∧
    (K ((ggive u0 (gsumS u1.neg u1.abs u2.neg u2.abs).1 (gsumS u1.neg u1.abs u2.neg u2.abs).2), u1, u2))))))

def rnorm_vc (u0 : BRat) (K : BRat → Prop) : Prop :=
  (u0.a.abs.length ≤ 140737488355328 →
    (u0.b.abs.length ≤ 140737488355328 →
    ((((u0.b.abs.length : Int) == 0) = false) ∧
    (∃ inv43 : BRat → Prop,
    ((u0.b.neg = true →
      ((u0.a.abs.length ≤ 1000000) ∧
      (((gnegAS u0).b.abs.length ≤ 1000000) ∧
      (inv43 (gnegBS (gnegAS u0)))))) ∧
    (u0.b.neg = false →
      (inv43 u0))) ∧
    (∀ (yb1 : BRat), inv43 yb1 →
      ((((yb1.a.abs.length : Int) == 0) = true →
        ((0 ≤ (1 : Int) ∧ (1 : Int) ≤ 18446744073709551615) ∧
        ((gwordsS 1).length ≤ 140737488355328 →
        (∀ r126, (ggiveB yb1 false (gwordsS 1)) = r126 →
        (r126.a.abs.length ≤ 140737488355328 →
        (r126.b.abs.length ≤ 140737488355328 →
        (K r126))))))) ∧
      (((yb1.a.abs.length : Int) == 0) = false →
        ((((yb1.b.abs.length : Int) == 1) = true →
          ((0 ≤ (0 : Int) ∧ (0 : Int) < (yb1.b.abs.length : Int)) ∧
          (∀ q187, yb1.b.abs[(0 : Int).toNat]? = some q187 →
          (((q187 == 1) = true →
            (K yb1)) ∧
          ((q187 == 1) = false →
            ((yb1.a.abs = ws (wv yb1.a.abs) ∧ yb1.b.abs = ws (wv yb1.b.abs) ∧ wv yb1.a.abs < 18446744073709551616 ∧ wv yb1.b.abs < 18446744073709551616) ∧
            (((((gcomS yb1.a.abs yb1.b.abs).length : Int) == 1) = true →
              ((0 ≤ (0 : Int) ∧ (0 : Int) < ((gcomS yb1.a.abs yb1.b.abs).length : Int)) ∧
              (∀ q267, (gcomS yb1.a.abs yb1.b.abs)[(0 : Int).toNat]? = some q267 →
              (((q267 == 1) = true →
                (K yb1)) ∧
              ((q267 == 1) = false →
                ((yb1.a.abs = ws (wv yb1.a.abs) ∧ (gcomS yb1.a.abs yb1.b.abs) = ws (wv (gcomS yb1.a.abs yb1.b.abs)) ∧ wv yb1.a.abs < 18446744073709551616 ∧ wv (gcomS yb1.a.abs yb1.b.abs) < 18446744073709551616 ∧ 0 < wv (gcomS yb1.a.abs yb1.b.abs)) ∧
                ((gdivS yb1.a.abs (gcomS yb1.a.abs yb1.b.abs)).1.length ≤ 140737488355328 →
                ((gdivS yb1.a.abs (gcomS yb1.a.abs yb1.b.abs)).2.length ≤ 140737488355328 →
                ((yb1.b.abs = ws (wv yb1.b.abs) ∧ (gcomS yb1.a.abs yb1.b.abs) = ws (wv (gcomS yb1.a.abs yb1.b.abs)) ∧ wv yb1.b.abs < 18446744073709551616 ∧ wv (gcomS yb1.a.abs yb1.b.abs) < 18446744073709551616 ∧ 0 < wv (gcomS yb1.a.abs yb1.b.abs)) ∧
                ((gdivS yb1.b.abs (gcomS yb1.a.abs yb1.b.abs)).1.length ≤ 140737488355328 →
                ((gdivS yb1.b.abs (gcomS yb1.a.abs yb1.b.abs)).2.length ≤ 140737488355328 →
                (K (⟨(⟨yb1.a.neg, (gdivS yb1.a.abs (gcomS yb1.a.abs yb1.b.abs)).1⟩ : BInt), (⟨yb1.b.neg, (gdivS yb1.b.abs (gcomS yb1.a.abs yb1.b.abs)).1⟩ : BInt)⟩ : BRat))))))))))))) ∧
            ((((gcomS yb1.a.abs yb1.b.abs).length : Int) == 1) = false →
              ((yb1.a.abs = ws (wv yb1.a.abs) ∧ (gcomS yb1.a.abs yb1.b.abs) = ws (wv (gcomS yb1.a.abs yb1.b.abs)) ∧ wv yb1.a.abs < 18446744073709551616 ∧ wv (gcomS yb1.a.abs yb1.b.abs) < 18446744073709551616 ∧ 0 < wv (gcomS yb1.a.abs yb1.b.abs)) ∧
              ((gdivS yb1.a.abs (gcomS yb1.a.abs yb1.b.abs)).1.length ≤ 140737488355328 →
              ((gdivS yb1.a.abs (gcomS yb1.a.abs yb1.b.abs)).2.length ≤ 140737488355328 →
              ((yb1.b.abs = ws (wv yb1.b.abs) ∧ (gcomS yb1.a.abs yb1.b.abs) = ws (wv (gcomS yb1.a.abs yb1.b.abs)) ∧ wv yb1.b.abs < 18446744073709551616 ∧ wv (gcomS yb1.a.abs yb1.b.abs) < 18446744073709551616 ∧ 0 < wv (gcomS yb1.a.abs yb1.b.abs)) ∧
              ((gdivS yb1.b.abs (gcomS yb1.a.abs yb1.b.abs)).1.length ≤ 140737488355328 →
              ((gdivS yb1.b.abs (gcomS yb1.a.abs yb1.b.abs)).2.length ≤ 140737488355328 →
              (K (⟨(⟨yb1.a.neg, (gdivS yb1.a.abs (gcomS yb1.a.abs yb1.b.abs)).1⟩ : BInt), (⟨yb1.b.neg, (gdivS yb1.b.abs (gcomS yb1.a.abs yb1.b.abs)).1⟩ : BInt)⟩ : BRat)))))))))))))))) ∧
        (((yb1.b.abs.length : Int) == 1) = false →
          ((yb1.a.abs = ws (wv yb1.a.abs) ∧ yb1.b.abs = ws (wv yb1.b.abs) ∧ wv yb1.a.abs < 18446744073709551616 ∧ wv yb1.b.abs < 18446744073709551616) ∧
          (((((gcomS yb1.a.abs yb1.b.abs).length : Int) == 1) = true →
            ((0 ≤ (0 : Int) ∧ (0 : Int) < ((gcomS yb1.a.abs yb1.b.abs).length : Int)) ∧
            (∀ q605, (gcomS yb1.a.abs yb1.b.abs)[(0 : Int).toNat]? = some q605 →
            (((q605 == 1) = true →
              (K yb1)) ∧
            ((q605 == 1) = false →
              ((yb1.a.abs = ws (wv yb1.a.abs) ∧ (gcomS yb1.a.abs yb1.b.abs) = ws (wv (gcomS yb1.a.abs yb1.b.abs)) ∧ wv yb1.a.abs < 18446744073709551616 ∧ wv (gcomS yb1.a.abs yb1.b.abs) < 18446744073709551616 ∧ 0 < wv (gcomS yb1.a.abs yb1.b.abs)) ∧
              ((gdivS yb1.a.abs (gcomS yb1.a.abs yb1.b.abs)).1.length ≤ 140737488355328 →
              ((gdivS yb1.a.abs (gcomS yb1.a.abs yb1.b.abs)).2.length ≤ 140737488355328 →
              ((yb1.b.abs = ws (wv yb1.b.abs) ∧ (gcomS yb1.a.abs yb1.b.abs) = ws (wv (gcomS yb1.a.abs yb1.b.abs)) ∧ wv yb1.b.abs < 18446744073709551616 ∧ wv (gcomS yb1.a.abs yb1.b.abs) < 18446744073709551616 ∧ 0 < wv (gcomS yb1.a.abs yb1.b.abs)) ∧
              ((gdivS yb1.b.abs (gcomS yb1.a.abs yb1.b.abs)).1.length ≤ 140737488355328 →
              ((gdivS yb1.b.abs (gcomS yb1.a.abs yb1.b.abs)).2.length ≤ 140737488355328 →
              (K (⟨(⟨yb1.a.neg, (gdivS yb1.a.abs (gcomS yb1.a.abs yb1.b.abs)).1⟩ : BInt), (⟨yb1.b.neg, (gdivS yb1.b.abs (gcomS yb1.a.abs yb1.b.abs)).1⟩ : BInt)⟩ : BRat))))))))))))) ∧
          ((((gcomS yb1.a.abs yb1.b.abs).length : Int) == 1) = false →
            ((yb1.a.abs = ws (wv yb1.a.abs) ∧ (gcomS yb1.a.abs yb1.b.abs) = ws (wv (gcomS yb1.a.abs yb1.b.abs)) ∧ wv yb1.a.abs < 18446744073709551616 ∧ wv (gcomS yb1.a.abs yb1.b.abs) < 18446744073709551616 ∧ 0 < wv (gcomS yb1.a.abs yb1.b.abs)) ∧
            ((gdivS yb1.a.abs (gcomS yb1.a.abs yb1.b.abs)).1.length ≤ 140737488355328 →
            ((gdivS yb1.a.abs (gcomS yb1.a.abs yb1.b.abs)).2.length ≤ 140737488355328 →
            ((yb1.b.abs = ws (wv yb1.b.abs) ∧ (gcomS yb1.a.abs yb1.b.abs) = ws (wv (gcomS yb1.a.abs yb1.b.abs)) ∧ wv yb1.b.abs < 18446744073709551616 ∧ wv (gcomS yb1.a.abs yb1.b.abs) < 18446744073709551616 ∧ 0 < wv (gcomS yb1.a.abs yb1.b.abs)) ∧
            ((gdivS yb1.b.abs (gcomS yb1.a.abs yb1.b.abs)).1.length ≤ 140737488355328 →
            ((gdivS yb1.b.abs (gcomS yb1.a.abs yb1.b.abs)).2.length ≤ 140737488355328 →
            (K (⟨(⟨yb1.a.neg, (gdivS yb1.a.abs (gcomS yb1.a.abs yb1.b.abs)).1⟩ : BInt), (⟨yb1.b.neg, (gdivS yb1.b.abs (gcomS yb1.a.abs yb1.b.abs)).1⟩ : BInt)⟩ : BRat))))))))))))))))))))

def rnum_vc (u0 : BRat) (K : BRat → Prop) : Prop :=
  (u0.a.abs.length ≤ 140737488355328 →
    (u0.b.abs.length ≤ 140737488355328 →
    (K u0)))

def gi64_vc (u0 : BInt) (K : (Int × BInt) → Prop) : Prop :=
  (u0.abs.length ≤ 140737488355328 →
    (((decide ((u0.abs.length : Int) > 0)) = true →
      ((0 ≤ (0 : Int) ∧ (0 : Int) < (u0.abs.length : Int)) ∧
      (∀ q50, u0.abs[(0 : Int).toNat]? = some q50 →
      (((decide ((u0.abs.length : Int) > 1)) = true →
        ((0 ≤ (1 : Int) ∧ (1 : Int) < (u0.abs.length : Int)) ∧
        (∀ q94, u0.abs[(1 : Int).toNat]? = some q94 →
        ((u0.neg = true →
          (K (w64 (0 - (w64 (bOr .u64 (wu64 q50) (bShl .u64 (wu64 q94) 32)))), u0))) ∧
        (u0.neg = false →
          (K (w64 (bOr .u64 (wu64 q50) (bShl .u64 (wu64 q94) 32)), u0))))))) ∧
      ((decide ((u0.abs.length : Int) > 1)) = false →
        ((u0.neg = true →
          (K (w64 (0 - (w64 (wu64 q50))), u0))) ∧
        (u0.neg = false →
          (K (w64 (wu64 q50), u0))))))))) ∧
    ((decide ((u0.abs.length : Int) > 0)) = false →
      (((decide ((u0.abs.length : Int) > 1)) = true →
        ((0 ≤ (1 : Int) ∧ (1 : Int) < (u0.abs.length : Int)) ∧
        (∀ q226, u0.abs[(1 : Int).toNat]? = some q226 →
        ((u0.neg = true →
          (K (w64 (0 - (w64 (bOr .u64 0 (bShl .u64 (wu64 q226) 32)))), u0))) ∧
        (u0.neg = false →
          (K (w64 (bOr .u64 0 (bShl .u64 (wu64 q226) 32)), u0))))))) ∧
      ((decide ((u0.abs.length : Int) > 1)) = false →
        ((u0.neg = true →
          (K (0, u0))) ∧
        (u0.neg = false →
          (K (0, u0)))))))))

def gi64A_vc (u0 : BRat) (K : (Int × BRat) → Prop) : Prop :=
  (u0.a.abs.length ≤ 140737488355328 →
    (u0.b.abs.length ≤ 140737488355328 →
    (((decide ((u0.a.abs.length : Int) > 0)) = true →
      ((0 ≤ (0 : Int) ∧ (0 : Int) < (u0.a.abs.length : Int)) ∧
      (∀ q54, u0.a.abs[(0 : Int).toNat]? = some q54 →
      (((decide ((u0.a.abs.length : Int) > 1)) = true →
        ((0 ≤ (1 : Int) ∧ (1 : Int) < (u0.a.abs.length : Int)) ∧
        (∀ q98, u0.a.abs[(1 : Int).toNat]? = some q98 →
        ((u0.a.neg = true →
          (K (w64 (0 - (w64 (bOr .u64 (wu64 q54) (bShl .u64 (wu64 q98) 32)))), u0))) ∧
        (u0.a.neg = false →
          (K (w64 (bOr .u64 (wu64 q54) (bShl .u64 (wu64 q98) 32)), u0))))))) ∧
      ((decide ((u0.a.abs.length : Int) > 1)) = false →
        ((u0.a.neg = true →
          (K (w64 (0 - (w64 (wu64 q54))), u0))) ∧
        (u0.a.neg = false →
          (K (w64 (wu64 q54), u0))))))))) ∧
    ((decide ((u0.a.abs.length : Int) > 0)) = false →
      (((decide ((u0.a.abs.length : Int) > 1)) = true →
        ((0 ≤ (1 : Int) ∧ (1 : Int) < (u0.a.abs.length : Int)) ∧
        (∀ q230, u0.a.abs[(1 : Int).toNat]? = some q230 →
        ((u0.a.neg = true →
          (K (w64 (0 - (w64 (bOr .u64 0 (bShl .u64 (wu64 q230) 32)))), u0))) ∧
        (u0.a.neg = false →
          (K (w64 (bOr .u64 0 (bShl .u64 (wu64 q230) 32)), u0))))))) ∧
      ((decide ((u0.a.abs.length : Int) > 1)) = false →
        ((u0.a.neg = true →
          (K (0, u0))) ∧
        (u0.a.neg = false →
          (K (0, u0))))))))))

def gsubI_vc (u0 : BInt) (u1 : BInt) (u2 : BInt) (K : (BInt × BInt × BInt) → Prop) : Prop :=
  (u0.abs.length ≤ 140737488355328 →
    (u1.abs.length ≤ 140737488355328 →
    (u2.abs.length ≤ 140737488355328 →
    ((u1.abs = ws (wv u1.abs) ∧ u2.abs = ws (wv u2.abs) ∧ wv u1.abs < 18446744073709551616 ∧ wv u2.abs < 18446744073709551616) ∧
    (K ((ggive u0 (gsumS u1.neg u1.abs (!u2.neg) u2.abs).1 (gsumS u1.neg u1.abs (!u2.neg) u2.abs).2), u1, u2))))))

def gcmpA_vc (u0 : BRat) (u1 : BInt) (K : (Int × BRat × BInt) → Prop) : Prop :=
  (u0.a.abs.length ≤ 140737488355328 →
    (u0.b.abs.length ≤ 140737488355328 →
    (u1.abs.length ≤ 140737488355328 →
    (((u0.a.neg != u1.neg) = true →
      ((u0.a.neg = true →
        (K (-1, u0, u1))) ∧
      (u0.a.neg = false →
        (K (1, u0, u1))))) ∧
    ((u0.a.neg != u1.neg) = false →
      ((u0.a.abs.length ≤ 1000 ∧ u1.abs.length ≤ 1000 ∧ u0.a.abs = ws (wv u0.a.abs) ∧ u1.abs = ws (wv u1.abs)) ∧
      ((u0.a.neg = true →
        (K (w64 (0 - (gcmpS u0.a.abs u1.abs)), u0, u1))) ∧
      (u0.a.neg = false →
        (K ((gcmpS u0.a.abs u1.abs), u0, u1))))))))))

def gcmpB_vc (u0 : BRat) (u1 : BInt) (K : (Int × BRat × BInt) → Prop) : Prop :=
  (u0.a.abs.length ≤ 140737488355328 →
    (u0.b.abs.length ≤ 140737488355328 →
    (u1.abs.length ≤ 140737488355328 →
    (((u0.b.neg != u1.neg) = true →
      ((u0.b.neg = true →
        (K (-1, u0, u1))) ∧
      (u0.b.neg = false →
        (K (1, u0, u1))))) ∧
    ((u0.b.neg != u1.neg) = false →
      ((u0.b.abs.length ≤ 1000 ∧ u1.abs.length ≤ 1000 ∧ u0.b.abs = ws (wv u0.b.abs) ∧ u1.abs = ws (wv u1.abs)) ∧
      ((u0.b.neg = true →
        (K (w64 (0 - (gcmpS u0.b.abs u1.abs)), u0, u1))) ∧
      (u0.b.neg = false →
        (K ((gcmpS u0.b.abs u1.abs), u0, u1))))))))))

def glshI_vc (u0 : BInt) (u1 : BInt) (u2 : Int) (K : (BInt × BInt) → Prop) : Prop :=
  (u0.abs.length ≤ 140737488355328 →
    (u1.abs.length ≤ 140737488355328 →
    ((wok u1.abs ∧ u1.abs.length ≤ 1000 ∧ 0 ≤ u2 ∧ u2 ≤ 100000) ∧
    (K ((ggive u0 u1.neg (gleftS u1.abs u2)), u1)))))

def grshI_vc (u0 : BInt) (u2 : Int) (K : BInt → Prop) : Prop :=
  (u0.abs.length ≤ 140737488355328 →
    ((u0.neg = false) ∧
    ((wok u0.abs ∧ u0.abs.length ≤ 1000 ∧ 0 ≤ u2 ∧ u2 ≤ 31) ∧
    ((grightS u0.abs u2).length ≤ 140737488355328 →
    (∀ r51, (ggive u0 false (grightS u0.abs u2)) = r51 →
    (r51.abs.length ≤ 140737488355328 →
    (K r51)))))))

def gnegI_vc (u0 : BInt) (u1 : BInt) (K : (BInt × BInt) → Prop) : Prop :=
  (u0.abs.length ≤ 140737488355328 →
    (u1.abs.length ≤ 140737488355328 →
    ((u1.abs.length ≤ 1000000) ∧
    (K ((ggive u0 (!u1.neg) (gtwinS u1.abs)), u1)))))

/-! Pure proofs: no program in sight. -/
/-! ### Products and sums of whole numbers; a ratio in lowest terms -/
theorem give_bz (z : BInt) (n : Bool) (v : Int) (h : n = decide (v < 0) ∨ v = 0) : ggive z n (ws v.natAbs) = bz v := by
  unfold ggive bz
  by_cases hv : v = 0
  · subst hv
    have e : ws (0 : Int).natAbs = [] := ws_zero
    rw [e]
    simp
  · have e : decide (((ws v.natAbs).length : Int) > 0) = true := by
      rw [decide_eq_true_eq]
      have : ¬ (ws v.natAbs).length = 0 := fun hc => by rw [ws_len0] at hc; omega
      omega
    rw [e, Bool.and_true]
    rcases h with h | h
    · rw [h]
    · exact absurd h hv
theorem mul_core {x y : BInt} (hx : bk x) (hy : bk y) (z : BInt) : ggive z (x.neg != y.neg) (gmulS x.abs y.abs) = bz (iv x * iv y) := by
  obtain ⟨_, x1, _, x2⟩ := bk_abs hx
  obtain ⟨_, y1, _, y2⟩ := bk_abs hy
  unfold gmulS
  rw [x1, y1, x2, y2, ← Int.natAbs_mul]
  generalize iv x = X
  generalize iv y = Y
  refine give_bz z _ _ ?_
  rcases Int.lt_trichotomy X 0 with h1 | h1 | h1
  · rcases Int.lt_trichotomy Y 0 with h2 | h2 | h2
    · have := Int.mul_pos_of_neg_of_neg h1 h2
      left
      rw [decide_eq_true h1, decide_eq_true h2, decide_eq_false (by omega)]
      rfl
    · right
      rw [h2, Int.mul_zero]
    · have := Int.mul_neg_of_neg_of_pos h1 h2
      left
      rw [decide_eq_true h1, decide_eq_false (by omega), decide_eq_true this]
      rfl
  · right
    rw [h1, Int.zero_mul]
  · rcases Int.lt_trichotomy Y 0 with h2 | h2 | h2
    · have := Int.mul_neg_of_pos_of_neg h1 h2
      left
      rw [decide_eq_false (by omega), decide_eq_true h2, decide_eq_true this]
      rfl
    · right
      rw [h2, Int.mul_zero]
    · have := Int.mul_pos h1 h2
      left
      rw [decide_eq_false (by omega), decide_eq_false (by omega), decide_eq_false (by omega)]
      rfl
theorem bk_len {x : BInt} (hx : bk x) : wok x.abs ∧ x.abs.length ≤ 2 := by
  obtain ⟨x0, _, x2, _⟩ := bk_abs hx
  exact ⟨can_wok x0, can_two x0 x2⟩
theorem sum_core {x y : BInt} (hx : bk x) (hy : bk y) (z : BInt) : ggive z (gsumS x.neg x.abs y.neg y.abs).1 (gsumS x.neg x.abs y.neg y.abs).2 = bz (iv x + iv y) := by
  obtain ⟨_, x1, _, x2⟩ := bk_abs hx
  obtain ⟨_, y1, _, y2⟩ := bk_abs hy
  unfold gsumS
  rw [x1, y1, x2, y2]
  generalize iv x = X
  generalize iv y = Y
  split
  · rename_i h
    have h : (X < 0 ↔ Y < 0) := by
      have h := congrArg (· = true) h
      simpa using h
    have e : X.natAbs + Y.natAbs = (X + Y).natAbs := by omega
    dsimp only
    rw [e]
    refine give_bz z _ _ ?_
    by_cases h0 : X + Y = 0
    · exact .inr h0
    · left
      exact decide_eq_decide.2 (by omega)
  · rename_i h
    have h : ¬ (X < 0 ↔ Y < 0) := fun hc => h (decide_eq_decide.2 hc)
    split
    · have e : X.natAbs - Y.natAbs = (X + Y).natAbs := by omega
      dsimp only
      rw [e]
      refine give_bz z _ _ ?_
      by_cases h0 : X + Y = 0
      · exact .inr h0
      · left
        exact decide_eq_decide.2 (by omega)
    · have e : Y.natAbs - X.natAbs = (X + Y).natAbs := by omega
      dsimp only
      rw [e]
      refine give_bz z _ _ ?_
      by_cases h0 : X + Y = 0
      · exact .inr h0
      · left
        exact decide_eq_decide.2 (by omega)
def gmulABS (z : BInt) (x y : BRat) : BInt × BRat × BRat := (bz (iv x.a * iv y.b), x, y)
theorem gmulAB_ok (z : BInt) (x y : BRat) (h : bk x.a ∧ bk y.b) : gmulAB_vc z x y (fun r => r = gmulABS z x y) := by
  intro _ _ _ _ _
  obtain ⟨a1, a2⟩ := bk_len h.1
  obtain ⟨b1, b2⟩ := bk_len h.2
  refine ⟨⟨a1, b1, by omega, by omega⟩, ?_⟩
  unfold gmulABS
  rw [mul_core h.1 h.2]
def gmulBAS (z : BInt) (x y : BRat) : BInt × BRat × BRat := (bz (iv x.b * iv y.a), x, y)
theorem gmulBA_ok (z : BInt) (x y : BRat) (h : bk x.b ∧ bk y.a) : gmulBA_vc z x y (fun r => r = gmulBAS z x y) := by
  intro _ _ _ _ _
  obtain ⟨a1, a2⟩ := bk_len h.1
  obtain ⟨b1, b2⟩ := bk_len h.2
  refine ⟨⟨a1, b1, by omega, by omega⟩, ?_⟩
  unfold gmulBAS
  rw [mul_core h.1 h.2]
def gmulAAS (z : BInt) (x y : BRat) : BInt × BRat × BRat := (bz (iv x.a * iv y.a), x, y)
theorem gmulAA_ok (z : BInt) (x y : BRat) (h : bk x.a ∧ bk y.a) : gmulAA_vc z x y (fun r => r = gmulAAS z x y) := by
  intro _ _ _ _ _
  obtain ⟨a1, a2⟩ := bk_len h.1
  obtain ⟨b1, b2⟩ := bk_len h.2
  refine ⟨⟨a1, b1, by omega, by omega⟩, ?_⟩
  unfold gmulAAS
  rw [mul_core h.1 h.2]
def gmulBBS (z : BInt) (x y : BRat) : BInt × BRat × BRat := (bz (iv x.b * iv y.b), x, y)
theorem gmulBB_ok (z : BInt) (x y : BRat) (h : bk x.b ∧ bk y.b) : gmulBB_vc z x y (fun r => r = gmulBBS z x y) := by
  intro _ _ _ _ _
  obtain ⟨a1, a2⟩ := bk_len h.1
  obtain ⟨b1, b2⟩ := bk_len h.2
  refine ⟨⟨a1, b1, by omega, by omega⟩, ?_⟩
  unfold gmulBBS
  rw [mul_core h.1 h.2]
def gaddIS (z x y : BInt) : BInt × BInt × BInt := (bz (iv x + iv y), x, y)
theorem gaddI_ok (z x y : BInt) (h : bk x ∧ bk y) : gaddI_vc z x y (fun r => r = gaddIS z x y) := by
  intro _ _ _
  obtain ⟨a0, _, a2, _⟩ := bk_abs h.1
  obtain ⟨b0, _, b2, _⟩ := bk_abs h.2
  refine ⟨⟨a0, b0, a2, b2⟩, ?_⟩
  unfold gaddIS
  rw [sum_core h.1 h.2]
def rnumS (r : BRat) : BRat := r
theorem rnum_ok (r : BRat) : rnum_vc r (fun x => x = rnumS r) := fun _ _ => rfl
/-- A whole number that fits 63 bits. -/
def bs (x : BInt) : Prop := x = bz (iv x) ∧ (iv x).natAbs < 9223372036854775808
def gi64S (x : BInt) : Int × BInt := (iv x, x)
def gi64AS (x : BRat) : Int × BRat := (iv x.a, x)
theorem word2 (n m : Nat) (hn : n < 4294967296) (hm : m < 4294967296) : bOr .u64 (n : Int) (bShl .u64 (m : Int) 32) = ((n + 4294967296 * m : Nat) : Int) := by
  have e1 : bShl .u64 (m : Int) 32 = ((m * 2 ^ 32 : Nat) : Int) := shlu m 32 (by omega) (by omega)
  rw [e1, bor64 n _ (by omega) (by omega), or_add (r := 32) hn rfl]
  congr 1
  omega
theorem i64_core (neg : Bool) (l : List Int) (n : Nat) (hl : l = ws n) (hn : n < 9223372036854775808) {A : Int → Prop} (hA : A (if neg = true then -(n : Int) else (n : Int))) :
    ((((decide ((l.length : Int) > 0)) = true →
      ((0 ≤ (0 : Int) ∧ (0 : Int) < (l.length : Int)) ∧
      (∀ q50, l[(0 : Int).toNat]? = some q50 →
      (((decide ((l.length : Int) > 1)) = true →
        ((0 ≤ (1 : Int) ∧ (1 : Int) < (l.length : Int)) ∧
        (∀ q95, l[(1 : Int).toNat]? = some q95 →
        ((neg = true →
          (A (w64 (0 - (w64 (bOr .u64 (wu64 q50) (bShl .u64 (wu64 q95) 32))))))) ∧
        (neg = false →
          (A (w64 (bOr .u64 (wu64 q50) (bShl .u64 (wu64 q95) 32))))))))) ∧
      ((decide ((l.length : Int) > 1)) = false →
        ((neg = true →
          (A (w64 (0 - (w64 (wu64 q50)))))) ∧
        (neg = false →
          (A (w64 (wu64 q50)))))))))) ∧
    ((decide ((l.length : Int) > 0)) = false →
      (((decide ((l.length : Int) > 1)) = true →
        ((0 ≤ (1 : Int) ∧ (1 : Int) < (l.length : Int)) ∧
        (∀ q227, l[(1 : Int).toNat]? = some q227 →
        ((neg = true →
          (A (w64 (0 - (w64 (bOr .u64 0 (bShl .u64 (wu64 q227) 32))))))) ∧
        (neg = false →
          (A (w64 (bOr .u64 0 (bShl .u64 (wu64 q227) 32))))))))) ∧
      ((decide ((l.length : Int) > 1)) = false →
        ((neg = true →
          (A (0))) ∧
        (neg = false →
          (A (0))))))))) := by
  by_cases h0 : n = 0
  · subst h0
    rw [ws_zero] at hl
    subst hl
    refine ⟨fun h => (by cases h), fun _ => ⟨fun h => (by cases h), fun _ => ⟨fun h => ?_, fun h => ?_⟩⟩⟩
    · rw [h] at hA
      exact hA
    · rw [h] at hA
      exact hA
  · rw [ws_pos h0] at hl
    by_cases h1 : n / 4294967296 = 0
    · rw [h1, ws_zero] at hl
      subst hl
      refine ⟨fun _ => ⟨by (simp <;> omega), fun q hq => ⟨fun h => absurd h (by simp), fun _ => ?_⟩⟩, fun h => absurd h (by simp)⟩
      cases hq
      have e : n % 4294967296 = n := by omega
      rw [e, wu64_eq (n : Int) (by omega), w64_eq (n : Int) (by omega), w64_eq (0 - (n : Int)) (by omega)]
      refine ⟨fun h => ?_, fun h => ?_⟩
      · rw [h, if_pos rfl] at hA
        rw [Int.zero_sub]
        exact hA
      · rw [h] at hA
        exact hA
    · have h2 : n / 4294967296 / 4294967296 = 0 := by omega
      rw [ws_pos h1, h2, ws_zero] at hl
      subst hl
      refine ⟨fun _ => ⟨by (simp <;> omega), fun q hq => ⟨fun _ => ⟨by (simp <;> omega), fun p hp => ?_⟩, fun h => absurd h (by simp)⟩⟩, fun h => absurd h (by simp <;> omega)⟩
      cases hq
      cases hp
      have e : n % 4294967296 + 4294967296 * (n / 4294967296 % 4294967296) = n := by omega
      rw [wu64_eq _ (by omega), wu64_eq _ (by omega), word2 _ _ (Nat.mod_lt _ (by decide)) (Nat.mod_lt _ (by decide)), e, w64_eq (n : Int) (by omega), w64_eq (0 - (n : Int)) (by omega)]
      refine ⟨fun h => ?_, fun h => ?_⟩
      · rw [h, if_pos rfl] at hA
        rw [Int.zero_sub]
        exact hA
      · rw [h] at hA
        exact hA
theorem bs_bk {x : BInt} (h : bs x) : bk x := ⟨h.1, Nat.lt_trans h.2 (by decide)⟩
theorem gi64_ok (x : BInt) (h : bs x) : gi64_vc x (fun r => r = gi64S x) := by
  intro _
  obtain ⟨a0, a1, _, _⟩ := bk_abs (bs_bk h)
  have h2 := h.2
  rw [← a1] at h2
  exact i64_core x.neg x.abs (wv x.abs) a0 h2 (A := fun v => (v, x) = gi64S x) rfl
theorem gi64A_ok (x : BRat) (h : bs x.a) : gi64A_vc x (fun r => r = gi64AS x) := by
  intro _ _
  obtain ⟨a0, a1, _, _⟩ := bk_abs (bs_bk h)
  have h2 := h.2
  rw [← a1] at h2
  exact i64_core x.a.neg x.a.abs (wv x.a.abs) a0 h2 (A := fun v => (v, x) = gi64AS x) rfl
/-- Lowest terms of a/b, b above 0; of b not 0. -/
def nrm0 (a b : Int) : BRat := ⟨bz (a.tdiv (Int.gcd a b)), bz (b.tdiv (Int.gcd a b))⟩
def nrm (a b : Int) : BRat := if b < 0 then nrm0 (-a) (-b) else nrm0 a b
theorem tdiv_abs_sign {a : Int} {g : Nat} (hg : (g : Int) ∣ a) (h0 : g ≠ 0) : (a.tdiv g).natAbs = a.natAbs / g ∧ (a.tdiv g < 0 ↔ a < 0) := by
  obtain ⟨c, rfl⟩ := hg
  have hgp : 0 < (g : Int) := by omega
  rw [Int.mul_tdiv_cancel_left _ (by omega), Int.natAbs_mul, Int.natAbs_natCast, Nat.mul_div_cancel_left _ (by omega)]
  refine ⟨rfl, fun h => Int.mul_neg_of_pos_of_neg hgp h, fun h => ?_⟩
  rcases Int.lt_or_le c 0 with hc | hc
  · exact hc
  · have := Int.mul_nonneg (Int.le_of_lt hgp) hc
    omega
theorem norm_rest (r : BRat) (ha : bk r.a) (hb : bk r.b) (h0 : 0 < iv r.b) {A : BRat → Prop} (hA : A (nrm0 (iv r.a) (iv r.b))) :
    (((((r.a.abs.length : Int) == 0) = true →
        ((0 ≤ (1 : Int) ∧ (1 : Int) ≤ 18446744073709551615) ∧
        ((gwordsS 1).length ≤ 140737488355328 →
        (∀ r994, (ggiveB r false (gwordsS 1)) = r994 →
        (r994.a.abs.length ≤ 140737488355328 →
        (r994.b.abs.length ≤ 140737488355328 →
        (A r994))))))) ∧
      (((r.a.abs.length : Int) == 0) = false →
        ((((r.b.abs.length : Int) == 1) = true →
          ((0 ≤ (0 : Int) ∧ (0 : Int) < (r.b.abs.length : Int)) ∧
          (∀ q1056, r.b.abs[(0 : Int).toNat]? = some q1056 →
          (((q1056 == 1) = true →
            (A r)) ∧
          ((q1056 == 1) = false →
            ((r.a.abs = ws (wv r.a.abs) ∧ r.b.abs = ws (wv r.b.abs) ∧ wv r.a.abs < 18446744073709551616 ∧ wv r.b.abs < 18446744073709551616) ∧
            (((((gcomS r.a.abs r.b.abs).length : Int) == 1) = true →
              ((0 ≤ (0 : Int) ∧ (0 : Int) < ((gcomS r.a.abs r.b.abs).length : Int)) ∧
              (∀ q1137, (gcomS r.a.abs r.b.abs)[(0 : Int).toNat]? = some q1137 →
              (((q1137 == 1) = true →
                (A r)) ∧
              ((q1137 == 1) = false →
                ((r.a.abs = ws (wv r.a.abs) ∧ (gcomS r.a.abs r.b.abs) = ws (wv (gcomS r.a.abs r.b.abs)) ∧ wv r.a.abs < 18446744073709551616 ∧ wv (gcomS r.a.abs r.b.abs) < 18446744073709551616 ∧ 0 < wv (gcomS r.a.abs r.b.abs)) ∧
                ((gdivS r.a.abs (gcomS r.a.abs r.b.abs)).1.length ≤ 140737488355328 →
                ((gdivS r.a.abs (gcomS r.a.abs r.b.abs)).2.length ≤ 140737488355328 →
                ((r.b.abs = ws (wv r.b.abs) ∧ (gcomS r.a.abs r.b.abs) = ws (wv (gcomS r.a.abs r.b.abs)) ∧ wv r.b.abs < 18446744073709551616 ∧ wv (gcomS r.a.abs r.b.abs) < 18446744073709551616 ∧ 0 < wv (gcomS r.a.abs r.b.abs)) ∧
                ((gdivS r.b.abs (gcomS r.a.abs r.b.abs)).1.length ≤ 140737488355328 →
                ((gdivS r.b.abs (gcomS r.a.abs r.b.abs)).2.length ≤ 140737488355328 →
                (A (⟨(⟨r.a.neg, (gdivS r.a.abs (gcomS r.a.abs r.b.abs)).1⟩ : BInt), (⟨r.b.neg, (gdivS r.b.abs (gcomS r.a.abs r.b.abs)).1⟩ : BInt)⟩ : BRat))))))))))))) ∧
            ((((gcomS r.a.abs r.b.abs).length : Int) == 1) = false →
              ((r.a.abs = ws (wv r.a.abs) ∧ (gcomS r.a.abs r.b.abs) = ws (wv (gcomS r.a.abs r.b.abs)) ∧ wv r.a.abs < 18446744073709551616 ∧ wv (gcomS r.a.abs r.b.abs) < 18446744073709551616 ∧ 0 < wv (gcomS r.a.abs r.b.abs)) ∧
              ((gdivS r.a.abs (gcomS r.a.abs r.b.abs)).1.length ≤ 140737488355328 →
              ((gdivS r.a.abs (gcomS r.a.abs r.b.abs)).2.length ≤ 140737488355328 →
              ((r.b.abs = ws (wv r.b.abs) ∧ (gcomS r.a.abs r.b.abs) = ws (wv (gcomS r.a.abs r.b.abs)) ∧ wv r.b.abs < 18446744073709551616 ∧ wv (gcomS r.a.abs r.b.abs) < 18446744073709551616 ∧ 0 < wv (gcomS r.a.abs r.b.abs)) ∧
              ((gdivS r.b.abs (gcomS r.a.abs r.b.abs)).1.length ≤ 140737488355328 →
              ((gdivS r.b.abs (gcomS r.a.abs r.b.abs)).2.length ≤ 140737488355328 →
              (A (⟨(⟨r.a.neg, (gdivS r.a.abs (gcomS r.a.abs r.b.abs)).1⟩ : BInt), (⟨r.b.neg, (gdivS r.b.abs (gcomS r.a.abs r.b.abs)).1⟩ : BInt)⟩ : BRat)))))))))))))))) ∧
        (((r.b.abs.length : Int) == 1) = false →
          ((r.a.abs = ws (wv r.a.abs) ∧ r.b.abs = ws (wv r.b.abs) ∧ wv r.a.abs < 18446744073709551616 ∧ wv r.b.abs < 18446744073709551616) ∧
          (((((gcomS r.a.abs r.b.abs).length : Int) == 1) = true →
            ((0 ≤ (0 : Int) ∧ (0 : Int) < ((gcomS r.a.abs r.b.abs).length : Int)) ∧
            (∀ q1479, (gcomS r.a.abs r.b.abs)[(0 : Int).toNat]? = some q1479 →
            (((q1479 == 1) = true →
              (A r)) ∧
            ((q1479 == 1) = false →
              ((r.a.abs = ws (wv r.a.abs) ∧ (gcomS r.a.abs r.b.abs) = ws (wv (gcomS r.a.abs r.b.abs)) ∧ wv r.a.abs < 18446744073709551616 ∧ wv (gcomS r.a.abs r.b.abs) < 18446744073709551616 ∧ 0 < wv (gcomS r.a.abs r.b.abs)) ∧
              ((gdivS r.a.abs (gcomS r.a.abs r.b.abs)).1.length ≤ 140737488355328 →
              ((gdivS r.a.abs (gcomS r.a.abs r.b.abs)).2.length ≤ 140737488355328 →
              ((r.b.abs = ws (wv r.b.abs) ∧ (gcomS r.a.abs r.b.abs) = ws (wv (gcomS r.a.abs r.b.abs)) ∧ wv r.b.abs < 18446744073709551616 ∧ wv (gcomS r.a.abs r.b.abs) < 18446744073709551616 ∧ 0 < wv (gcomS r.a.abs r.b.abs)) ∧
              ((gdivS r.b.abs (gcomS r.a.abs r.b.abs)).1.length ≤ 140737488355328 →
              ((gdivS r.b.abs (gcomS r.a.abs r.b.abs)).2.length ≤ 140737488355328 →
              (A (⟨(⟨r.a.neg, (gdivS r.a.abs (gcomS r.a.abs r.b.abs)).1⟩ : BInt), (⟨r.b.neg, (gdivS r.b.abs (gcomS r.a.abs r.b.abs)).1⟩ : BInt)⟩ : BRat))))))))))))) ∧
          ((((gcomS r.a.abs r.b.abs).length : Int) == 1) = false →
            ((r.a.abs = ws (wv r.a.abs) ∧ (gcomS r.a.abs r.b.abs) = ws (wv (gcomS r.a.abs r.b.abs)) ∧ wv r.a.abs < 18446744073709551616 ∧ wv (gcomS r.a.abs r.b.abs) < 18446744073709551616 ∧ 0 < wv (gcomS r.a.abs r.b.abs)) ∧
            ((gdivS r.a.abs (gcomS r.a.abs r.b.abs)).1.length ≤ 140737488355328 →
            ((gdivS r.a.abs (gcomS r.a.abs r.b.abs)).2.length ≤ 140737488355328 →
            ((r.b.abs = ws (wv r.b.abs) ∧ (gcomS r.a.abs r.b.abs) = ws (wv (gcomS r.a.abs r.b.abs)) ∧ wv r.b.abs < 18446744073709551616 ∧ wv (gcomS r.a.abs r.b.abs) < 18446744073709551616 ∧ 0 < wv (gcomS r.a.abs r.b.abs)) ∧
            ((gdivS r.b.abs (gcomS r.a.abs r.b.abs)).1.length ≤ 140737488355328 →
            ((gdivS r.b.abs (gcomS r.a.abs r.b.abs)).2.length ≤ 140737488355328 →
            (A (⟨(⟨r.a.neg, (gdivS r.a.abs (gcomS r.a.abs r.b.abs)).1⟩ : BInt), (⟨r.b.neg, (gdivS r.b.abs (gcomS r.a.abs r.b.abs)).1⟩ : BInt)⟩ : BRat)))))))))))))))) := by
  obtain ⟨a0, a1, a2, a3⟩ := bk_abs ha
  obtain ⟨b0, b1, b2, b3⟩ := bk_abs hb
  have hbn : r.b.neg = false := by rw [b3]; exact decide_eq_false (by omega)
  have hg0 : Nat.gcd (wv r.a.abs) (wv r.b.abs) ≠ 0 := by
    have : 0 < Nat.gcd (wv r.a.abs) (wv r.b.abs) := Nat.gcd_pos_of_pos_right _ (by omega)
    omega
  have hG : Int.gcd (iv r.a) (iv r.b) = Nat.gcd (wv r.a.abs) (wv r.b.abs) := by rw [a1, b1]; rfl
  have hone : (gwordsS 1) = [1] := by decide +kernel
  -- what comes of the division
  have hdiv : (⟨(⟨r.a.neg, (gdivS r.a.abs (gcomS r.a.abs r.b.abs)).1⟩ : BInt), (⟨r.b.neg, (gdivS r.b.abs (gcomS r.a.abs r.b.abs)).1⟩ : BInt)⟩ : BRat) = nrm0 (iv r.a) (iv r.b) := by
    unfold nrm0 gdivS gcomS
    rw [hG]
    dsimp only
    rw [wv_ws]
    obtain ⟨p1, p2⟩ := tdiv_abs_sign (a := iv r.a) (g := Nat.gcd (wv r.a.abs) (wv r.b.abs)) (by rw [← hG]; exact Int.gcd_dvd_left ..) hg0
    obtain ⟨q1, q2⟩ := tdiv_abs_sign (a := iv r.b) (g := Nat.gcd (wv r.a.abs) (wv r.b.abs)) (by rw [← hG]; exact Int.gcd_dvd_right ..) hg0
    unfold bz
    rw [p1, q1, ← a1, ← b1, a3, b3]
    congr 2
    · exact decide_eq_decide.2 p2.symm
    · exact decide_eq_decide.2 q2.symm
  have hsame : Nat.gcd (wv r.a.abs) (wv r.b.abs) = 1 → r = nrm0 (iv r.a) (iv r.b) := by
    intro h
    unfold nrm0
    rw [hG, h]
    show r = ⟨bz ((iv r.a).tdiv 1), bz ((iv r.b).tdiv 1)⟩
    rw [Int.tdiv_one, Int.tdiv_one, ← ha.1, ← hb.1]
  have hcom : gcomS r.a.abs r.b.abs = ws (wv (gcomS r.a.abs r.b.abs)) := by unfold gcomS; rw [wv_ws]
  have hcv : wv (gcomS r.a.abs r.b.abs) = Nat.gcd (wv r.a.abs) (wv r.b.abs) := by unfold gcomS; rw [wv_ws]
  have hcl : wv (gcomS r.a.abs r.b.abs) < 18446744073709551616 := by
    have := Nat.gcd_le_right (wv r.a.abs) (show 0 < wv r.b.abs by omega)
    omega
  have hlen : ∀ q, ((gcomS r.a.abs r.b.abs).length : Int) = 1 → (gcomS r.a.abs r.b.abs)[(0 : Int).toNat]? = some q → q = 1 → Nat.gcd (wv r.a.abs) (wv r.b.abs) = 1 := by
    intro q h1 h2 h3
    subst h3
    rw [← hcv]
    generalize gcomS r.a.abs r.b.abs = l at *
    match l, h1, h2 with
    | [x], _, h2 =>
      cases h2
      rfl
    | [], h1, _ => simp at h1
    | _ :: _ :: _, h1, _ => simp at h1; omega
  have hpre : (r.a.abs = ws (wv r.a.abs) ∧ r.b.abs = ws (wv r.b.abs) ∧ wv r.a.abs < 18446744073709551616 ∧ wv r.b.abs < 18446744073709551616) := ⟨a0, b0, a2, b2⟩
  have hpa : (r.a.abs = ws (wv r.a.abs) ∧ (gcomS r.a.abs r.b.abs) = ws (wv (gcomS r.a.abs r.b.abs)) ∧ wv r.a.abs < 18446744073709551616 ∧ wv (gcomS r.a.abs r.b.abs) < 18446744073709551616 ∧ 0 < wv (gcomS r.a.abs r.b.abs)) := ⟨a0, hcom, a2, hcl, by omega⟩
  have hpb : (r.b.abs = ws (wv r.b.abs) ∧ (gcomS r.a.abs r.b.abs) = ws (wv (gcomS r.a.abs r.b.abs)) ∧ wv r.b.abs < 18446744073709551616 ∧ wv (gcomS r.a.abs r.b.abs) < 18446744073709551616 ∧ 0 < wv (gcomS r.a.abs r.b.abs)) := ⟨b0, hcom, b2, hcl, by omega⟩
  have hlen1 : ∀ l : List Int, ((l.length : Int) == 1) = true → (0 : Int) ≤ 0 ∧ (0 : Int) < (l.length : Int) := by
    intro l h
    have h : (l.length : Int) = 1 := by simpa using h
    omega
  have hlast : ((gdivS r.a.abs (gcomS r.a.abs r.b.abs)).1.length ≤ 140737488355328 → (gdivS r.a.abs (gcomS r.a.abs r.b.abs)).2.length ≤ 140737488355328 → True) := fun _ _ => trivial
  refine ⟨fun h1 => ⟨by omega, fun _ x hx _ _ => ?_⟩, fun h1 => ⟨fun h2 => ⟨hlen1 _ h2, fun q hq => ⟨fun h3 => ?_, fun h3 => ⟨hpre, fun h4 => ⟨hlen1 _ h4, fun p hp => ⟨fun h5 => ?_, fun h5 => ⟨hpa, fun _ _ => ⟨hpb, fun _ _ => ?_⟩⟩⟩⟩, fun h4 => ⟨hpa, fun _ _ => ⟨hpb, fun _ _ => ?_⟩⟩⟩⟩⟩, fun h2 => ⟨hpre, fun h4 => ⟨hlen1 _ h4, fun p hp => ⟨fun h5 => ?_, fun h5 => ⟨hpa, fun _ _ => ⟨hpb, fun _ _ => ?_⟩⟩⟩⟩, fun h4 => ⟨hpa, fun _ _ => ⟨hpb, fun _ _ => ?_⟩⟩⟩⟩⟩
  · subst hx
    have hz : r.a.abs.length = 0 := by have : (r.a.abs.length : Int) = 0 := by simpa using h1
                                       omega
    have hz0 : wv r.a.abs = 0 := by
      rw [List.length_eq_zero_iff] at hz
      rw [hz]
      rfl
    have hiv : iv r.a = 0 := by omega
    have e : ggiveB r false (gwordsS 1) = nrm0 (iv r.a) (iv r.b) := by
      unfold nrm0 ggiveB
      rw [hG, hz0, Nat.gcd_zero_left, hiv, Int.zero_tdiv, hone, b1]
      have e1 : ((iv r.b).natAbs : Int) = iv r.b := by omega
      rw [e1, Int.tdiv_self (by omega), ← hiv, ← ha.1]
      have e3 : bz 1 = ⟨false, [1]⟩ := by decide +kernel
      rw [e3]
      rfl
    rw [e]
    exact hA
  · have h3 : q = 1 := by simpa using h3
    subst h3
    have hb1 : wv r.b.abs = 1 := by
      have h2 : (r.b.abs.length : Int) = 1 := by simpa using h2
      generalize r.b.abs = l at h2 hq
      match l, h2, hq with
      | [x], _, hq =>
        cases hq
        rfl
      | [], h2, _ => simp at h2
      | _ :: _ :: _, h2, _ => simp at h2; omega
    rw [hsame (by rw [hb1, Nat.gcd_one_right])]
    have e := hsame (by rw [hb1, Nat.gcd_one_right])
    rw [← e]
    rw [← e] at hA
    exact hA
  · have e := hsame (hlen p (by simpa using h4) hp (by simpa using h5))
    rw [← e] at hA
    exact hA
  · rw [hdiv]
    exact hA
  · rw [hdiv]
    exact hA
  · have e := hsame (hlen p (by simpa using h4) hp (by simpa using h5))
    rw [← e] at hA
    exact hA
  · rw [hdiv]
    exact hA
  · rw [hdiv]
    exact hA
theorem neg_give {x : BInt} (h : bk x) : (⟨(!x.neg) && decide ((x.abs.length : Int) > 0), x.abs⟩ : BInt) = bz (-(iv x)) := by
  obtain ⟨x0, x1, _, x3⟩ := bk_abs h
  have := give_bz ⟨false, []⟩ (!x.neg) (-(iv x)) (by
    rw [x3]
    by_cases h0 : iv x = 0
    · right
      omega
    · left
      by_cases h1 : iv x < 0
      · rw [decide_eq_true h1, decide_eq_false (by omega)]
        rfl
      · rw [decide_eq_false h1, decide_eq_true (by omega)]
        rfl)
  rw [Int.natAbs_neg, ← x1, ← x0] at this
  exact this
def rnormS (r : BRat) : BRat := nrm (iv r.a) (iv r.b)
theorem rnorm_ok (r : BRat) (h : bk r.a ∧ bk r.b ∧ iv r.b ≠ 0) : rnorm_vc r (fun x => x = rnormS r) := by
  obtain ⟨ha, hb, h0⟩ := h
  obtain ⟨a0, a1, a2, a3⟩ := bk_abs ha
  obtain ⟨b0, b1, b2, b3⟩ := bk_abs hb
  obtain ⟨_, la⟩ := bk_len ha
  obtain ⟨_, lb⟩ := bk_len hb
  intro _ _
  unfold rnormS nrm
  refine ⟨?_, fun y => bk y.a ∧ bk y.b ∧ 0 < iv y.b ∧ nrm0 (iv y.a) (iv y.b) = (if iv r.b < 0 then nrm0 (-(iv r.a)) (-(iv r.b)) else nrm0 (iv r.a) (iv r.b)), ⟨fun h1 => ⟨by omega, by show r.b.abs.length ≤ 1000000; omega, ?_⟩, fun h1 => ?_⟩, fun y hy => norm_rest y hy.1 hy.2.1 hy.2.2.1 (A := fun x => x = if iv r.b < 0 then nrm0 (-(iv r.a)) (-(iv r.b)) else nrm0 (iv r.a) (iv r.b)) hy.2.2.2⟩
  · rw [beq_eq_false_iff_ne]
    intro hc
    have hc : r.b.abs.length = 0 := by omega
    rw [List.length_eq_zero_iff] at hc
    rw [hc] at b1
    have : (0 : Nat) = (iv r.b).natAbs := b1
    omega
  · have hneg : iv r.b < 0 := by rw [b3] at h1; exact of_decide_eq_true h1
    have e : gnegBS (gnegAS r) = ⟨bz (-(iv r.a)), bz (-(iv r.b))⟩ := by
      unfold gnegBS gnegAS
      dsimp only
      rw [neg_give ha, neg_give hb]
    rw [if_pos hneg, e]
    refine ⟨bk_bz (by have := ha.2; omega), bk_bz (by have := hb.2; omega), by show 0 < iv (bz _); rw [iv_bz]; omega, ?_⟩
    show nrm0 (iv (bz _)) (iv (bz _)) = _
    rw [iv_bz, iv_bz]
  · have hneg : ¬ iv r.b < 0 := by rw [b3] at h1; exact of_decide_eq_false h1
    rw [if_neg hneg]
    exact ⟨ha, hb, by omega, rfl⟩

end Go.Proofs.YtdndfbamhnchfaaDoor
