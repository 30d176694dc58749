/- Texts put together (pure ones, or walks made by program). -/
import Derived.Test.YtdndfbamhnchfaaKz0
set_option linter.unusedVariables false
set_option linter.unusedSimpArgs false
namespace Go.Proofs.Ytdndfbamhnchfaa
open Go.Sy Go.RowKit
structure Signal where
  Name : List UInt8
  Start : Int
  Size : Int
  Back : Bool
  Signed : Bool
  Mul : Int
  Div : Int
  Add : Int
  Key : Int
  deriving DecidableEq, Inhabited
def Signal.enc (x : Signal) : List Value := [str x.Name, .int .i64 x.Start, .int .i64 x.Size, .bool x.Back, .bool x.Signed, .int .i64 x.Mul, .int .i64 x.Div, .int .i64 x.Add, .int .i64 x.Key]
def tySignal : Ty Signal := tyFlat Signal.enc 9 (fun _ => rfl) (fun x => by simp [Signal.enc, Value.oneCell'])
def okSignal (x : Signal) : Prop := (x.Name.length ≤ lim) ∧ (IntKind.i64.min ≤ x.Start ∧ x.Start ≤ IntKind.i64.max) ∧ (IntKind.i64.min ≤ x.Size ∧ x.Size ≤ IntKind.i64.max) ∧ (True) ∧ (True) ∧ (IntKind.i64.min ≤ x.Mul ∧ x.Mul ≤ IntKind.i64.max) ∧ (IntKind.i64.min ≤ x.Div ∧ x.Div ≤ IntKind.i64.max) ∧ (IntKind.i64.min ≤ x.Add ∧ x.Add ≤ IntKind.i64.max) ∧ (IntKind.i64.min ≤ x.Key ∧ x.Key ≤ IntKind.i64.max)

structure Reading where
  Name : List UInt8
  Num : Int
  Den : Int
  deriving DecidableEq, Inhabited
def Reading.enc (x : Reading) : List Value := [str x.Name, .int .i64 x.Num, .int .i64 x.Den]
def tyReading : Ty Reading := tyFlat Reading.enc 3 (fun _ => rfl) (fun x => by simp [Reading.enc, Value.oneCell'])
def okReading (x : Reading) : Prop := (x.Name.length ≤ lim) ∧ (IntKind.i64.min ≤ x.Num ∧ x.Num ≤ IntKind.i64.max) ∧ (IntKind.i64.min ≤ x.Den ∧ x.Den ≤ IntKind.i64.max)

def sname_vc (u0 : List UInt8) (K : Bool → Prop) : Prop :=
  ((((u0 == ([] : List UInt8)) || (decide ((u0.length : Int) > 16))) = true →
      (K false)) ∧
    (((u0 == ([] : List UInt8)) || (decide ((u0.length : Int) > 16))) = false →
      (∃ inv34 : Int → Prop, ∃ mu34 : Int → Nat, inv34 0 ∧
      (∀ (x15 : Int), inv34 x15 →
      (((decide (x15 < (u0.length : Int))) = true →
        ((0 ≤ x15 ∧ x15 < (u0.length : Int)) ∧
        (∀ c64, u0[x15.toNat]? = some c64 →
        ((((!(((decide ((c64.toNat : Int) ≥ 97)) && (decide ((c64.toNat : Int) ≤ 122))) || ((decide ((c64.toNat : Int) ≥ 65)) && (decide ((c64.toNat : Int) ≤ 90))))) && (((x15 == 0) || (decide ((c64.toNat : Int) < 48))) || (decide ((c64.toNat : Int) > 57)))) = true →
          (K false)) ∧
        (((!(((decide ((c64.toNat : Int) ≥ 97)) && (decide ((c64.toNat : Int) ≤ 122))) || ((decide ((c64.toNat : Int) ≥ 65)) && (decide ((c64.toNat : Int) ≤ 90))))) && (((x15 == 0) || (decide ((c64.toNat : Int) < 48))) || (decide ((c64.toNat : Int) > 57)))) = false →
          (inv34 (w64 (x15 + 1)) ∧ mu34 (w64 (x15 + 1)) < mu34 x15)))))) ∧
      ((decide (x15 < (u0.length : Int))) = false →
        (K true)))))))

def sgcd_vc (u0 : Int) (u1 : Int) (K : Int → Prop) : Prop :=
  (∃ inv5 : Int → Int → Prop, ∃ mu5 : Int → Int → Nat, inv5 u0 u1 ∧
    (∀ (x0 : Int) (x1 : Int), inv5 x0 x1 →
    (((x1 != 0) = true →
      ((x1 ≠ 0) ∧
      (inv5 x1 (x0.tmod x1) ∧ mu5 x1 (x0.tmod x1) < mu5 x0 x1))) ∧
    ((x1 != 0) = false →
      (K (max x0 (w64 (0 - x0))))))))
theorem sgcd_mono {u0 : Int} {u1 : Int} {K K1 : Int → Prop} (hK : ∀ r, K r → K1 r) (h : sgcd_vc u0 u1 K) : sgcd_vc u0 u1 K1 :=
  (Exists.elim h fun i0 e0 => Exists.elim e0 fun m0 g0 => ⟨i0, m0, g0.1, fun x0 x1 z0 => ⟨fun c1 => ⟨((g0.2 x0 x1 z0).1 c1).1, ((g0.2 x0 x1 z0).1 c1).2⟩, fun c1 => hK _ ((g0.2 x0 x1 z0).2 c1)⟩⟩)

def imax_vc (u0 : List Int) (K : Int → Prop) : Prop :=
  (u0.length ≤ 140737488355328 →
    (((decide ((u0.length : Int) < 1)) = true →
      False) ∧
    ((decide ((u0.length : Int) < 1)) = false →
      ((0 ≤ (0 : Int) ∧ (0 : Int) < (u0.length : Int)) ∧
      (∀ q26, u0[(0 : Int).toNat]? = some q26 →
      (∃ inv41 : Int → Int → Prop, ∃ mu41 : Int → Int → Nat, inv41 q26 1 ∧
      (∀ (x3 : Int) (x4 : Int), inv41 x3 x4 →
      (((decide (x4 < (u0.length : Int))) = true →
        ((0 ≤ x4 ∧ x4 < (u0.length : Int)) ∧
        (∀ q77, u0[x4.toNat]? = some q77 →
        (inv41 (max x3 q77) (w64 (x4 + 1)) ∧ mu41 (max x3 q77) (w64 (x4 + 1)) < mu41 x3 x4)))) ∧
      ((decide (x4 < (u0.length : Int))) = false →
        (K x3))))))))))

def imin_vc (u0 : List Int) (K : Int → Prop) : Prop :=
  (u0.length ≤ 140737488355328 →
    (((decide ((u0.length : Int) < 1)) = true →
      False) ∧
    ((decide ((u0.length : Int) < 1)) = false →
      ((0 ≤ (0 : Int) ∧ (0 : Int) < (u0.length : Int)) ∧
      (∀ q26, u0[(0 : Int).toNat]? = some q26 →
      (∃ inv41 : Int → Int → Prop, ∃ mu41 : Int → Int → Nat, inv41 q26 1 ∧
      (∀ (x3 : Int) (x4 : Int), inv41 x3 x4 →
      (((decide (x4 < (u0.length : Int))) = true →
        ((0 ≤ x4 ∧ x4 < (u0.length : Int)) ∧
        (∀ q77, u0[x4.toNat]? = some q77 →
        (inv41 (min x3 q77) (w64 (x4 + 1)) ∧ mu41 (min x3 q77) (w64 (x4 + 1)) < mu41 x3 x4)))) ∧
      ((decide (x4 < (u0.length : Int))) = false →
        (K x3))))))))))

def bclone_vc (u0 : List Int) (K : (List Int) → Prop) : Prop :=
  (u0.length ≤ 140737488355328 →
    (∀ nb11, (u0 ≠ [] → nb11 = false) →
    ((nb11 = true →
      (K ([] : List Int))) ∧
    (nb11 = false →
      (((([] : List Int).length + u0.length) * 1 ≤ 140737488355328) ∧
      (K (([] : List Int) ++ u0)))))))

def beq_vc (u0 : List Int) (u1 : List Int) (K : Bool → Prop) : Prop :=
  (u0.length ≤ 140737488355328 →
    (u1.length ≤ 140737488355328 →
    ((((u0.length : Int) != (u1.length : Int)) = true →
      (K false)) ∧
    (((u0.length : Int) != (u1.length : Int)) = false →
      (∃ inv37 : Int → Prop, ∃ mu37 : Int → Nat, inv37 0 ∧
      (∀ (x13 : Int), inv37 x13 →
      (((decide (x13 < (u0.length : Int))) = true →
        ((0 ≤ x13 ∧ x13 < (u0.length : Int)) ∧
        (∀ q74, u0[x13.toNat]? = some q74 →
        ((0 ≤ x13 ∧ x13 < (u1.length : Int)) ∧
        (∀ q96, u1[x13.toNat]? = some q96 →
        (((q74 != q96) = true →
          (K false)) ∧
        ((q74 != q96) = false →
          (inv37 (w64 (x13 + 1)) ∧ mu37 (w64 (x13 + 1)) < mu37 x13)))))))) ∧
      ((decide (x13 < (u0.length : Int))) = false →
        (K true)))))))))

def sbounds_vc (u0 : Signal) (K : (Int × Int) → Prop) : Prop :=
  ((u0.Signed = true →
      ((0 ≤ w64 (u0.Size - 1)) ∧
      ((0 ≤ w64 (u0.Size - 1)) ∧
      (K (bShl .i64 (-1) (w64 (u0.Size - 1)), w64 ((bShl .i64 1 (w64 (u0.Size - 1))) - 1)))))) ∧
    (u0.Signed = false →
      ((0 ≤ u0.Size) ∧
      (K (0, w64 ((bShl .i64 1 u0.Size) - 1))))))

def irev_vc (u0 : List Int) (K : (List Int) → Prop) : Prop :=
  (u0.length ≤ 140737488355328 →
    (∃ inv16 : Int → Int → (List Int) → Prop, ∃ mu16 : Int → Int → (List Int) → Nat, inv16 0 (w64 ((u0.length : Int) - 1)) u0 ∧
    (∀ (x2 : Int) (x3 : Int) (zao1 : List Int), inv16 x2 x3 zao1 →
    (((decide (x2 < x3)) = true →
      ((0 ≤ x3 ∧ x3 < (zao1.length : Int)) ∧
      (∀ qd7_0, zao1[x3.toNat]? = some qd7_0 →
      ((0 ≤ x2 ∧ x2 < (zao1.length : Int)) ∧
      (∀ qd11_0, zao1[x2.toNat]? = some qd11_0 →
      ((0 ≤ x2 ∧ x2 < (zao1.length : Int)) ∧
      ((0 ≤ x3 ∧ x3 < (zao1.length : Int)) ∧
      (inv16 (w64 (x2 + 1)) (w64 (x3 - 1)) ((zao1.set x2.toNat qd7_0).set x3.toNat qd11_0) ∧ mu16 (w64 (x2 + 1)) (w64 (x3 - 1)) ((zao1.set x2.toNat qd7_0).set x3.toNat qd11_0) < mu16 x2 x3 zao1)))))))) ∧
    ((decide (x2 < x3)) = false →
      ((zao1.length = u0.length) ∧
      (K zao1)))))))

/-! Pure proofs: no program in sight. -/
def sb (d k v : Int) : Int := bOr .u8 (bAndNot .u8 d (bShl .u8 1 k)) (bShl .u8 v k)
theorem sb_all : ∀ (d : Fin 256) (k : Fin 8) (v : Fin 2), 0 ≤ sb d.val k.val v.val ∧ sb d.val k.val v.val ≤ 255 ∧ ∀ q : Fin 8, (sb d.val k.val v.val).toNat.testBit q.val = if q.val = k.val then decide (v.val = 1) else d.val.testBit q.val := by decide +kernel
theorem gb_all : ∀ (d : Fin 256) (k : Fin 8), bAnd .u8 (bShr .u8 (d.val : Int) k.val) 1 = if d.val.testBit k.val = true then 1 else 0 := by decide +kernel
def isBytes (d : List Int) : Prop := ∀ x ∈ d, 0 ≤ x ∧ x ≤ 255
def bitat (d : List Int) (j : Nat) : Bool := (d[j / 8]?.getD 0).toNat.testBit (j % 8)
def bv (v : Bool) : Int := if v = true then 1 else 0
def set1 (d : List Int) (p : Nat) (v : Bool) : List Int := d.set (p / 8) (sb (d[p / 8]?.getD 0) ((p % 8 : Nat) : Int) (bv v))
theorem byte_at {d : List Int} (h : isBytes d) (i : Nat) : ∃ n : Nat, d[i]?.getD 0 = (n : Int) ∧ n < 256 := by
  cases hc : d[i]? with
  | none => exact ⟨0, rfl, by omega⟩
  | some q => obtain ⟨h1, h2⟩ := h q (List.mem_of_getElem? hc); exact ⟨q.toNat, by show q = _; omega, by omega⟩
theorem sb_at {d : List Int} (h : isBytes d) (i p : Nat) (v : Bool) : (0 ≤ sb (d[i]?.getD 0) ((p % 8 : Nat) : Int) (bv v) ∧ sb (d[i]?.getD 0) ((p % 8 : Nat) : Int) (bv v) ≤ 255) ∧ ∀ q, q < 8 → (sb (d[i]?.getD 0) ((p % 8 : Nat) : Int) (bv v)).toNat.testBit q = if q = p % 8 then v else (d[i]?.getD 0).toNat.testBit q := by
  obtain ⟨n, hn, hb⟩ := byte_at h i
  rw [hn]
  have hv : bv v = (((if v = true then 1 else 0 : Nat)) : Int) := by cases v <;> rfl
  obtain ⟨a, b, c⟩ := sb_all ⟨n, hb⟩ ⟨p % 8, by omega⟩ ⟨if v = true then 1 else 0, by split <;> omega⟩
  rw [hv]
  refine ⟨⟨a, b⟩, fun q hq => ?_⟩
  rw [c ⟨q, hq⟩, Int.toNat_natCast]
  cases v <;> rfl
theorem set1_len (d : List Int) (p : Nat) (v : Bool) : (set1 d p v).length = d.length := List.length_set
theorem set1_bytes {d : List Int} (h : isBytes d) (p : Nat) (v : Bool) : isBytes (set1 d p v) := by
  intro x hx
  rcases List.mem_or_eq_of_mem_set hx with hx | rfl
  · exact h x hx
  · exact (sb_at h _ _ _).1
theorem set1_bit {d : List Int} (h : isBytes d) {p : Nat} (hp : p < 8 * d.length) (v : Bool) (j : Nat) : bitat (set1 d p v) j = if j = p then v else bitat d j := by
  unfold bitat set1
  rw [List.getElem?_set]
  by_cases hj : p / 8 = j / 8
  · rw [if_pos hj, if_pos (by omega), Option.getD_some, (sb_at h _ _ _).2 _ (by omega), ← hj]
    by_cases e : j = p
    · rw [if_pos e, if_pos (by rw [e])]
    · rw [if_neg e, if_neg (by omega)]
  · rw [if_neg hj, if_neg (by intro e; rw [e] at hj; exact hj rfl)]
/-- Two rows of bytes with the same bits are the same. -/
theorem bytes_ext {a b : List Int} (ha : isBytes a) (hb : isBytes b) (hl : a.length = b.length) (h : ∀ j, bitat a j = bitat b j) : a = b := by
  apply List.ext_getElem?
  intro i
  by_cases hi : i < a.length
  · have h1 := List.getElem?_eq_getElem hi
    have h2 := List.getElem?_eq_getElem (l := b) (i := i) (by omega)
    obtain ⟨x, hx, hx2⟩ := byte_at ha i
    obtain ⟨y, hy, hy2⟩ := byte_at hb i
    rw [h1] at hx
    rw [h2] at hy
    have hx : a[i] = (x : Int) := hx
    have hy : b[i] = (y : Int) := hy
    have : x = y := by
      apply Nat.eq_of_testBit_eq
      intro q
      by_cases hq : q < 8
      · have h3 := h (8 * i + q)
        unfold bitat at h3
        have e1 : (8 * i + q) / 8 = i := by omega
        have e2 : (8 * i + q) % 8 = q := by omega
        rw [e1, e2, h1, h2] at h3
        simpa [hx, hy] using h3
      · rw [Nat.testBit_lt_two_pow (Nat.lt_of_lt_of_le hx2 (Nat.pow_le_pow_right (by decide : 0 < 2) (by omega : 8 ≤ q))), Nat.testBit_lt_two_pow (Nat.lt_of_lt_of_le hy2 (Nat.pow_le_pow_right (by decide : 0 < 2) (by omega : 8 ≤ q)))]
    rw [h1, h2, hx, hy, this]
  · rw [List.getElem?_eq_none (by omega), List.getElem?_eq_none (by omega)]
/-- Bit i of a whole number, below 0 too. -/
def nb (n : Int) (i : Nat) : Bool := decide ((n / 2 ^ i) % 2 = 1)
def putF (n : Int) : Nat → List Nat → List Int → List Int
  | _, [], d => d
  | i, p :: l, d => putF n (i + 1) l (set1 d p (nb n i))
theorem putF_len (n : Int) : ∀ (l : List Nat) (i : Nat) (d : List Int), (putF n i l d).length = d.length := by
  intro l
  induction l with
  | nil => intro i d; rfl
  | cons p l ih => intro i d; rw [putF, ih, set1_len]
theorem putF_bytes (n : Int) : ∀ (l : List Nat) (i : Nat) (d : List Int), isBytes d → isBytes (putF n i l d) := by
  intro l
  induction l with
  | nil => intro i d h; exact h
  | cons p l ih => intro i d h; rw [putF]; exact ih _ _ (set1_bytes h _ _)
theorem putF_out (n : Int) : ∀ (l : List Nat) (i : Nat) (d : List Int), isBytes d → (∀ p ∈ l, p < 8 * d.length) → ∀ j, j ∉ l → bitat (putF n i l d) j = bitat d j := by
  intro l
  induction l with
  | nil => intro i d h hp j hj; rfl
  | cons p l ih =>
    intro i d h hp j hj
    rw [List.mem_cons, not_or] at hj
    rw [putF, ih _ _ (set1_bytes h _ _) (fun q hq => by rw [set1_len]; exact hp q (List.mem_cons_of_mem _ hq)) j hj.2, set1_bit h (hp p List.mem_cons_self), if_neg hj.1]
theorem putF_in (n : Int) : ∀ (l : List Nat) (i : Nat) (d : List Int), isBytes d → (∀ p ∈ l, p < 8 * d.length) → l.Nodup → ∀ k j, l[k]? = some j → bitat (putF n i l d) j = nb n (i + k) := by
  intro l
  induction l with
  | nil => intro i d h hp hn k j hj; cases hj
  | cons p l ih =>
    intro i d h hp hn k j hj
    rw [List.nodup_cons] at hn
    have hp' : ∀ q ∈ l, q < 8 * (set1 d p (nb n i)).length := fun q hq => by rw [set1_len]; exact hp q (List.mem_cons_of_mem _ hq)
    rw [putF]
    cases k with
    | zero =>
      rw [List.getElem?_cons_zero] at hj
      have hj : p = j := Option.some.inj hj
      subst hj
      rw [putF_out n l _ _ (set1_bytes h _ _) hp' p hn.1, set1_bit h (hp p List.mem_cons_self), if_pos rfl, Nat.add_zero]
    | succ k =>
      rw [List.getElem?_cons_succ] at hj
      rw [ih _ _ (set1_bytes h _ _) hp' hn.2 k j hj]
      congr 1
      omega
/-- The number whose bits these are, the least first. -/
def vb : List Bool → Nat
  | [] => 0
  | b :: r => (if b = true then 1 else 0) + 2 * vb r
theorem vb_lt : ∀ l : List Bool, vb l < 2 ^ l.length := by
  intro l
  induction l with
  | nil => exact Nat.one_pos
  | cons b r ih => rw [vb, List.length_cons, Nat.pow_succ]; split <;> omega
theorem vb_append : ∀ a b : List Bool, vb (a ++ b) = vb a + 2 ^ a.length * vb b := by
  intro a
  induction a with
  | nil => intro b; simp [vb]
  | cons x r ih => intro b; rw [List.cons_append, vb, vb, ih, List.length_cons, Nat.pow_succ, Nat.mul_add, Nat.mul_comm (2 ^ r.length) 2, Nat.mul_assoc]; omega
/-- The bits of a number that is moved up to be 0 or more. -/
theorem vb_nb (n : Int) : ∀ m : Nat, ((vb ((List.range m).map (nb n)) : Nat) : Int) = n % 2 ^ m := by
  intro m
  induction m with
  | zero => simp [vb, Int.emod_one]
  | succ m ih =>
    rw [List.range_succ, List.map_append, vb_append, List.length_map, List.length_range]
    have e : vb ([m].map (nb n)) = if nb n m = true then 1 else 0 := by simp [vb]
    rw [e]
    have hd : n % 2 ^ (m + 1) = n % 2 ^ m + 2 ^ m * (n / 2 ^ m % 2) := by
      have hP : (0 : Int) < 2 ^ m := Int.pow_pos (by decide)
      rw [Int.pow_succ]
      generalize (2 : Int) ^ m = P at *
      have h1 := Int.mul_ediv_add_emod n P
      have h2 := Int.mul_ediv_add_emod (n / P) 2
      have h3 := Int.emod_nonneg n (by omega : P ≠ 0)
      have h4 := Int.emod_lt_of_pos n hP
      have e : n = (n % P + P * (n / P % 2)) + P * 2 * (n / P / 2) := by
        have : P * (n / P) = P * (2 * (n / P / 2) + n / P % 2) := by rw [h2]
        rw [Int.mul_add, ← Int.mul_assoc] at this
        omega
      have h5 : n / P % 2 = 0 ∨ n / P % 2 = 1 := by omega
      have hb : 0 ≤ n % P + P * (n / P % 2) ∧ n % P + P * (n / P % 2) < P * 2 := by
        rcases h5 with h5 | h5 <;> rw [h5] <;> constructor <;> omega
      calc n % (P * 2) = ((n % P + P * (n / P % 2)) + P * 2 * (n / P / 2)) % (P * 2) := congrArg (· % (P * 2)) e
        _ = (n % P + P * (n / P % 2)) % (P * 2) := Int.add_mul_emod_self_left ..
        _ = n % P + P * (n / P % 2) := Int.emod_eq_of_lt hb.1 hb.2
    rw [hd, ← ih]
    have h2 : n / 2 ^ m % 2 = 0 ∨ n / 2 ^ m % 2 = 1 := by omega
    unfold nb
    rcases h2 with h2 | h2 <;> rw [h2] <;> simp
/-- A bit's place, counted from above. -/
def lin (a : Nat) : Nat := 8 * (a / 8) + (7 - a % 8)
theorem lin_lin (a : Nat) : lin (lin a) = a := by unfold lin; omega
theorem lin_inj {a b : Nat} (h : lin a = lin b) : a = b := by rw [← lin_lin a, h, lin_lin]
def fp (b : Bool) (st k : Nat) : Nat := if b = true then lin (lin st + k) else st + k
theorem fp_zero (b : Bool) (st : Nat) : fp b st 0 = st := by unfold fp; split; exact lin_lin st; rfl
theorem fp_up (st k : Nat) : fp false st (k + 1) = fp false st k + 1 := rfl
theorem fp_back (st k : Nat) : fp true st (k + 1) = if fp true st k % 8 = 0 then fp true st k + 15 else fp true st k - 1 := by
  unfold fp
  rw [if_pos rfl, if_pos rfl]
  unfold lin
  split <;> omega
theorem fp_inj {b : Bool} {st i j : Nat} (h : fp b st i = fp b st j) : i = j := by
  unfold fp at h
  split at h
  · have := lin_inj h; omega
  · omega
theorem fp_le (b : Bool) (st k : Nat) : fp b st k ≤ st + k + 14 := by
  unfold fp
  split
  · unfold lin; omega
  · omega
/-- The places of bits, the one that counts least first. -/
def plN (b : Bool) (st n : Nat) : List Nat := if b = true then ((List.range n).map (fp b st)).reverse else (List.range n).map (fp b st)
theorem plN_len (b : Bool) (st n : Nat) : (plN b st n).length = n := by
  unfold plN
  split <;> simp
theorem plN_nodup (b : Bool) (st n : Nat) : (plN b st n).Nodup := by
  have h : ((List.range n).map (fp b st)).Nodup := by
    rw [List.nodup_iff_pairwise_ne, List.pairwise_map]
    have := List.nodup_range (n := n)
    rw [List.nodup_iff_pairwise_ne] at this
    exact this.imp (fun hne e => hne (fp_inj e))
  unfold plN
  split
  · rw [List.nodup_iff_pairwise_ne, List.pairwise_reverse]
    rw [List.nodup_iff_pairwise_ne] at h
    exact h.imp (fun e f => e f.symm)
  · exact h
/-- What is written at places with no bit twice is there. -/
theorem get_put {n : Int} {l : List Nat} {d : List Int} (hd : isBytes d) (hp : ∀ p ∈ l, p < 8 * d.length) (hn : l.Nodup) : ((vb (l.map (bitat (putF n 0 l d))) : Nat) : Int) = n % 2 ^ l.length := by
  rw [← vb_nb n l.length]
  congr 2
  apply List.ext_getElem?
  intro k
  rw [List.getElem?_map, List.getElem?_map]
  by_cases hk : k < l.length
  · rw [List.getElem?_eq_getElem hk, List.getElem?_range hk, Option.map_some, Option.map_some, putF_in n l 0 d hd hp hn k _ (List.getElem?_eq_getElem hk), Nat.zero_add]
  · rw [List.getElem?_eq_none (by omega), List.getElem?_eq_none (by rw [List.length_range]; omega)]
    rfl
/-- A number that fits into so many bits, with a sign or without. -/
def sgn (s : Bool) (m : Nat) (v : Int) : Int := if s = true ∧ 2 ^ (m - 1) ≤ v then v - 2 ^ m else v
theorem sgn_back {s : Bool} {m : Nat} {n : Int} (hm : 1 ≤ m) (h : if s = true then -(2 : Int) ^ (m - 1) ≤ n ∧ n < 2 ^ (m - 1) else 0 ≤ n ∧ n < 2 ^ m) : sgn s m (n % 2 ^ m) = n := by
  obtain ⟨k, rfl⟩ : ∃ k, m = k + 1 := ⟨m - 1, by omega⟩
  have hP : (0 : Int) < 2 ^ k := Int.pow_pos (by decide)
  rw [Nat.add_sub_cancel, Int.pow_succ] at h
  unfold sgn
  rw [Nat.add_sub_cancel, Int.pow_succ]
  generalize (2 : Int) ^ k = P at *
  cases s with
  | false =>
    rw [if_neg (by simp)] at h
    rw [if_neg (by simp), Int.emod_eq_of_lt h.1 h.2]
  | true =>
    rw [if_pos rfl] at h
    by_cases hn : 0 ≤ n
    · rw [Int.emod_eq_of_lt hn (by omega), if_neg (by omega)]
    · have : n % (P * 2) = n + P * 2 := by
        rw [← Int.add_emod_right, Int.emod_eq_of_lt (by omega) (by omega)]
      rw [this, if_pos ⟨rfl, by omega⟩]
      omega
def ngcd (a b : Int) : Int := ((Int.gcd a b : Nat) : Int)
theorem ngcd_left (a b : Int) : ngcd a b ∣ a := Int.gcd_dvd_left ..
theorem ngcd_right (a b : Int) : ngcd a b ∣ b := Int.gcd_dvd_right ..
theorem ngcd_step (a b : Int) : ngcd b (a.tmod b) = ngcd a b := by
  unfold ngcd
  congr 1
  rw [Int.gcd_comm a b]
  show Nat.gcd b.natAbs (a.tmod b).natAbs = Nat.gcd b.natAbs a.natAbs
  rw [Int.natAbs_tmod, Nat.gcd_comm b.natAbs (a.natAbs % b.natAbs), ← Nat.gcd_rec, ]
theorem ngcd_zero (a : Int) : ngcd a 0 = (a.natAbs : Int) := by unfold ngcd; rw [Int.gcd_zero_right]
theorem ngcd_le {a b : Int} (h : 0 < b) : ngcd a b ≤ b := Int.le_of_dvd h (ngcd_right a b)
theorem ngcd_pos {a b : Int} (h : b ≠ 0) : 0 < ngcd a b := by
  have : 0 < Int.gcd a b := Int.gcd_pos_of_ne_zero_right a h
  unfold ngcd; omega
/-- The raw number that a fraction asks for, and whether it is whole. -/
def rawN (mul div add num den : Int) : Int × Bool :=
  let up := num - add * den
  let g := ngcd div mul
  let a0 := div.tdiv g
  let b0 := mul.tdiv g
  let a := if b0 < 0 then -a0 else a0
  let b := if b0 < 0 then -b0 else b0
  let h := ngcd up den
  let up1 := up.tdiv h
  let den1 := den.tdiv h
  let h2 := ngcd a den1
  let a1 := a.tdiv h2
  let den2 := den1.tdiv h2
  let h3 := ngcd up1 b
  let up2 := up1.tdiv h3
  let b1 := b.tdiv h3
  (up2 * a1, den2 == 1 && b1 == 1)
theorem rawN_sound {mul div add num den : Int} (h : (rawN mul div add num den).2 = true) : (rawN mul div add num den).1 * mul * den = (num - add * den) * div := by
  unfold rawN at *
  dsimp only at *
  generalize num - add * den = up at *
  rw [Bool.and_eq_true, beq_iff_eq, beq_iff_eq] at h
  have g1 := Int.tdiv_mul_cancel (ngcd_left div mul)
  have g2 := Int.tdiv_mul_cancel (ngcd_right div mul)
  generalize ngcd div mul = g at *
  generalize div.tdiv g = a0 at *
  generalize mul.tdiv g = b0 at *
  obtain ⟨σ, hσ, ha, hb⟩ : ∃ σ : Int, σ * σ = 1 ∧ ((if b0 < 0 then -a0 else a0) = σ * a0 ∧ (if b0 < 0 then -b0 else b0) = σ * b0) := by
    split
    · exact ⟨-1, rfl, by omega, by omega⟩
    · exact ⟨1, rfl, by omega, by omega⟩
  rw [ha, hb] at h ⊢
  have h1 := Int.tdiv_mul_cancel (ngcd_left up den)
  have h2 := Int.tdiv_mul_cancel (ngcd_right up den)
  generalize ngcd up den = k at *
  generalize up.tdiv k = up1 at *
  generalize den.tdiv k = den1 at *
  have h3 := Int.tdiv_mul_cancel (ngcd_left (σ * a0) den1)
  have h4 := Int.tdiv_mul_cancel (ngcd_right (σ * a0) den1)
  generalize ngcd (σ * a0) den1 = k2 at *
  generalize (σ * a0).tdiv k2 = a1 at *
  rw [h.1, Int.one_mul] at h4
  have h5 := Int.tdiv_mul_cancel (ngcd_left up1 (σ * b0))
  have h6 := Int.tdiv_mul_cancel (ngcd_right up1 (σ * b0))
  generalize ngcd up1 (σ * b0) = k3 at *
  generalize up1.tdiv k3 = up2 at *
  rw [h.2, Int.one_mul] at h6
  have ea : a0 = σ * (a1 * k2) := by rw [h3, ← Int.mul_assoc, hσ, Int.one_mul]
  have eb : b0 = σ * k3 := by rw [h6, ← Int.mul_assoc, hσ, Int.one_mul]
  rw [← g1, ← g2, ← h1, ← h2, ← h4, ← h5, ea, eb]
  ac_rfl
theorem raw_range {up a low high : Int} (hl : low ≤ 0) (hh : 0 ≤ high) (hc : (0 < up ∧ 0 < a ∧ high.tdiv a < up) ∨ (up < 0 ∧ 0 < a ∧ up < low.tdiv a) ∨ (0 < up ∧ a < 0 ∧ low.tdiv a < up) ∨ (up < 0 ∧ a < 0 ∧ up < high.tdiv a)) : ¬ (low ≤ up * a ∧ up * a ≤ high) := by
  obtain ⟨l, rfl⟩ : ∃ l : Int, low = -l := ⟨-low, by omega⟩
  have key : ∀ x c u : Int, 0 ≤ x → 0 < c → x.tdiv c < u → x < u * c := by
    intro x c u hx hc h
    rw [Int.tdiv_eq_ediv_of_nonneg hx] at h
    exact (Int.ediv_lt_iff_lt_mul hc).1 h
  rintro ⟨h1, h2⟩
  rcases hc with ⟨u, v, w⟩ | ⟨u, v, w⟩ | ⟨u, v, w⟩ | ⟨u, v, w⟩
  · have := key _ _ _ hh v w
    omega
  · rw [Int.neg_tdiv] at w
    have := key l a (-up) (by omega) v (by omega)
    rw [Int.neg_mul] at this
    omega
  · obtain ⟨c, rfl⟩ : ∃ c : Int, a = -c := ⟨-a, by omega⟩
    rw [Int.neg_tdiv, Int.tdiv_neg, Int.neg_neg] at w
    have := key l c up (by omega) (by omega) w
    rw [Int.mul_neg] at h1
    omega
  · obtain ⟨c, rfl⟩ : ∃ c : Int, a = -c := ⟨-a, by omega⟩
    rw [Int.tdiv_neg] at w
    have := key high c (-up) hh (by omega) (by omega)
    rw [Int.neg_mul] at this
    rw [Int.mul_neg] at h2
    omega
def plS (s : Signal) : List Nat := plN s.Back s.Start.toNat s.Size.toNat
/-- The places of a signal's bits. -/
def placesS (s : Signal) : List Int := (plS s).map (fun (k : Nat) => (k : Int))
def isLet (c : UInt8) : Bool := (97 ≤ c.toNat && c.toNat ≤ 122) || (65 ≤ c.toNat && c.toNat ≤ 90)
def isLD (c : UInt8) : Bool := isLet c || (48 ≤ c.toNat && c.toNat ≤ 57)
/-- A name: a letter, then letters and digits, no more than 16. -/
def nameS : List UInt8 → Bool
  | [] => false
  | c :: r => decide (r.length < 16) && isLet c && r.all isLD
def factS (s : Signal) : Prop := s.Mul ≠ 0 ∧ -1000000 ≤ s.Mul ∧ s.Mul ≤ 1000000 ∧ 1 ≤ s.Div ∧ s.Div ≤ 1000000 ∧ -1000000 ≤ s.Add ∧ s.Add ≤ 1000000
instance (s : Signal) : Decidable (factS s) := by unfold factS; infer_instance
def checkS (s : Signal) (size : Int) : Int :=
  if nameS s.Name = false then 1 else
  if size < 0 ∨ 64 < size ∨ s.Size < 1 ∨ 40 < s.Size then 3 else
  if ¬ factS s then 3 else
  if s.Key < -1 ∨ 255 < s.Key then 3 else
  if s.Start < 0 ∨ 8 * size ≤ s.Start then 7 else
  if (plS s).any (fun p => decide (8 * size ≤ (p : Int))) = true then 7 else 0
theorem check_zero {s : Signal} {size : Int} (h : checkS s size = 0) : (0 ≤ size ∧ size ≤ 64 ∧ 1 ≤ s.Size ∧ s.Size ≤ 40) ∧ factS s ∧ (0 ≤ s.Start ∧ s.Start < 8 * size) ∧ ∀ p ∈ plS s, p < 8 * size.toNat := by
  unfold checkS at h
  split at h
  · cases h
  split at h
  · cases h
  split at h
  · cases h
  rename_i h1 h2
  split at h
  · cases h
  split at h
  · cases h
  split at h
  · cases h
  rename_i h3 h4 h5
  refine ⟨by omega, Classical.not_not.1 h2, by omega, fun p hp => ?_⟩
  rcases Nat.lt_or_ge p (8 * size.toNat) with h6 | h6
  · exact h6
  · exact absurd (List.any_eq_true.2 ⟨p, hp, by rw [decide_eq_true_eq]; omega⟩) h5
theorem check_up {s : Signal} {size : Int} (h : checkS s size = 0) : checkS s 64 = 0 := by
  obtain ⟨h1, h2, h3, h4⟩ := check_zero h
  unfold checkS at h ⊢
  split at h
  · cases h
  rename_i h0
  split at h
  · cases h
  split at h
  · cases h
  split at h
  · cases h
  rename_i k1 k2 k3
  rw [if_neg h0, if_neg (by omega), if_neg (fun hx => hx h2), if_neg k2, if_neg (by omega), if_neg]
  intro h6
  obtain ⟨p, hp, h7⟩ := List.any_eq_true.1 h6
  have := h4 p hp
  rw [decide_eq_true_eq] at h7
  omega
/-- The raw number that stands in the data. -/
def getS (s : Signal) (d : List Int) : Int := sgn s.Signed s.Size.toNat (vb ((plS s).map (bitat d)) : Nat)
def putS (s : Signal) (d : List Int) (n : Int) : List Int := putF n 0 (plS s) d
def lowS (s : Signal) : Int := if s.Signed = true then -2 ^ (s.Size.toNat - 1) else 0
def highS (s : Signal) : Int := if s.Signed = true then 2 ^ (s.Size.toNat - 1) - 1 else 2 ^ s.Size.toNat - 1
def meanS (s : Signal) (n : Int) : Reading :=
  ⟨s.Name, (n * s.Mul + s.Add * s.Div).tdiv (ngcd (n * s.Mul + s.Add * s.Div) s.Div), s.Div.tdiv (ngcd (n * s.Mul + s.Add * s.Div) s.Div)⟩
def rawS (s : Signal) (num den : Int) : Int × Int :=
  if checkS s 64 ≠ 0 then (0, checkS s 64) else
  if den < 1 ∨ 1000000 < den ∨ 1099511627776 < num ∨ num < -1099511627776 then (0, 3) else
  if (rawN s.Mul s.Div s.Add num den).2 = false then (0, 4) else
  if (rawN s.Mul s.Div s.Add num den).1 < lowS s ∨ highS s < (rawN s.Mul s.Div s.Add num den).1 then (0, 3) else
  ((rawN s.Mul s.Div s.Add num den).1, 0)
def sreadS (s : Signal) (d : List Int) : Int × Reading × Int :=
  if checkS s d.length ≠ 0 then (0, ⟨[], 0, 0⟩, checkS s d.length) else (getS s d, meanS s (getS s d), 0)
def swriteS (s : Signal) (d : List Int) (num den : Int) : List Int × Int :=
  if checkS s d.length ≠ 0 then ([], checkS s d.length) else
  if (rawS s num den).2 ≠ 0 then ([], (rawS s num den).2) else (putS s d (rawS s num den).1, 0)
def overS (s t : Signal) : Bool := if checkS s 64 ≠ 0 ∨ checkS t 64 ≠ 0 then false else (plS s).any (fun p => (plS t).contains p)
theorem plS_nodup (s : Signal) : (plS s).Nodup := plN_nodup _ _ _
theorem plS_len (s : Signal) : (plS s).length = s.Size.toNat := plN_len _ _ _
theorem raw_good {s : Signal} {num den : Int} (h : (rawS s num den).2 = 0) : (rawS s num den).1 * s.Mul * den = (num - s.Add * den) * s.Div ∧ lowS s ≤ (rawS s num den).1 ∧ (rawS s num den).1 ≤ highS s := by
  unfold rawS at *
  split at h
  · rename_i hc; exact absurd h hc
  rename_i hc
  split at h
  · cases h
  rename_i hd
  split at h
  · cases h
  rename_i hb
  split at h
  · cases h
  rename_i hr
  rw [if_neg hc, if_neg hd, if_neg hb, if_neg hr]
  exact ⟨rawN_sound (by cases hx : (rawN s.Mul s.Div s.Add num den).2 with | true => rfl | false => exact absurd hx hb), by dsimp only; omega, by dsimp only; omega⟩
/-- What is put is got. -/
theorem get_back {s : Signal} {d : List Int} {n : Int} (hd : isBytes d) (hp : ∀ p ∈ plS s, p < 8 * d.length) (h1 : 1 ≤ s.Size) (hl : lowS s ≤ n) (hh : n ≤ highS s) : getS s (putS s d n) = n := by
  unfold getS putS
  rw [get_put hd hp (plS_nodup s), plS_len]
  refine sgn_back (by omega) ?_
  unfold lowS at hl
  unfold highS at hh
  split <;> rename_i hs
  · rw [if_pos hs] at hl hh; omega
  · rw [if_neg hs] at hl hh; omega
theorem w64_nat (k : Nat) (h : k < 4611686018427387904) : w64 ((k : Int) + 1) = ((k + 1 : Nat) : Int) := by rw [w64_eq _ (by omega)]; omega
theorem letter_eq (c : UInt8) : (((decide ((c.toNat : Int) ≥ 97)) && (decide ((c.toNat : Int) ≤ 122))) || ((decide ((c.toNat : Int) ≥ 65)) && (decide ((c.toNat : Int) ≤ 90)))) = isLet c := by
  unfold isLet
  rw [Bool.eq_iff_iff]
  simp only [Bool.or_eq_true, Bool.and_eq_true, decide_eq_true_eq]
  omega
theorem sname_ok (u : List UInt8) : sname_vc u (fun r => r = nameS u) := by
  refine ⟨fun h => ?_, fun h => ?_⟩
  · rw [Bool.or_eq_true, beq_iff_eq, decide_eq_true_eq] at h
    cases u with
    | nil => rfl
    | cons c r =>
      rcases h with h | h
      · cases h
      · rw [List.length_cons] at h
        show false = (decide (r.length < 16) && isLet c && r.all isLD)
        rw [decide_eq_false (by omega)]
        rfl
  · rw [Bool.or_eq_false_iff, decide_eq_false_iff_not] at h
    cases u with
    | nil => simp at h
    | cons c r =>
      have hl : r.length < 16 := by have := h.2; rw [List.length_cons] at this; omega
      have e : nameS (c :: r) = (isLet c && r.all isLD) := by show (decide (r.length < 16) && isLet c && r.all isLD) = _; rw [decide_eq_true hl, Bool.true_and]
      rw [e]
      refine ⟨fun x => ∃ k : Nat, x = k ∧ k ≤ r.length + 1 ∧ (0 < k → isLet c = true) ∧ (r.take (k - 1)).all isLD = true, fun x => r.length + 1 - x.toNat, ⟨0, rfl, by omega, fun hk => absurd hk (by decide), rfl⟩, ?_⟩
      rintro _ ⟨k, rfl, hk, h1, h2⟩
      refine ⟨fun h3 => ?_, fun h3 => ?_⟩
      · have h3 := of_decide_eq_true h3
        rw [List.length_cons] at h3
        refine ⟨by rw [List.length_cons]; omega, fun q hq => ?_⟩
        rw [Int.toNat_natCast] at hq
        rw [letter_eq, w64_nat k (by omega)]
        cases k with
        | zero =>
          have hq : c = q := by simpa using hq
          subst hq
          refine ⟨fun h4 => ?_, fun h4 => ?_⟩
          · have : isLet c = false := by
              rw [Bool.and_eq_true, Bool.not_eq_true'] at h4
              exact h4.1
            rw [this]; rfl
          · have : isLet c = true := by
              cases hc : isLet c with
              | true => rfl
              | false => rw [hc] at h4; simp at h4
            exact ⟨⟨1, rfl, by omega, fun _ => this, rfl⟩, by simp⟩
        | succ k =>
          rw [List.getElem?_cons_succ] at hq
          have hz : ((((k + 1 : Nat) : Int) == 0)) = false := by rw [beq_eq_false_iff_ne]; omega
          have hld : ((!(isLet q)) && (((((k + 1 : Nat) : Int) == 0) || (decide ((q.toNat : Int) < 48))) || (decide ((q.toNat : Int) > 57)))) = !(isLD q) := by
            rw [hz]
            unfold isLD
            rw [Bool.false_or, Bool.not_or]
            congr 1
            rw [Bool.eq_iff_iff]
            simp only [Bool.or_eq_true, Bool.not_eq_true', Bool.and_eq_false_iff, decide_eq_true_eq, decide_eq_false_iff_not]
            omega
          rw [hld]
          have hk' : k < r.length := (List.getElem?_eq_some_iff.1 hq).1
          refine ⟨fun h4 => ?_, fun h4 => ?_⟩
          · have h4 : isLD q = false := by simpa using h4
            have : r.all isLD = false := by
              rw [List.all_eq_false]
              exact ⟨q, List.mem_of_getElem? hq, by rw [h4]; decide⟩
            rw [this, Bool.and_false]
          · have h4 : isLD q = true := by simpa using h4
            refine ⟨⟨k + 2, rfl, by omega, fun _ => h1 (by omega), ?_⟩, by (try dsimp only); omega⟩
            show (r.take (k + 1)).all isLD = true
            rw [List.take_add_one, hq, List.all_append]
            have h2 : (r.take k).all isLD = true := h2
            rw [h2]
            simpa using h4
      · have h3 := of_decide_eq_false h3
        rw [List.length_cons] at h3
        have hk2 : k = r.length + 1 := by omega
        subst hk2
        rw [Nat.add_sub_cancel, List.take_length] at h2
        rw [h1 (by omega), h2]
        rfl
theorem sgcd_ok (a b : Int) (h : (-4611686018427387904 ≤ a ∧ a ≤ 4611686018427387904) ∧ -4611686018427387904 ≤ b ∧ b ≤ 4611686018427387904) : sgcd_vc a b (fun r => r = ngcd a b) := by
  refine ⟨fun x y => ((-4611686018427387904 ≤ x ∧ x ≤ 4611686018427387904) ∧ -4611686018427387904 ≤ y ∧ y ≤ 4611686018427387904) ∧ ngcd x y = ngcd a b, fun _ y => y.natAbs, ⟨h, rfl⟩, ?_⟩
  rintro x y ⟨⟨hx, hy⟩, hg⟩
  refine ⟨fun h1 => ?_, fun h1 => ?_⟩
  · have h1 : y ≠ 0 := by simpa using h1
    have ha : (x.tmod y).natAbs < y.natAbs := by
      rw [Int.natAbs_tmod]
      exact Nat.mod_lt _ (by omega)
    exact ⟨h1, ⟨⟨⟨hy, by omega⟩, by rw [ngcd_step, hg]⟩, ha⟩⟩
  · have h1 : y = 0 := by simpa using h1
    subst h1
    rw [← hg, ngcd_zero, w64_eq _ (by omega)]
    omega
def maxL : List Int → Int
  | [] => 0
  | a :: r => r.foldl max a
def minL : List Int → Int
  | [] => 0
  | a :: r => r.foldl min a
theorem imax_ok (l : List Int) (h : 0 < l.length) : imax_vc l (fun r => r = maxL l) := by
  intro hl
  refine ⟨fun h1 => ?_, fun _ => ⟨by omega, fun q hq => ?_⟩⟩
  · have h1 := of_decide_eq_true h1
    omega
  · cases l with
    | nil => cases h
    | cons a r =>
      have hq : a = q := by simpa using hq
      subst hq
      refine ⟨fun x i => ∃ k : Nat, i = ((k + 1 : Nat) : Int) ∧ k ≤ r.length ∧ x = (r.take k).foldl max a, fun _ i => r.length + 1 - i.toNat, ⟨0, rfl, by omega, rfl⟩, ?_⟩
      rintro _ _ ⟨k, rfl, hk, rfl⟩
      refine ⟨fun h1 => ?_, fun h1 => ?_⟩
      · have h1 := of_decide_eq_true h1
        rw [List.length_cons] at h1 hl
        refine ⟨by rw [List.length_cons]; omega, fun y hy => ?_⟩
        rw [Int.toNat_natCast, List.getElem?_cons_succ] at hy
        rw [w64_nat (k + 1) (by omega)]
        refine ⟨⟨k + 1, rfl, by omega, ?_⟩, by (try dsimp only); omega⟩
        rw [List.take_add_one, hy, List.foldl_append]
        rfl
      · have h1 := of_decide_eq_false h1
        rw [List.length_cons] at h1
        have : k = r.length := by omega
        subst this
        rw [List.take_length]
        rfl
theorem imin_ok (l : List Int) (h : 0 < l.length) : imin_vc l (fun r => r = minL l) := by
  intro hl
  refine ⟨fun h1 => ?_, fun _ => ⟨by omega, fun q hq => ?_⟩⟩
  · have h1 := of_decide_eq_true h1
    omega
  · cases l with
    | nil => cases h
    | cons a r =>
      have hq : a = q := by simpa using hq
      subst hq
      refine ⟨fun x i => ∃ k : Nat, i = ((k + 1 : Nat) : Int) ∧ k ≤ r.length ∧ x = (r.take k).foldl min a, fun _ i => r.length + 1 - i.toNat, ⟨0, rfl, by omega, rfl⟩, ?_⟩
      rintro _ _ ⟨k, rfl, hk, rfl⟩
      refine ⟨fun h1 => ?_, fun h1 => ?_⟩
      · have h1 := of_decide_eq_true h1
        rw [List.length_cons] at h1 hl
        refine ⟨by rw [List.length_cons]; omega, fun y hy => ?_⟩
        rw [Int.toNat_natCast, List.getElem?_cons_succ] at hy
        rw [w64_nat (k + 1) (by omega)]
        refine ⟨⟨k + 1, rfl, by omega, ?_⟩, by (try dsimp only); omega⟩
        rw [List.take_add_one, hy, List.foldl_append]
        rfl
      · have h1 := of_decide_eq_false h1
        rw [List.length_cons] at h1
        have : k = r.length := by omega
        subst this
        rw [List.take_length]
        rfl
theorem foldl_max_ge (c : Int) : ∀ (r : List Int) (a : Int), c ≤ r.foldl max a ↔ c ≤ a ∨ ∃ x ∈ r, c ≤ x := by
  intro r
  induction r with
  | nil => intro a; simp
  | cons y r ih =>
    intro a
    rw [List.foldl_cons, ih]
    constructor
    · rintro (h | ⟨x, hx, h⟩)
      · by_cases hh : c ≤ a
        · exact .inl hh
        · exact .inr ⟨y, List.mem_cons_self, by omega⟩
      · exact .inr ⟨x, List.mem_cons_of_mem _ hx, h⟩
    · rintro (h | ⟨x, hx, h⟩)
      · exact .inl (by omega)
      · rw [List.mem_cons] at hx
        rcases hx with rfl | hx
        · exact .inl (by omega)
        · exact .inr ⟨x, hx, h⟩
theorem foldl_min_ge (c : Int) : ∀ (r : List Int) (a : Int), c ≤ a → (∀ x ∈ r, c ≤ x) → c ≤ r.foldl min a := by
  intro r
  induction r with
  | nil => intro a h _; exact h
  | cons y r ih =>
    intro a h h2
    rw [List.foldl_cons]
    exact ih _ (by have := h2 y List.mem_cons_self; omega) (fun x hx => h2 x (List.mem_cons_of_mem _ hx))
theorem places_max (s : Signal) (h : 0 < (plS s).length) (c : Int) : decide (c ≤ maxL (placesS s)) = (plS s).any (fun p => decide (c ≤ (p : Int))) := by
  unfold placesS
  rw [Bool.eq_iff_iff, decide_eq_true_eq, List.any_eq_true]
  cases hp : plS s with
  | nil => rw [hp] at h; cases h
  | cons a r =>
    rw [List.map_cons]
    show c ≤ (r.map _).foldl max _ ↔ _
    rw [foldl_max_ge]
    constructor
    · rintro (h | ⟨x, hx, h⟩)
      · exact ⟨a, List.mem_cons_self, by rw [decide_eq_true_eq]; exact h⟩
      · obtain ⟨k, hk, rfl⟩ := List.mem_map.1 hx
        exact ⟨k, List.mem_cons_of_mem _ hk, by rw [decide_eq_true_eq]; exact h⟩
    · rintro ⟨x, hx, h⟩
      rw [decide_eq_true_eq] at h
      rw [List.mem_cons] at hx
      rcases hx with rfl | hx
      · exact .inl h
      · exact .inr ⟨x, List.mem_map.2 ⟨x, hx, rfl⟩, h⟩
theorem places_min (s : Signal) : 0 ≤ minL (placesS s) := by
  unfold placesS
  cases plS s with
  | nil => exact Int.le_refl _
  | cons a r => exact foldl_min_ge 0 _ _ (Int.natCast_nonneg a) (fun x hx => by obtain ⟨k, _, rfl⟩ := List.mem_map.1 hx; exact Int.natCast_nonneg k)
theorem places_len (s : Signal) : (placesS s).length = s.Size.toNat := by unfold placesS; rw [List.length_map, plS_len]
theorem shl_one (k : Nat) (h : k ≤ 62) : bShl .i64 1 (k : Int) = ((2 ^ k : Nat) : Int) := by
  have hp : 2 ^ k ≤ 2 ^ 62 := Nat.pow_le_pow_right (by omega) h
  have p62 : (2 : Nat) ^ 62 = 4611686018427387904 := rfl
  unfold bShl
  have e : min (k : Int).toNat IntKind.i64.bits = k := by show min (k : Int).toNat 64 = k; omega
  rw [e]
  have : (1 : Int) * 2 ^ k = ((2 ^ k : Nat) : Int) := by rw [Int.one_mul]; norm_cast
  rw [this]
  generalize (2 : Nat) ^ k = m at hp ⊢
  exact w64_eq _ (by omega)
theorem shl_minus (k : Nat) (h : k ≤ 62) : bShl .i64 (-1) (k : Int) = -((2 ^ k : Nat) : Int) := by
  have hp : 2 ^ k ≤ 2 ^ 62 := Nat.pow_le_pow_right (by omega) h
  have p62 : (2 : Nat) ^ 62 = 4611686018427387904 := rfl
  unfold bShl
  have e : min (k : Int).toNat IntKind.i64.bits = k := by show min (k : Int).toNat 64 = k; omega
  rw [e]
  have : (-1 : Int) * 2 ^ k = -((2 ^ k : Nat) : Int) := by rw [Int.neg_mul, Int.one_mul]; norm_cast
  rw [this]
  generalize (2 : Nat) ^ k = m at hp ⊢
  exact w64_eq _ (by omega)
theorem sbounds_ok (s : Signal) (h : 1 ≤ s.Size ∧ s.Size ≤ 40) : sbounds_vc s (fun r => r = (lowS s, highS s)) := by
  have e1 : w64 (s.Size - 1) = ((s.Size.toNat - 1 : Nat) : Int) := by rw [w64_eq _ (by omega)]; omega
  have e2 : s.Size = ((s.Size.toNat : Nat) : Int) := by omega
  have c : ∀ k : Nat, ((2 ^ k : Nat) : Int) = (2 : Int) ^ k := fun k => by norm_cast
  have b : ∀ k : Nat, k ≤ 40 → 1 ≤ 2 ^ k ∧ 2 ^ k ≤ 1099511627776 := fun k hk => ⟨Nat.one_le_two_pow, Nat.pow_le_pow_right (by omega : 0 < 2) hk⟩
  refine ⟨fun h1 => ⟨by omega, by omega, ?_⟩, fun h1 => ⟨by omega, ?_⟩⟩
  · have := b (s.Size.toNat - 1) (by omega)
    unfold lowS highS
    rw [if_pos h1, if_pos h1, e1, shl_minus _ (by omega), shl_one _ (by omega), w64_eq _ (by omega), c]
  · have := b s.Size.toNat (by omega)
    unfold lowS highS
    rw [if_neg (by rw [h1]; decide), if_neg (by rw [h1]; decide), e2, shl_one _ (by omega), w64_eq _ (by omega), c, ← e2]
def boundsS (s : Signal) : Int × Int := (lowS s, highS s)
theorem mul_abs {a b A B : Int} (ha : -A ≤ a ∧ a ≤ A) (hb : -B ≤ b ∧ b ≤ B) : -(A * B) ≤ a * b ∧ a * b ≤ A * B := by
  have h1 : (a * b).natAbs ≤ A.toNat * B.toNat := by rw [Int.natAbs_mul]; exact Nat.mul_le_mul (by omega) (by omega)
  have h2 : ((A.toNat * B.toNat : Nat) : Int) = A * B := by rw [Int.natCast_mul, Int.toNat_of_nonneg (by omega), Int.toNat_of_nonneg (by omega)]
  rw [← h2]
  omega
theorem tdiv_abs (a b : Int) : (a.tdiv b).natAbs ≤ a.natAbs := by
  rw [Int.natAbs_tdiv]
  exact Nat.div_le_self _ _
def bcloneS (l : List Int) : List Int := l
theorem bclone_ok (l : List Int) (h : l.length ≤ 140737488355328) : bclone_vc l (fun r => r = bcloneS l) := by
  intro _ nb hnb
  refine ⟨fun h1 => ?_, fun _ => ⟨by simp; omega, by simp [bcloneS]⟩⟩
  by_cases e : l = []
  · rw [e]; rfl
  · rw [hnb e] at h1; cases h1
def Rev {α : Type} (u : List α) (k : Nat) (z : List α) : Prop := z.length = u.length ∧ ∀ j, j < u.length → z[j]? = if j < k ∨ u.length ≤ j + k then u[u.length - 1 - j]? else u[j]?
theorem Rev.start {α : Type} (u : List α) : Rev u 0 u := ⟨rfl, fun j hj => by rw [if_neg (by omega)]⟩
theorem Rev.step {α : Type} {u z : List α} {k : Nat} {x y : α} (h : Rev u k z) (hk : 2 * k + 1 < u.length) (hx : z[u.length - 1 - k]? = some x) (hy : z[k]? = some y) : Rev u (k + 1) ((z.set k x).set (u.length - 1 - k) y) := by
  obtain ⟨h1, h2⟩ := h
  refine ⟨by simp [h1], fun j hj => ?_⟩
  have ex := h2 (u.length - 1 - k) (by omega)
  have ey := h2 k (by omega)
  rw [if_neg (by omega)] at ex ey
  rw [hx] at ex
  rw [hy] at ey
  rw [List.getElem?_set, List.getElem?_set]
  by_cases e1 : u.length - 1 - k = j
  · subst e1
    rw [if_pos rfl, if_pos (by rw [List.length_set]; omega), if_pos (by omega), ey]
    congr 1
    omega
  · rw [if_neg e1]
    by_cases e2 : k = j
    · subst e2
      rw [if_pos rfl, if_pos (by omega), if_pos (by omega), ex]
    · rw [if_neg e2, h2 j hj]
      have : (j < k + 1 ∨ u.length ≤ j + (k + 1)) ↔ (j < k ∨ u.length ≤ j + k) := by omega
      simp only [this]
theorem Rev.done {α : Type} {u z : List α} {k : Nat} (h : Rev u k z) (hk : u.length ≤ 2 * k + 1) : z = u.reverse := by
  obtain ⟨h1, h2⟩ := h
  apply List.ext_getElem?
  intro j
  rcases Nat.lt_or_ge j u.length with hj | hj
  · rw [h2 j hj, List.getElem?_reverse hj]
    split
    · rfl
    · congr 1
      omega
  · rw [List.getElem?_eq_none (by omega), List.getElem?_eq_none (by rw [List.length_reverse]; omega)]
def irevS (l : List Int) : List Int := l.reverse
theorem irev_ok (l : List Int) : irev_vc l (fun r => r = irevS l) := by
  intro hl
  refine ⟨fun x y z => ∃ k : Nat, x = k ∧ y = (l.length : Int) - 1 - k ∧ 2 * k ≤ l.length + 1 ∧ Rev l k z, fun x _ _ => l.length - x.toNat, ⟨0, rfl, by rw [w64_eq _ (by omega)]; omega, by omega, Rev.start l⟩, ?_⟩
  rintro _ _ z ⟨k, rfl, rfl, hk, hR⟩
  refine ⟨fun h1 => ?_, fun h1 => ?_⟩
  · have h1 := of_decide_eq_true h1
    have e1 : (((l.length : Int) - 1 - (k : Int))).toNat = l.length - 1 - k := by omega
    have hz := hR.1
    rw [e1, Int.toNat_natCast]
    refine ⟨by omega, fun x hx => ⟨by omega, fun y hy => ⟨by omega, by omega, ?_, ?_⟩⟩⟩
    · rw [w64_succ k (by omega), w64_eq _ (by omega)]
      exact ⟨k + 1, rfl, by omega, by omega, hR.step (by omega) hx hy⟩
    · rw [w64_succ k (by omega)]
      (try dsimp only)
      omega
  · have h1 := of_decide_eq_false h1
    exact ⟨hR.1, hR.done (by omega)⟩
def beqS (a b : List Int) : Bool := decide (a = b)
theorem list_eq_at {α : Type} {a b : List α} (hl : a.length = b.length) (h : ∀ (k : Nat) (x y : α), a[k]? = some x → b[k]? = some y → x = y) : a = b := by
  apply List.ext_getElem? 
  intro k
  rcases Nat.lt_or_ge k a.length with hk | hk
  · have h1 := List.getElem?_eq_getElem hk
    have h2 := List.getElem?_eq_getElem (l := b) (show k < b.length by omega)
    rw [h1, h2, h k _ _ h1 h2]
  · rw [List.getElem?_eq_none hk, List.getElem?_eq_none (by omega)]
theorem beq_ok (a b : List Int) : beq_vc a b (fun r => r = beqS a b) := by
  intro ha hb
  refine ⟨fun h => ?_, fun h => ?_⟩
  · have h : ¬ (a.length : Int) = (b.length : Int) := by simpa using h
    unfold beqS
    rw [decide_eq_false]
    intro e
    rw [e] at h
    exact h rfl
  · have h : a.length = b.length := by
      have h : (a.length : Int) = (b.length : Int) := by simpa only [bne_eq_false_iff_eq] using h
      omega
    refine ⟨fun i => ∃ k : Nat, i = k ∧ k ≤ a.length ∧ ∀ (j : Nat) (x y : Int), j < k → a[j]? = some x → b[j]? = some y → x = y, fun i => a.length - i.toNat, ⟨0, rfl, by omega, fun j _ _ hj => absurd hj (Nat.not_lt_zero _)⟩, ?_⟩
    rintro _ ⟨k, rfl, hk, hj⟩
    refine ⟨fun h1 => ?_, fun h1 => ?_⟩
    · have hk : k < a.length := by have := of_decide_eq_true h1; omega
      rw [w64_succ k (by omega)]
      refine ⟨by omega, fun q hq => ⟨by omega, fun p hp => ⟨fun h2 => ?_, fun h2 => ?_⟩⟩⟩
      · unfold beqS
        rw [decide_eq_false]
        rintro rfl
        rw [hq] at hp
        cases hp
        simp at h2
      · have h2 : q = p := by simpa using h2
        rw [Int.toNat_natCast] at hq hp
        refine ⟨⟨k + 1, rfl, by omega, fun j x y hj1 hx hy => ?_⟩, by (try dsimp only); omega⟩
        rcases Nat.lt_or_ge j k with hc | hc
        · exact hj j x y hc hx hy
        · have : j = k := by omega
          subst this
          rw [hq] at hx
          rw [hp] at hy
          cases hx; cases hy; exact h2
    · have : k = a.length := by have := of_decide_eq_false h1; omega
      subst this
      unfold beqS
      rw [decide_eq_true]
      exact list_eq_at h fun k x y hx hy => hj k x y (List.getElem?_eq_some_iff.1 hx).1 hx hy

end Go.Proofs.Ytdndfbamhnchfaa
set_option linter.unusedVariables false
set_option linter.unusedSimpArgs false
namespace Go.Proofs.Ytdndfbamhnchfaa
open Go.Sy Go.RowKit
def splaces_vc (u0 : Signal) (K : (List Int) → Prop) : Prop :=
  (∃ inv27 : (List Int) → Int → Int → Prop, ∃ mu27 : (List Int) → Int → Int → Nat, inv27 ([] : List Int) u0.Start 0 ∧
    (∀ (x3 : List Int) (x4 : Int) (x9 : Int), inv27 x3 x4 x9 →
    (((decide (x9 < u0.Size)) = true →
      (((x3.length + 1) * 8 ≤ 140737488355328) ∧
      (((!u0.Back) = true →
        (inv27 (x3 ++ [x4]) (w64 (x4 + 1)) (w64 (x9 + 1)) ∧ mu27 (x3 ++ [x4]) (w64 (x4 + 1)) (w64 (x9 + 1)) < mu27 x3 x4 x9)) ∧
      ((!u0.Back) = false →
        ((((x4.tmod 8) == 0) = true →
          (inv27 (x3 ++ [x4]) (w64 (x4 + 15)) (w64 (x9 + 1)) ∧ mu27 (x3 ++ [x4]) (w64 (x4 + 15)) (w64 (x9 + 1)) < mu27 x3 x4 x9)) ∧
        (((x4.tmod 8) == 0) = false →
          (inv27 (x3 ++ [x4]) (w64 (x4 - 1)) (w64 (x9 + 1)) ∧ mu27 (x3 ++ [x4]) (w64 (x4 - 1)) (w64 (x9 + 1)) < mu27 x3 x4 x9))))))) ∧
    ((decide (x9 < u0.Size)) = false →
      ((u0.Back = true →
        ((irevS x3).length ≤ 140737488355328 →
        (K (irevS x3)))) ∧
      (u0.Back = false →
        (K x3)))))))

def smean_vc (u0 : Signal) (u1 : Int) (K : Reading → Prop) : Prop :=
  (((-4611686018427387904 ≤ (w64 ((w64 (u1 * u0.Mul)) + (w64 (u0.Add * u0.Div)))) ∧ (w64 ((w64 (u1 * u0.Mul)) + (w64 (u0.Add * u0.Div)))) ≤ 4611686018427387904) ∧ -4611686018427387904 ≤ u0.Div ∧ u0.Div ≤ 4611686018427387904) ∧
    (((ngcd (w64 ((w64 (u1 * u0.Mul)) + (w64 (u0.Add * u0.Div)))) u0.Div) ≠ 0) ∧
    (((ngcd (w64 ((w64 (u1 * u0.Mul)) + (w64 (u0.Add * u0.Div)))) u0.Div) ≠ 0) ∧
    (K (⟨u0.Name, w64 ((w64 ((w64 (u1 * u0.Mul)) + (w64 (u0.Add * u0.Div)))).tdiv (ngcd (w64 ((w64 (u1 * u0.Mul)) + (w64 (u0.Add * u0.Div)))) u0.Div)), w64 (u0.Div.tdiv (ngcd (w64 ((w64 (u1 * u0.Mul)) + (w64 (u0.Add * u0.Div)))) u0.Div))⟩ : Reading)))))

/-! Pure proofs: no program in sight. -/
theorem splaces_ok (s : Signal) (h : (0 ≤ s.Start ∧ s.Start ≤ 512) ∧ 1 ≤ s.Size ∧ s.Size ≤ 40) : splaces_vc s (fun r => r = placesS s) := by
  obtain ⟨⟨h1, h2⟩, h3, h4⟩ := h
  obtain ⟨st, hst⟩ : ∃ st : Nat, s.Start = st := ⟨s.Start.toNat, by omega⟩
  obtain ⟨n, hn⟩ : ∃ n : Nat, s.Size = n := ⟨s.Size.toNat, by omega⟩
  rw [hst] at h1 h2
  rw [hn] at h3 h4
  have hP : placesS s = (plN s.Back st n).map (fun (k : Nat) => (k : Int)) := by unfold placesS plS; rw [hst, hn, Int.toNat_natCast, Int.toNat_natCast]
  rw [hP]
  refine ⟨fun x a i => ∃ k : Nat, i = k ∧ k ≤ n ∧ x = (List.range k).map (fun j => (fp s.Back st j : Int)) ∧ a = (fp s.Back st k : Int), fun _ _ i => n - i.toNat, ⟨0, rfl, by omega, rfl, by rw [fp_zero, hst]⟩, ?_⟩
  rintro _ _ _ ⟨k, rfl, hk, rfl, rfl⟩
  have hb := fp_le s.Back st k
  have happ : (List.range k).map (fun j => (fp s.Back st j : Int)) ++ [(fp s.Back st k : Int)] = (List.range (k + 1)).map (fun j => (fp s.Back st j : Int)) := by rw [List.range_succ, List.map_append]; rfl
  refine ⟨fun hc => ?_, fun hc => ?_⟩
  · have hc := of_decide_eq_true hc
    rw [hn] at hc
    rw [happ, w64_succ k (by omega)]
    refine ⟨by rw [List.length_map, List.length_range]; omega, fun hB => ?_, fun hB => ?_⟩
    · have hB : s.Back = false := by simpa using hB
      refine ⟨⟨k + 1, rfl, by omega, rfl, ?_⟩, by (try dsimp only); omega⟩
      rw [w64_succ _ (by omega), hB, fp_up]
    · have hB : s.Back = true := by simpa using hB
      have hm : (((fp s.Back st k : Nat) : Int).tmod 8 == 0) = decide (fp s.Back st k % 8 = 0) := by
        rw [Int.tmod_eq_emod_of_nonneg (by omega), Bool.eq_iff_iff, beq_iff_eq, decide_eq_true_eq]
        omega
      rw [hm]
      refine ⟨fun h5 => ?_, fun h5 => ?_⟩
      · have h5 := of_decide_eq_true h5
        refine ⟨⟨k + 1, rfl, by omega, rfl, ?_⟩, by (try dsimp only); omega⟩
        rw [w64_eq _ (by omega)]
        rw [hB] at h5 ⊢
        rw [fp_back, if_pos h5]
        omega
      · have h5 := of_decide_eq_false h5
        refine ⟨⟨k + 1, rfl, by omega, rfl, ?_⟩, by (try dsimp only); omega⟩
        rw [w64_eq _ (by omega)]
        rw [hB] at h5 ⊢
        rw [fp_back, if_neg h5]
        omega
  · have hc := of_decide_eq_false hc
    rw [hn] at hc
    have : k = n := by omega
    subst this
    refine ⟨fun hB => ?_, fun hB => ?_⟩
    · intro _
      unfold irevS plN
      rw [if_pos hB, List.map_reverse, List.map_map]
      rfl
    · unfold plN
      rw [if_neg (by rw [hB]; decide), List.map_map]
      rfl
theorem mean_bound {s : Signal} {n : Int} (h : factS s ∧ -1099511627776 ≤ n ∧ n ≤ 1099511627776) : (-(1099511627776 * 1000000) ≤ n * s.Mul ∧ n * s.Mul ≤ 1099511627776 * 1000000) ∧ -(1000000 * 1000000) ≤ s.Add * s.Div ∧ s.Add * s.Div ≤ 1000000 * 1000000 := by
  obtain ⟨⟨h1, h2, h3, h4, h5, h6, h7⟩, h8⟩ := h
  exact ⟨mul_abs h8 ⟨h2, h3⟩, mul_abs ⟨h6, h7⟩ ⟨by omega, h5⟩⟩
theorem smean_ok (s : Signal) (n : Int) (h : factS s ∧ -1099511627776 ≤ n ∧ n ≤ 1099511627776) : smean_vc s n (fun r => r = meanS s n) := by
  obtain ⟨hb1, hb2⟩ := mean_bound h
  obtain ⟨⟨h1, h2, h3, h4, h5, h6, h7⟩, h8⟩ := h
  unfold smean_vc meanS
  rw [w64_eq (n * s.Mul) (by omega), w64_eq (s.Add * s.Div) (by omega), w64_eq (n * s.Mul + s.Add * s.Div) (by omega)]
  have hg := ngcd_pos (a := n * s.Mul + s.Add * s.Div) (b := s.Div) (by omega)
  have t1 := tdiv_abs (n * s.Mul + s.Add * s.Div) (ngcd (n * s.Mul + s.Add * s.Div) s.Div)
  have t2 := tdiv_abs s.Div (ngcd (n * s.Mul + s.Add * s.Div) s.Div)
  rw [w64_eq ((n * s.Mul + s.Add * s.Div).tdiv _) (by omega), w64_eq (s.Div.tdiv _) (by omega)]
  exact ⟨by omega, by omega, by omega, rfl⟩

end Go.Proofs.Ytdndfbamhnchfaa
set_option linter.unusedVariables false
set_option linter.unusedSimpArgs false
namespace Go.Proofs.Ytdndfbamhnchfaa
open Go.Sy Go.RowKit
def scheck_vc (u0 : Signal) (u1 : Int) (K : Int → Prop) : Prop :=
  (((!(nameS u0.Name)) = true →
      (K 1)) ∧
    ((!(nameS u0.Name)) = false →
      ((((((decide (u1 < 0)) || (decide (u1 > 64))) || (decide (u0.Size < 1))) || (decide (u0.Size > 40))) = true →
        (K 3)) ∧
      (((((decide (u1 < 0)) || (decide (u1 > 64))) || (decide (u0.Size < 1))) || (decide (u0.Size > 40))) = false →
        (((((((((u0.Mul == 0) || (decide ((max u0.Mul (w64 (0 - u0.Mul))) > 1000000))) || (decide (u0.Mul < (-1000000)))) || (decide (u0.Div < 1))) || (decide (u0.Div > 1000000))) || (decide (u0.Add > 1000000))) || (decide (u0.Add < (-1000000)))) = true →
          (K 3)) ∧
        ((((((((u0.Mul == 0) || (decide ((max u0.Mul (w64 (0 - u0.Mul))) > 1000000))) || (decide (u0.Mul < (-1000000)))) || (decide (u0.Div < 1))) || (decide (u0.Div > 1000000))) || (decide (u0.Add > 1000000))) || (decide (u0.Add < (-1000000)))) = false →
          ((((decide (u0.Key < (-1))) || (decide (u0.Key > 255))) = true →
            (K 3)) ∧
          (((decide (u0.Key < (-1))) || (decide (u0.Key > 255))) = false →
            ((((decide (u0.Start < 0)) || (decide (u0.Start ≥ (w64 (8 * u1))))) = true →
              (K 7)) ∧
            (((decide (u0.Start < 0)) || (decide (u0.Start ≥ (w64 (8 * u1))))) = false →
              (((0 ≤ u0.Start ∧ u0.Start ≤ 512) ∧ 1 ≤ u0.Size ∧ u0.Size ≤ 40) ∧
              ((placesS u0).length ≤ 140737488355328 →
              ((0 < (placesS u0).length) ∧
              (((decide ((maxL (placesS u0)) ≥ (w64 (8 * u1)))) = true →
                (K 7)) ∧
              ((decide ((maxL (placesS u0)) ≥ (w64 (8 * u1)))) = false →
                ((0 < (placesS u0).length) ∧
                (((decide ((minL (placesS u0)) < 0)) = true →
                  (K 7)) ∧
                ((decide ((minL (placesS u0)) < 0)) = false →
                  (K 0)))))))))))))))))))

def sget_vc (u0 : Signal) (u1 : List Int) (K : Int → Prop) : Prop :=
  (u1.length ≤ 140737488355328 →
    (((0 ≤ u0.Start ∧ u0.Start ≤ 512) ∧ 1 ≤ u0.Size ∧ u0.Size ≤ 40) ∧
    ((placesS u0).length ≤ 140737488355328 →
    (∃ inv36 : Int → Int → Prop, ∃ mu36 : Int → Int → Nat, inv36 0 0 ∧
    (∀ (x5 : Int) (x11 : Int), inv36 x5 x11 →
    (((decide (x11 < ((placesS u0).length : Int))) = true →
      ((0 ≤ x11 ∧ x11 < ((placesS u0).length : Int)) ∧
      (∀ q67, (placesS u0)[x11.toNat]? = some q67 →
      ((0 ≤ w64 (q67.tdiv 8) ∧ w64 (q67.tdiv 8) < (u1.length : Int)) ∧
      (∀ q94, u1[(w64 (q67.tdiv 8)).toNat]? = some q94 →
      ((0 ≤ q67.tmod 8) ∧
      ((0 ≤ x11) ∧
      (inv36 (bOr .i64 x5 (bShl .i64 (w64 (bAnd .u8 (bShr .u8 q94 (q67.tmod 8)) 1)) x11)) (w64 (x11 + 1)) ∧ mu36 (bOr .i64 x5 (bShl .i64 (w64 (bAnd .u8 (bShr .u8 q94 (q67.tmod 8)) 1)) x11)) (w64 (x11 + 1)) < mu36 x5 x11)))))))) ∧
    ((decide (x11 < ((placesS u0).length : Int))) = false →
      ((u0.Signed = true →
        ((0 ≤ w64 (u0.Size - 1)) ∧
        ((((bShr .i64 x5 (w64 (u0.Size - 1))) == 1) = true →
          ((0 ≤ u0.Size) ∧
          (K (w64 (x5 - (bShl .i64 1 u0.Size)))))) ∧
        (((bShr .i64 x5 (w64 (u0.Size - 1))) == 1) = false →
          (K x5))))) ∧
      (u0.Signed = false →
        (K x5))))))))))

def sputd_vc (u0 : Signal) (u1 : List Int) (u2 : Int) (K : (List Int) → Prop) : Prop :=
  (u1.length ≤ 140737488355328 →
    (((0 ≤ u0.Start ∧ u0.Start ≤ 512) ∧ 1 ≤ u0.Size ∧ u0.Size ≤ 40) ∧
    ((placesS u0).length ≤ 140737488355328 →
    (∃ inv30 : Int → (List Int) → Prop, ∃ mu30 : Int → (List Int) → Nat, inv30 0 u1 ∧
    (∀ (x11 : Int) (zao1 : List Int), inv30 x11 zao1 →
    (((decide (x11 < ((placesS u0).length : Int))) = true →
      ((0 ≤ x11 ∧ x11 < ((placesS u0).length : Int)) ∧
      (∀ q61, (placesS u0)[x11.toNat]? = some q61 →
      ((0 ≤ w64 (q61.tdiv 8) ∧ w64 (q61.tdiv 8) < (zao1.length : Int)) ∧
      (∀ qd7_0, zao1[(w64 (q61.tdiv 8)).toNat]? = some qd7_0 →
      ((0 ≤ q61.tmod 8) ∧
      ((0 ≤ x11) ∧
      ((0 ≤ q61.tmod 8) ∧
      ((0 ≤ w64 (q61.tdiv 8) ∧ w64 (q61.tdiv 8) < (zao1.length : Int)) ∧
      (inv30 (w64 (x11 + 1)) (zao1.set (w64 (q61.tdiv 8)).toNat (bOr .u8 (bAndNot .u8 qd7_0 (bShl .u8 1 (q61.tmod 8))) (bShl .u8 (w8 (bAnd .i64 (bShr .i64 u2 x11) 1)) (q61.tmod 8)))) ∧ mu30 (w64 (x11 + 1)) (zao1.set (w64 (q61.tdiv 8)).toNat (bOr .u8 (bAndNot .u8 qd7_0 (bShl .u8 1 (q61.tmod 8))) (bShl .u8 (w8 (bAnd .i64 (bShr .i64 u2 x11) 1)) (q61.tmod 8)))) < mu30 x11 zao1)))))))))) ∧
    ((decide (x11 < ((placesS u0).length : Int))) = false →
      ((zao1.length = u1.length) ∧
      (K zao1)))))))))

/-! Pure proofs: no program in sight. -/
theorem shr_any (n : Int) (s : Nat) (hs : s ≤ 63) : bShr .i64 n (s : Int) = n / 2 ^ s := by
  unfold bShr
  have : min (s : Int).toNat IntKind.i64.bits = s := by simp [IntKind.bits]; omega
  rw [this, Int.fdiv_eq_ediv_of_nonneg _ (Int.le_of_lt (Int.pow_pos (by decide)))]
theorem and_one (m : Int) : bAnd .i64 m 1 = m % 2 := by
  unfold bAnd
  have e : (BitVec.ofInt IntKind.i64.bits m &&& BitVec.ofInt IntKind.i64.bits 1).toNat = (m % 2).toNat := by
    rw [BitVec.toNat_and]
    show (BitVec.ofInt 64 m).toNat &&& 1 = _
    rw [Nat.and_one_is_mod, BitVec.toNat_ofInt]
    omega
  rw [e]
  have := Int.emod_nonneg m (by decide : (2 : Int) ≠ 0)
  have := Int.emod_lt_of_pos m (by decide : (0 : Int) < 2)
  rw [Int.toNat_of_nonneg (by omega)]
  exact w64_eq _ (by omega)
theorem fact_eq (s : Signal) : (((((((s.Mul == 0) || (decide ((max s.Mul (w64 (0 - s.Mul))) > 1000000))) || (decide (s.Mul < (-1000000)))) || (decide (s.Div < 1))) || (decide (s.Div > 1000000))) || (decide (s.Add > 1000000))) || (decide (s.Add < (-1000000)))) = !decide (factS s) := by
  rw [Bool.eq_iff_iff]
  simp only [Bool.or_eq_true, beq_iff_eq, decide_eq_true_eq, Bool.not_eq_true', decide_eq_false_iff_not]
  unfold factS
  by_cases h : -1000000 ≤ s.Mul ∧ s.Mul ≤ 1000000
  · rw [w64_eq (0 - s.Mul) (by omega)]
    omega
  · constructor
    · intro _
      omega
    · intro _
      omega
theorem scheck_ok (s : Signal) (n : Int) : scheck_vc s n (fun r => r = checkS s n) := by
  unfold scheck_vc
  rw [fact_eq]
  unfold checkS
  refine ⟨fun h => ?_, fun h => ?_⟩
  · rw [if_pos (by simpa using h)]
  rw [if_neg (by simpa using h)]
  refine ⟨fun h1 => ?_, fun h1 => ?_⟩
  · rw [if_pos (by simpa [or_assoc] using h1)]
  have h1 : ¬ (n < 0 ∨ 64 < n ∨ s.Size < 1 ∨ 40 < s.Size) := by simp only [Bool.or_eq_false_iff, decide_eq_false_iff_not] at h1; omega
  rw [if_neg h1]
  refine ⟨fun h2 => ?_, fun h2 => ?_⟩
  · rw [if_pos (by simpa using h2)]
  have h2 : factS s := by simpa using h2
  rw [if_neg (fun hh => hh h2)]
  refine ⟨fun h3 => ?_, fun h3 => ?_⟩
  · rw [if_pos (by simpa using h3)]
  rw [if_neg (by simp only [Bool.or_eq_false_iff, decide_eq_false_iff_not] at h3; omega), w64_eq _ (by omega)]
  refine ⟨fun h4 => ?_, fun h4 => ?_⟩
  · rw [if_pos (by simpa using h4)]
  have h4 : ¬ (s.Start < 0 ∨ 8 * n ≤ s.Start) := by simp only [Bool.or_eq_false_iff, decide_eq_false_iff_not] at h4; omega
  have hl : 0 < (placesS s).length := by rw [places_len]; omega
  have hm := places_max s (by rw [plS_len]; omega) (8 * n)
  rw [if_neg h4]
  refine ⟨by omega, fun _ => ⟨hl, fun h5 => ?_, fun h5 => ⟨hl, fun h6 => ?_, fun _ => ?_⟩⟩⟩
  · have h5 : decide (8 * n ≤ maxL (placesS s)) = true := h5
    rw [hm] at h5
    rw [if_pos h5]
  · have := of_decide_eq_true h6
    have := places_min s
    omega
  · have h5 : decide (8 * n ≤ maxL (placesS s)) = false := h5
    rw [hm] at h5
    rw [if_neg (by rw [h5]; decide)]
/-- A signal whose bits all lie in the data. -/
def inD (s : Signal) (d : List Int) : Prop := ((0 ≤ s.Start ∧ s.Start ≤ 512) ∧ 1 ≤ s.Size ∧ s.Size ≤ 40) ∧ isBytes d ∧ ∀ p ∈ plS s, p < 8 * d.length
theorem place_at {s : Signal} {k : Nat} {q : Int} (h : (placesS s)[k]? = some q) : ∃ p : Nat, (plS s)[k]? = some p ∧ q = p ∧ p ∈ plS s := by
  unfold placesS at h
  rw [List.getElem?_map, Option.map_eq_some_iff] at h
  obtain ⟨p, hp, rfl⟩ := h
  exact ⟨p, hp, rfl, List.mem_of_getElem? hp⟩
theorem div8 (p : Nat) (h : p < 1000000) : w64 ((p : Int).tdiv 8) = ((p / 8 : Nat) : Int) ∧ (p : Int).tmod 8 = ((p % 8 : Nat) : Int) := by
  rw [Int.tdiv_eq_ediv_of_nonneg (by omega), Int.tmod_eq_emod_of_nonneg (by omega), w64_eq _ (by omega)]
  omega
theorem got_bit {d : List Int} (h : isBytes d) {p : Nat} {q : Int} (hq : d[p / 8]? = some q) : bAnd .u8 (bShr .u8 q ((p % 8 : Nat) : Int)) 1 = bv (bitat d p) := by
  obtain ⟨n, hn, hb⟩ := byte_at h (p / 8)
  rw [hq] at hn
  have hn : q = (n : Int) := hn
  have := gb_all ⟨n, hb⟩ ⟨p % 8, by omega⟩
  dsimp only at this
  rw [hn, this]
  unfold bv bitat
  rw [hq, Option.getD_some, hn, Int.toNat_natCast]
theorem or_bit (v k : Nat) (b : Bool) (hv : v < 2 ^ k) (hk : k ≤ 40) : bOr .i64 (v : Int) (bShl .i64 (w64 (bv b)) (k : Int)) = ((v + 2 ^ k * vb [b] : Nat) : Int) := by
  have hp : 2 ^ k ≤ 1099511627776 := Nat.pow_le_pow_right (by omega : 0 < 2) hk
  have h0 : 1 ≤ 2 ^ k := Nat.one_le_two_pow
  cases b with
  | false =>
    have e : bShl .i64 (w64 (bv false)) (k : Int) = ((0 : Nat) : Int) := by
      unfold bShl bv
      rw [if_neg (by decide)]
      have : w64 0 * 2 ^ min (k : Int).toNat IntKind.i64.bits = 0 := by rw [w64_eq _ (by omega), Int.zero_mul]
      rw [this]; rfl
    rw [e, bOr_nat _ _ (by omega) (by omega), Nat.or_zero]
    simp [vb]
  | true =>
    have e : w64 (bv true) = 1 := by unfold bv; rw [if_pos rfl]; exact w64_eq _ (by omega)
    rw [e, shl_one k (by omega), bOr_nat _ _ (by omega) (by omega)]
    have := Nat.two_pow_add_eq_or_of_lt (i := k) (b := v) hv 1
    rw [Nat.mul_one] at this
    rw [Nat.or_comm, ← this]
    simp [vb]
    omega
theorem sget_ok (s : Signal) (d : List Int) (h : inD s d) : sget_vc s d (fun r => r = getS s d) := by
  obtain ⟨⟨h1, h2, h3⟩, hd, hp⟩ := h
  have hl := places_len s
  have hpl := plS_len s
  intro _
  refine ⟨⟨h1, h2, h3⟩, fun _ => ⟨fun x i => ∃ k : Nat, i = k ∧ k ≤ s.Size.toNat ∧ x = ((vb (((plS s).take k).map (bitat d)) : Nat) : Int), fun _ i => s.Size.toNat - i.toNat, ⟨0, rfl, by omega, rfl⟩, ?_⟩⟩
  rintro _ _ ⟨k, rfl, hk, rfl⟩
  have hv := vb_lt (((plS s).take k).map (bitat d))
  rw [List.length_map, List.length_take, hpl, Nat.min_eq_left hk] at hv
  refine ⟨fun hc => ?_, fun hc => ?_⟩
  · have hc := of_decide_eq_true hc
    refine ⟨by omega, fun q hq => ?_⟩
    rw [Int.toNat_natCast] at hq
    obtain ⟨p, hp1, rfl, hp2⟩ := place_at hq
    have hlt := hp p hp2
    have hfp : p < 1000000 := by
      have : p < 8 * d.length := hlt
      unfold plS plN at hp2
      have hb : ∀ j, j ∈ (List.range s.Size.toNat).map (fp s.Back s.Start.toNat) → j < 1000000 := by
        intro j hj
        obtain ⟨i, hi, rfl⟩ := List.mem_map.1 hj
        have := List.mem_range.1 hi
        have := fp_le s.Back s.Start.toNat i
        omega
      split at hp2
      · exact hb p (List.mem_reverse.1 hp2)
      · exact hb p hp2
    obtain ⟨d1, d2⟩ := div8 p hfp
    rw [d1, d2, Int.toNat_natCast]
    refine ⟨by omega, fun q hq2 => ?_⟩
    rw [got_bit hd hq2, or_bit _ _ _ hv (by omega), w64_succ k (by omega)]
    refine ⟨by omega, by omega, ⟨k + 1, rfl, by omega, ?_⟩, by (try dsimp only); omega⟩
    rw [List.take_add_one, hp1, List.map_append, vb_append, List.length_map, List.length_take, hpl, Nat.min_eq_left hk]
    rfl
  · have hc := of_decide_eq_false hc
    have hkk : k = s.Size.toNat := by omega
    subst hkk
    have e : ((plS s).take s.Size.toNat) = plS s := by rw [← hpl, List.take_length]
    rw [e] at hv ⊢
    have hg : getS s d = sgn s.Signed s.Size.toNat ((vb ((plS s).map (bitat d)) : Nat) : Int) := rfl
    rw [hg]
    generalize vb ((plS s).map (bitat d)) = v at *
    obtain ⟨m, hm⟩ : ∃ m, s.Size.toNat = m + 1 := ⟨s.Size.toNat - 1, by omega⟩
    have e1 : w64 (s.Size - 1) = (m : Int) := by rw [w64_eq _ (by omega)]; omega
    have hb : 1 ≤ 2 ^ m ∧ 2 ^ m ≤ 549755813888 := ⟨Nat.one_le_two_pow, Nat.pow_le_pow_right (by omega : 0 < 2) (by omega : m ≤ 39)⟩
    rw [hm, Nat.pow_succ] at hv
    have c : ((2 ^ m : Nat) : Int) = (2 : Int) ^ m := by norm_cast
    refine ⟨fun hS => ⟨by omega, ?_⟩, fun hS => ?_⟩
    · rw [e1, shr_any _ _ (by omega), ← c]
      have hq : (((v : Int) / ((2 ^ m : Nat) : Int)) == 1) = decide (2 ^ m ≤ v) := by
        rw [Bool.eq_iff_iff, beq_iff_eq, decide_eq_true_eq, ← Int.natCast_ediv]
        have hdm := Nat.div_add_mod v (2 ^ m)
        have hml := Nat.mod_lt v (show 2 ^ m > 0 by omega)
        constructor
        · intro h5
          have h5 : v / 2 ^ m = 1 := by omega
          rw [h5] at hdm
          omega
        · intro h5
          have h6 : v / 2 ^ m < 2 := Nat.div_lt_of_lt_mul hv
          have h7 : 1 ≤ v / 2 ^ m := (Nat.one_le_div_iff (by omega)).2 h5
          omega
      rw [hq]
      refine ⟨fun h5 => ⟨by omega, ?_⟩, fun h5 => ?_⟩
      · have h5 := of_decide_eq_true h5
        have e2 : s.Size = ((m + 1 : Nat) : Int) := by omega
        have c2 : ((2 ^ (m + 1) : Nat) : Int) = (2 : Int) ^ (m + 1) := by norm_cast
        have hs : sgn s.Signed s.Size.toNat (v : Int) = (v : Int) - ((2 ^ (m + 1) : Nat) : Int) := by
          unfold sgn
          rw [hm, Nat.add_sub_cancel, if_pos ⟨hS, by rw [← c]; omega⟩, ← c2]
        rw [hs, e2, shl_one _ (by omega), w64_eq _ (by rw [Nat.pow_succ]; omega)]
      · have h5 := of_decide_eq_false h5
        unfold sgn
        rw [hm, Nat.add_sub_cancel, if_neg (by rintro ⟨_, h6⟩; rw [← c] at h6; omega)]
    · unfold sgn
      rw [if_neg (by rintro ⟨h6, _⟩; rw [hS] at h6; cases h6)]
theorem putF_snoc (n : Int) : ∀ (l : List Nat) (i p : Nat) (d : List Int), putF n i (l ++ [p]) d = set1 (putF n i l d) p (nb n (i + l.length)) := by
  intro l
  induction l with
  | nil => intro i p d; rfl
  | cons a l ih => intro i p d; rw [List.cons_append, putF, putF, ih, List.length_cons]; congr 2; omega
theorem sputd_ok (s : Signal) (d : List Int) (n : Int) (h : inD s d) : sputd_vc s d n (fun r => r = putS s d n) := by
  obtain ⟨⟨h1, h2, h3⟩, hd, hp⟩ := h
  have hl := places_len s
  have hpl := plS_len s
  intro hdl
  refine ⟨⟨h1, h2, h3⟩, fun _ => ⟨fun i x => ∃ k : Nat, i = k ∧ k ≤ s.Size.toNat ∧ x = putF n 0 ((plS s).take k) d, fun i _ => s.Size.toNat - i.toNat, ⟨0, rfl, by omega, rfl⟩, ?_⟩⟩
  rintro _ _ ⟨k, rfl, hk, rfl⟩
  have hlen := putF_len n ((plS s).take k) 0 d
  refine ⟨fun hc => ?_, fun hc => ?_⟩
  · have hc := of_decide_eq_true hc
    refine ⟨by omega, fun q hq => ?_⟩
    rw [Int.toNat_natCast] at hq
    obtain ⟨p, hp1, rfl, hp2⟩ := place_at hq
    have hlt := hp p hp2
    have hfp : p < 1000000 := by
      unfold plS plN at hp2
      have hb : ∀ j, j ∈ (List.range s.Size.toNat).map (fp s.Back s.Start.toNat) → j < 1000000 := by
        intro j hj
        obtain ⟨i, hi, rfl⟩ := List.mem_map.1 hj
        have := List.mem_range.1 hi
        have := fp_le s.Back s.Start.toNat i
        omega
      split at hp2
      · exact hb p (List.mem_reverse.1 hp2)
      · exact hb p hp2
    obtain ⟨d1, d2⟩ := div8 p hfp
    rw [d1, d2, Int.toNat_natCast]
    refine ⟨by omega, fun q hq2 => ⟨by omega, by omega, by omega, by omega, ⟨k + 1, by rw [w64_succ k (by omega)], by omega, ?_⟩, by rw [w64_succ k (by omega)]; (try dsimp only); omega⟩⟩
    rw [List.take_add_one, hp1]
    show _ = putF n 0 (List.take k (plS s) ++ [p]) d
    rw [putF_snoc, List.length_take, hpl, Nat.min_eq_left hk, Nat.zero_add]
    unfold set1 sb
    rw [hq2, Option.getD_some]
    congr 2
    rw [shr_any _ _ (by omega), and_one]
    unfold bv nb
    have : n / 2 ^ k % 2 = 0 ∨ n / 2 ^ k % 2 = 1 := by omega
    rcases this with e | e <;> rw [e] <;> rfl
  · have hc := of_decide_eq_false hc
    have hkk : k = s.Size.toNat := by omega
    subst hkk
    refine ⟨hlen, ?_⟩
    unfold putS
    rw [← hpl, List.take_length]

end Go.Proofs.Ytdndfbamhnchfaa
set_option linter.unusedVariables false
set_option linter.unusedSimpArgs false
namespace Go.Proofs.Ytdndfbamhnchfaa
open Go.Sy Go.RowKit
def sraw_vc (u0 : Signal) (u1 : Int) (u2 : Int) (K : (Int × Int) → Prop) : Prop :=
  ((((checkS u0 64) != 0) = true →
      (K (0, (checkS u0 64)))) ∧
    (((checkS u0 64) != 0) = false →
      ((((((decide (u2 < 1)) || (decide (u2 > 1000000))) || (decide (u1 > 1099511627776))) || (decide (u1 < (-1099511627776)))) = true →
        (K (0, 3))) ∧
      (((((decide (u2 < 1)) || (decide (u2 > 1000000))) || (decide (u1 > 1099511627776))) || (decide (u1 < (-1099511627776)))) = false →
        (sgcd_vc u0.Div u0.Mul fun r99 =>
        ((r99 ≠ 0) ∧
        ((r99 ≠ 0) ∧
        (∃ inv151 : Int → Int → Prop,
        (((decide ((w64 (u0.Mul.tdiv r99)) < 0)) = true →
          (inv151 (w64 (0 - (w64 (u0.Div.tdiv r99)))) (w64 (0 - (w64 (u0.Mul.tdiv r99)))))) ∧
        ((decide ((w64 (u0.Mul.tdiv r99)) < 0)) = false →
          (inv151 (w64 (u0.Div.tdiv r99)) (w64 (u0.Mul.tdiv r99))))) ∧
        (∀ (x11 : Int) (x12 : Int), inv151 x11 x12 →
          (sgcd_vc (w64 (u1 - (w64 (u0.Add * u2)))) u2 fun r169 =>
          ((r169 ≠ 0) ∧
          ((r169 ≠ 0) ∧
          (sgcd_vc x11 (w64 (u2.tdiv r169)) fun r214 =>
          ((r214 ≠ 0) ∧
          ((r214 ≠ 0) ∧
          (sgcd_vc (w64 ((w64 (u1 - (w64 (u0.Add * u2)))).tdiv r169)) x12 fun r259 =>
          ((r259 ≠ 0) ∧
          ((r259 ≠ 0) ∧
          (((((w64 ((w64 (u2.tdiv r169)).tdiv r214)) != 1) || ((w64 (x12.tdiv r259)) != 1)) = true →
            (K (0, 4))) ∧
          ((((w64 ((w64 (u2.tdiv r169)).tdiv r214)) != 1) || ((w64 (x12.tdiv r259)) != 1)) = false →
            ((1 ≤ u0.Size ∧ u0.Size ≤ 40) ∧
            ((((decide ((w64 ((w64 ((w64 (u1 - (w64 (u0.Add * u2)))).tdiv r169)).tdiv r259)) > 0)) && (decide ((w64 (x11.tdiv r214)) > 0))) = true →
              ((w64 (x11.tdiv r214) ≠ 0) ∧
              (((decide ((w64 ((w64 ((w64 (u1 - (w64 (u0.Add * u2)))).tdiv r169)).tdiv r259)) > (w64 ((boundsS u0).2.tdiv (w64 (x11.tdiv r214)))))) = true →
                (K (0, 3))) ∧
              ((decide ((w64 ((w64 ((w64 (u1 - (w64 (u0.Add * u2)))).tdiv r169)).tdiv r259)) > (w64 ((boundsS u0).2.tdiv (w64 (x11.tdiv r214)))))) = false →
                ((((decide ((w64 ((w64 ((w64 (u1 - (w64 (u0.Add * u2)))).tdiv r169)).tdiv r259)) < 0)) && (decide ((w64 (x11.tdiv r214)) > 0))) = true →
                  ((w64 (x11.tdiv r214) ≠ 0) ∧
                  (((decide ((w64 ((w64 ((w64 (u1 - (w64 (u0.Add * u2)))).tdiv r169)).tdiv r259)) < (w64 ((boundsS u0).1.tdiv (w64 (x11.tdiv r214)))))) = true →
                    (K (0, 3))) ∧
                  ((decide ((w64 ((w64 ((w64 (u1 - (w64 (u0.Add * u2)))).tdiv r169)).tdiv r259)) < (w64 ((boundsS u0).1.tdiv (w64 (x11.tdiv r214)))))) = false →
                    ((((decide ((w64 ((w64 ((w64 (u1 - (w64 (u0.Add * u2)))).tdiv r169)).tdiv r259)) > 0)) && (decide ((w64 (x11.tdiv r214)) < 0))) = true →
                      ((w64 (x11.tdiv r214) ≠ 0) ∧
                      (((decide ((w64 ((w64 ((w64 (u1 - (w64 (u0.Add * u2)))).tdiv r169)).tdiv r259)) > (w64 ((boundsS u0).1.tdiv (w64 (x11.tdiv r214)))))) = true →
                        (K (0, 3))) ∧
                      ((decide ((w64 ((w64 ((w64 (u1 - (w64 (u0.Add * u2)))).tdiv r169)).tdiv r259)) > (w64 ((boundsS u0).1.tdiv (w64 (x11.tdiv r214)))))) = false →
                        ((((decide ((w64 ((w64 ((w64 (u1 - (w64 (u0.Add * u2)))).tdiv r169)).tdiv r259)) < 0)) && (decide ((w64 (x11.tdiv r214)) < 0))) = true →
                          ((w64 (x11.tdiv r214) ≠ 0) ∧
                          (((decide ((w64 ((w64 ((w64 (u1 - (w64 (u0.Add * u2)))).tdiv r169)).tdiv r259)) < (w64 ((boundsS u0).2.tdiv (w64 (x11.tdiv r214)))))) = true →
                            (K (0, 3))) ∧
                          ((decide ((w64 ((w64 ((w64 (u1 - (w64 (u0.Add * u2)))).tdiv r169)).tdiv r259)) < (w64 ((boundsS u0).2.tdiv (w64 (x11.tdiv r214)))))) = false →
                            ((((decide ((w64 ((w64 ((w64 ((w64 (u1 - (w64 (u0.Add * u2)))).tdiv r169)).tdiv r259)) * (w64 (x11.tdiv r214)))) < (boundsS u0).1)) || (decide ((w64 ((w64 ((w64 ((w64 (u1 - (w64 (u0.Add * u2)))).tdiv r169)).tdiv r259)) * (w64 (x11.tdiv r214)))) > (boundsS u0).2))) = true →
                              (K (0, 3))) ∧
                            (((decide ((w64 ((w64 ((w64 ((w64 (u1 - (w64 (u0.Add * u2)))).tdiv r169)).tdiv r259)) * (w64 (x11.tdiv r214)))) < (boundsS u0).1)) || (decide ((w64 ((w64 ((w64 ((w64 (u1 - (w64 (u0.Add * u2)))).tdiv r169)).tdiv r259)) * (w64 (x11.tdiv r214)))) > (boundsS u0).2))) = false →
                              (K (w64 ((w64 ((w64 ((w64 (u1 - (w64 (u0.Add * u2)))).tdiv r169)).tdiv r259)) * (w64 (x11.tdiv r214))), 0)))))))) ∧
                        (((decide ((w64 ((w64 ((w64 (u1 - (w64 (u0.Add * u2)))).tdiv r169)).tdiv r259)) < 0)) && (decide ((w64 (x11.tdiv r214)) < 0))) = false →
                          ((((decide ((w64 ((w64 ((w64 ((w64 (u1 - (w64 (u0.Add * u2)))).tdiv r169)).tdiv r259)) * (w64 (x11.tdiv r214)))) < (boundsS u0).1)) || (decide ((w64 ((w64 ((w64 ((w64 (u1 - (w64 (u0.Add * u2)))).tdiv r169)).tdiv r259)) * (w64 (x11.tdiv r214)))) > (boundsS u0).2))) = true →
                            (K (0, 3))) ∧
                          (((decide ((w64 ((w64 ((w64 ((w64 (u1 - (w64 (u0.Add * u2)))).tdiv r169)).tdiv r259)) * (w64 (x11.tdiv r214)))) < (boundsS u0).1)) || (decide ((w64 ((w64 ((w64 ((w64 (u1 - (w64 (u0.Add * u2)))).tdiv r169)).tdiv r259)) * (w64 (x11.tdiv r214)))) > (boundsS u0).2))) = false →
                            (K (w64 ((w64 ((w64 ((w64 (u1 - (w64 (u0.Add * u2)))).tdiv r169)).tdiv r259)) * (w64 (x11.tdiv r214))), 0)))))))))) ∧
                    (((decide ((w64 ((w64 ((w64 (u1 - (w64 (u0.Add * u2)))).tdiv r169)).tdiv r259)) > 0)) && (decide ((w64 (x11.tdiv r214)) < 0))) = false →
                      ((((decide ((w64 ((w64 ((w64 (u1 - (w64 (u0.Add * u2)))).tdiv r169)).tdiv r259)) < 0)) && (decide ((w64 (x11.tdiv r214)) < 0))) = true →
                        ((w64 (x11.tdiv r214) ≠ 0) ∧
                        (((decide ((w64 ((w64 ((w64 (u1 - (w64 (u0.Add * u2)))).tdiv r169)).tdiv r259)) < (w64 ((boundsS u0).2.tdiv (w64 (x11.tdiv r214)))))) = true →
                          (K (0, 3))) ∧
                        ((decide ((w64 ((w64 ((w64 (u1 - (w64 (u0.Add * u2)))).tdiv r169)).tdiv r259)) < (w64 ((boundsS u0).2.tdiv (w64 (x11.tdiv r214)))))) = false →
                          ((((decide ((w64 ((w64 ((w64 ((w64 (u1 - (w64 (u0.Add * u2)))).tdiv r169)).tdiv r259)) * (w64 (x11.tdiv r214)))) < (boundsS u0).1)) || (decide ((w64 ((w64 ((w64 ((w64 (u1 - (w64 (u0.Add * u2)))).tdiv r169)).tdiv r259)) * (w64 (x11.tdiv r214)))) > (boundsS u0).2))) = true →
                            (K (0, 3))) ∧
                          (((decide ((w64 ((w64 ((w64 ((w64 (u1 - (w64 (u0.Add * u2)))).tdiv r169)).tdiv r259)) * (w64 (x11.tdiv r214)))) < (boundsS u0).1)) || (decide ((w64 ((w64 ((w64 ((w64 (u1 - (w64 (u0.Add * u2)))).tdiv r169)).tdiv r259)) * (w64 (x11.tdiv r214)))) > (boundsS u0).2))) = false →
                            (K (w64 ((w64 ((w64 ((w64 (u1 - (w64 (u0.Add * u2)))).tdiv r169)).tdiv r259)) * (w64 (x11.tdiv r214))), 0)))))))) ∧
                      (((decide ((w64 ((w64 ((w64 (u1 - (w64 (u0.Add * u2)))).tdiv r169)).tdiv r259)) < 0)) && (decide ((w64 (x11.tdiv r214)) < 0))) = false →
                        ((((decide ((w64 ((w64 ((w64 ((w64 (u1 - (w64 (u0.Add * u2)))).tdiv r169)).tdiv r259)) * (w64 (x11.tdiv r214)))) < (boundsS u0).1)) || (decide ((w64 ((w64 ((w64 ((w64 (u1 - (w64 (u0.Add * u2)))).tdiv r169)).tdiv r259)) * (w64 (x11.tdiv r214)))) > (boundsS u0).2))) = true →
                          (K (0, 3))) ∧
                        (((decide ((w64 ((w64 ((w64 ((w64 (u1 - (w64 (u0.Add * u2)))).tdiv r169)).tdiv r259)) * (w64 (x11.tdiv r214)))) < (boundsS u0).1)) || (decide ((w64 ((w64 ((w64 ((w64 (u1 - (w64 (u0.Add * u2)))).tdiv r169)).tdiv r259)) * (w64 (x11.tdiv r214)))) > (boundsS u0).2))) = false →
                          (K (w64 ((w64 ((w64 ((w64 (u1 - (w64 (u0.Add * u2)))).tdiv r169)).tdiv r259)) * (w64 (x11.tdiv r214))), 0)))))))))))) ∧
                (((decide ((w64 ((w64 ((w64 (u1 - (w64 (u0.Add * u2)))).tdiv r169)).tdiv r259)) < 0)) && (decide ((w64 (x11.tdiv r214)) > 0))) = false →
                  ((((decide ((w64 ((w64 ((w64 (u1 - (w64 (u0.Add * u2)))).tdiv r169)).tdiv r259)) > 0)) && (decide ((w64 (x11.tdiv r214)) < 0))) = true →
                    ((w64 (x11.tdiv r214) ≠ 0) ∧
                    (((decide ((w64 ((w64 ((w64 (u1 - (w64 (u0.Add * u2)))).tdiv r169)).tdiv r259)) > (w64 ((boundsS u0).1.tdiv (w64 (x11.tdiv r214)))))) = true →
                      (K (0, 3))) ∧
                    ((decide ((w64 ((w64 ((w64 (u1 - (w64 (u0.Add * u2)))).tdiv r169)).tdiv r259)) > (w64 ((boundsS u0).1.tdiv (w64 (x11.tdiv r214)))))) = false →
                      ((((decide ((w64 ((w64 ((w64 (u1 - (w64 (u0.Add * u2)))).tdiv r169)).tdiv r259)) < 0)) && (decide ((w64 (x11.tdiv r214)) < 0))) = true →
                        ((w64 (x11.tdiv r214) ≠ 0) ∧
                        (((decide ((w64 ((w64 ((w64 (u1 - (w64 (u0.Add * u2)))).tdiv r169)).tdiv r259)) < (w64 ((boundsS u0).2.tdiv (w64 (x11.tdiv r214)))))) = true →
                          (K (0, 3))) ∧
                        ((decide ((w64 ((w64 ((w64 (u1 - (w64 (u0.Add * u2)))).tdiv r169)).tdiv r259)) < (w64 ((boundsS u0).2.tdiv (w64 (x11.tdiv r214)))))) = false →
                          ((((decide ((w64 ((w64 ((w64 ((w64 (u1 - (w64 (u0.Add * u2)))).tdiv r169)).tdiv r259)) * (w64 (x11.tdiv r214)))) < (boundsS u0).1)) || (decide ((w64 ((w64 ((w64 ((w64 (u1 - (w64 (u0.Add * u2)))).tdiv r169)).tdiv r259)) * (w64 (x11.tdiv r214)))) > (boundsS u0).2))) = true →
                            (K (0, 3))) ∧
                          (((decide ((w64 ((w64 ((w64 ((w64 (u1 - (w64 (u0.Add * u2)))).tdiv r169)).tdiv r259)) * (w64 (x11.tdiv r214)))) < (boundsS u0).1)) || (decide ((w64 ((w64 ((w64 ((w64 (u1 - (w64 (u0.Add * u2)))).tdiv r169)).tdiv r259)) * (w64 (x11.tdiv r214)))) > (boundsS u0).2))) = false →
                            (K (w64 ((w64 ((w64 ((w64 (u1 - (w64 (u0.Add * u2)))).tdiv r169)).tdiv r259)) * (w64 (x11.tdiv r214))), 0)))))))) ∧
                      (((decide ((w64 ((w64 ((w64 (u1 - (w64 (u0.Add * u2)))).tdiv r169)).tdiv r259)) < 0)) && (decide ((w64 (x11.tdiv r214)) < 0))) = false →
                        ((((decide ((w64 ((w64 ((w64 ((w64 (u1 - (w64 (u0.Add * u2)))).tdiv r169)).tdiv r259)) * (w64 (x11.tdiv r214)))) < (boundsS u0).1)) || (decide ((w64 ((w64 ((w64 ((w64 (u1 - (w64 (u0.Add * u2)))).tdiv r169)).tdiv r259)) * (w64 (x11.tdiv r214)))) > (boundsS u0).2))) = true →
                          (K (0, 3))) ∧
                        (((decide ((w64 ((w64 ((w64 ((w64 (u1 - (w64 (u0.Add * u2)))).tdiv r169)).tdiv r259)) * (w64 (x11.tdiv r214)))) < (boundsS u0).1)) || (decide ((w64 ((w64 ((w64 ((w64 (u1 - (w64 (u0.Add * u2)))).tdiv r169)).tdiv r259)) * (w64 (x11.tdiv r214)))) > (boundsS u0).2))) = false →
                          (K (w64 ((w64 ((w64 ((w64 (u1 - (w64 (u0.Add * u2)))).tdiv r169)).tdiv r259)) * (w64 (x11.tdiv r214))), 0)))))))))) ∧
                  (((decide ((w64 ((w64 ((w64 (u1 - (w64 (u0.Add * u2)))).tdiv r169)).tdiv r259)) > 0)) && (decide ((w64 (x11.tdiv r214)) < 0))) = false →
                    ((((decide ((w64 ((w64 ((w64 (u1 - (w64 (u0.Add * u2)))).tdiv r169)).tdiv r259)) < 0)) && (decide ((w64 (x11.tdiv r214)) < 0))) = true →
                      ((w64 (x11.tdiv r214) ≠ 0) ∧
                      (((decide ((w64 ((w64 ((w64 (u1 - (w64 (u0.Add * u2)))).tdiv r169)).tdiv r259)) < (w64 ((boundsS u0).2.tdiv (w64 (x11.tdiv r214)))))) = true →
                        (K (0, 3))) ∧
                      ((decide ((w64 ((w64 ((w64 (u1 - (w64 (u0.Add * u2)))).tdiv r169)).tdiv r259)) < (w64 ((boundsS u0).2.tdiv (w64 (x11.tdiv r214)))))) = false →
                        ((((decide ((w64 ((w64 ((w64 ((w64 (u1 - (w64 (u0.Add * u2)))).tdiv r169)).tdiv r259)) * (w64 (x11.tdiv r214)))) < (boundsS u0).1)) || (decide ((w64 ((w64 ((w64 ((w64 (u1 - (w64 (u0.Add * u2)))).tdiv r169)).tdiv r259)) * (w64 (x11.tdiv r214)))) > (boundsS u0).2))) = true →
                          (K (0, 3))) ∧
                        (((decide ((w64 ((w64 ((w64 ((w64 (u1 - (w64 (u0.Add * u2)))).tdiv r169)).tdiv r259)) * (w64 (x11.tdiv r214)))) < (boundsS u0).1)) || (decide ((w64 ((w64 ((w64 ((w64 (u1 - (w64 (u0.Add * u2)))).tdiv r169)).tdiv r259)) * (w64 (x11.tdiv r214)))) > (boundsS u0).2))) = false →
                          (K (w64 ((w64 ((w64 ((w64 (u1 - (w64 (u0.Add * u2)))).tdiv r169)).tdiv r259)) * (w64 (x11.tdiv r214))), 0)))))))) ∧
                    (((decide ((w64 ((w64 ((w64 (u1 - (w64 (u0.Add * u2)))).tdiv r169)).tdiv r259)) < 0)) && (decide ((w64 (x11.tdiv r214)) < 0))) = false →
                      ((((decide ((w64 ((w64 ((w64 ((w64 (u1 - (w64 (u0.Add * u2)))).tdiv r169)).tdiv r259)) * (w64 (x11.tdiv r214)))) < (boundsS u0).1)) || (decide ((w64 ((w64 ((w64 ((w64 (u1 - (w64 (u0.Add * u2)))).tdiv r169)).tdiv r259)) * (w64 (x11.tdiv r214)))) > (boundsS u0).2))) = true →
                        (K (0, 3))) ∧
                      (((decide ((w64 ((w64 ((w64 ((w64 (u1 - (w64 (u0.Add * u2)))).tdiv r169)).tdiv r259)) * (w64 (x11.tdiv r214)))) < (boundsS u0).1)) || (decide ((w64 ((w64 ((w64 ((w64 (u1 - (w64 (u0.Add * u2)))).tdiv r169)).tdiv r259)) * (w64 (x11.tdiv r214)))) > (boundsS u0).2))) = false →
                        (K (w64 ((w64 ((w64 ((w64 (u1 - (w64 (u0.Add * u2)))).tdiv r169)).tdiv r259)) * (w64 (x11.tdiv r214))), 0)))))))))))))) ∧
            (((decide ((w64 ((w64 ((w64 (u1 - (w64 (u0.Add * u2)))).tdiv r169)).tdiv r259)) > 0)) && (decide ((w64 (x11.tdiv r214)) > 0))) = false →
              ((((decide ((w64 ((w64 ((w64 (u1 - (w64 (u0.Add * u2)))).tdiv r169)).tdiv r259)) < 0)) && (decide ((w64 (x11.tdiv r214)) > 0))) = true →
                ((w64 (x11.tdiv r214) ≠ 0) ∧
                (((decide ((w64 ((w64 ((w64 (u1 - (w64 (u0.Add * u2)))).tdiv r169)).tdiv r259)) < (w64 ((boundsS u0).1.tdiv (w64 (x11.tdiv r214)))))) = true →
                  (K (0, 3))) ∧
                ((decide ((w64 ((w64 ((w64 (u1 - (w64 (u0.Add * u2)))).tdiv r169)).tdiv r259)) < (w64 ((boundsS u0).1.tdiv (w64 (x11.tdiv r214)))))) = false →
                  ((((decide ((w64 ((w64 ((w64 (u1 - (w64 (u0.Add * u2)))).tdiv r169)).tdiv r259)) > 0)) && (decide ((w64 (x11.tdiv r214)) < 0))) = true →
                    ((w64 (x11.tdiv r214) ≠ 0) ∧
                    (((decide ((w64 ((w64 ((w64 (u1 - (w64 (u0.Add * u2)))).tdiv r169)).tdiv r259)) > (w64 ((boundsS u0).1.tdiv (w64 (x11.tdiv r214)))))) = true →
                      (K (0, 3))) ∧
                    ((decide ((w64 ((w64 ((w64 (u1 - (w64 (u0.Add * u2)))).tdiv r169)).tdiv r259)) > (w64 ((boundsS u0).1.tdiv (w64 (x11.tdiv r214)))))) = false →
                      ((((decide ((w64 ((w64 ((w64 (u1 - (w64 (u0.Add * u2)))).tdiv r169)).tdiv r259)) < 0)) && (decide ((w64 (x11.tdiv r214)) < 0))) = true →
                        ((w64 (x11.tdiv r214) ≠ 0) ∧
                        (((decide ((w64 ((w64 ((w64 (u1 - (w64 (u0.Add * u2)))).tdiv r169)).tdiv r259)) < (w64 ((boundsS u0).2.tdiv (w64 (x11.tdiv r214)))))) = true →
                          (K (0, 3))) ∧
                        ((decide ((w64 ((w64 ((w64 (u1 - (w64 (u0.Add * u2)))).tdiv r169)).tdiv r259)) < (w64 ((boundsS u0).2.tdiv (w64 (x11.tdiv r214)))))) = false →
                          ((((decide ((w64 ((w64 ((w64 ((w64 (u1 - (w64 (u0.Add * u2)))).tdiv r169)).tdiv r259)) * (w64 (x11.tdiv r214)))) < (boundsS u0).1)) || (decide ((w64 ((w64 ((w64 ((w64 (u1 - (w64 (u0.Add * u2)))).tdiv r169)).tdiv r259)) * (w64 (x11.tdiv r214)))) > (boundsS u0).2))) = true →
                            (K (0, 3))) ∧
                          (((decide ((w64 ((w64 ((w64 ((w64 (u1 - (w64 (u0.Add * u2)))).tdiv r169)).tdiv r259)) * (w64 (x11.tdiv r214)))) < (boundsS u0).1)) || (decide ((w64 ((w64 ((w64 ((w64 (u1 - (w64 (u0.Add * u2)))).tdiv r169)).tdiv r259)) * (w64 (x11.tdiv r214)))) > (boundsS u0).2))) = false →
                            (K (w64 ((w64 ((w64 ((w64 (u1 - (w64 (u0.Add * u2)))).tdiv r169)).tdiv r259)) * (w64 (x11.tdiv r214))), 0)))))))) ∧
                      (((decide ((w64 ((w64 ((w64 (u1 - (w64 (u0.Add * u2)))).tdiv r169)).tdiv r259)) < 0)) && (decide ((w64 (x11.tdiv r214)) < 0))) = false →
                        ((((decide ((w64 ((w64 ((w64 ((w64 (u1 - (w64 (u0.Add * u2)))).tdiv r169)).tdiv r259)) * (w64 (x11.tdiv r214)))) < (boundsS u0).1)) || (decide ((w64 ((w64 ((w64 ((w64 (u1 - (w64 (u0.Add * u2)))).tdiv r169)).tdiv r259)) * (w64 (x11.tdiv r214)))) > (boundsS u0).2))) = true →
                          (K (0, 3))) ∧
                        (((decide ((w64 ((w64 ((w64 ((w64 (u1 - (w64 (u0.Add * u2)))).tdiv r169)).tdiv r259)) * (w64 (x11.tdiv r214)))) < (boundsS u0).1)) || (decide ((w64 ((w64 ((w64 ((w64 (u1 - (w64 (u0.Add * u2)))).tdiv r169)).tdiv r259)) * (w64 (x11.tdiv r214)))) > (boundsS u0).2))) = false →
                          (K (w64 ((w64 ((w64 ((w64 (u1 - (w64 (u0.Add * u2)))).tdiv r169)).tdiv r259)) * (w64 (x11.tdiv r214))), 0)))))))))) ∧
                  (((decide ((w64 ((w64 ((w64 (u1 - (w64 (u0.Add * u2)))).tdiv r169)).tdiv r259)) > 0)) && (decide ((w64 (x11.tdiv r214)) < 0))) = false →
                    ((((decide ((w64 ((w64 ((w64 (u1 - (w64 (u0.Add * u2)))).tdiv r169)).tdiv r259)) < 0)) && (decide ((w64 (x11.tdiv r214)) < 0))) = true →
                      ((w64 (x11.tdiv r214) ≠ 0) ∧
                      (((decide ((w64 ((w64 ((w64 (u1 - (w64 (u0.Add * u2)))).tdiv r169)).tdiv r259)) < (w64 ((boundsS u0).2.tdiv (w64 (x11.tdiv r214)))))) = true →
                        (K (0, 3))) ∧
                      ((decide ((w64 ((w64 ((w64 (u1 - (w64 (u0.Add * u2)))).tdiv r169)).tdiv r259)) < (w64 ((boundsS u0).2.tdiv (w64 (x11.tdiv r214)))))) = false →
                        ((((decide ((w64 ((w64 ((w64 ((w64 (u1 - (w64 (u0.Add * u2)))).tdiv r169)).tdiv r259)) * (w64 (x11.tdiv r214)))) < (boundsS u0).1)) || (decide ((w64 ((w64 ((w64 ((w64 (u1 - (w64 (u0.Add * u2)))).tdiv r169)).tdiv r259)) * (w64 (x11.tdiv r214)))) > (boundsS u0).2))) = true →
                          (K (0, 3))) ∧
                        (((decide ((w64 ((w64 ((w64 ((w64 (u1 - (w64 (u0.Add * u2)))).tdiv r169)).tdiv r259)) * (w64 (x11.tdiv r214)))) < (boundsS u0).1)) || (decide ((w64 ((w64 ((w64 ((w64 (u1 - (w64 (u0.Add * u2)))).tdiv r169)).tdiv r259)) * (w64 (x11.tdiv r214)))) > (boundsS u0).2))) = false →
                          (K (w64 ((w64 ((w64 ((w64 (u1 - (w64 (u0.Add * u2)))).tdiv r169)).tdiv r259)) * (w64 (x11.tdiv r214))), 0)))))))) ∧
                    (((decide ((w64 ((w64 ((w64 (u1 - (w64 (u0.Add * u2)))).tdiv r169)).tdiv r259)) < 0)) && (decide ((w64 (x11.tdiv r214)) < 0))) = false →
                      ((((decide ((w64 ((w64 ((w64 ((w64 (u1 - (w64 (u0.Add * u2)))).tdiv r169)).tdiv r259)) * (w64 (x11.tdiv r214)))) < (boundsS u0).1)) || (decide ((w64 ((w64 ((w64 ((w64 (u1 - (w64 (u0.Add * u2)))).tdiv r169)).tdiv r259)) * (w64 (x11.tdiv r214)))) > (boundsS u0).2))) = true →
                        (K (0, 3))) ∧
                      (((decide ((w64 ((w64 ((w64 ((w64 (u1 - (w64 (u0.Add * u2)))).tdiv r169)).tdiv r259)) * (w64 (x11.tdiv r214)))) < (boundsS u0).1)) || (decide ((w64 ((w64 ((w64 ((w64 (u1 - (w64 (u0.Add * u2)))).tdiv r169)).tdiv r259)) * (w64 (x11.tdiv r214)))) > (boundsS u0).2))) = false →
                        (K (w64 ((w64 ((w64 ((w64 (u1 - (w64 (u0.Add * u2)))).tdiv r169)).tdiv r259)) * (w64 (x11.tdiv r214))), 0)))))))))))) ∧
              (((decide ((w64 ((w64 ((w64 (u1 - (w64 (u0.Add * u2)))).tdiv r169)).tdiv r259)) < 0)) && (decide ((w64 (x11.tdiv r214)) > 0))) = false →
                ((((decide ((w64 ((w64 ((w64 (u1 - (w64 (u0.Add * u2)))).tdiv r169)).tdiv r259)) > 0)) && (decide ((w64 (x11.tdiv r214)) < 0))) = true →
                  ((w64 (x11.tdiv r214) ≠ 0) ∧
                  (((decide ((w64 ((w64 ((w64 (u1 - (w64 (u0.Add * u2)))).tdiv r169)).tdiv r259)) > (w64 ((boundsS u0).1.tdiv (w64 (x11.tdiv r214)))))) = true →
                    (K (0, 3))) ∧
                  ((decide ((w64 ((w64 ((w64 (u1 - (w64 (u0.Add * u2)))).tdiv r169)).tdiv r259)) > (w64 ((boundsS u0).1.tdiv (w64 (x11.tdiv r214)))))) = false →
                    ((((decide ((w64 ((w64 ((w64 (u1 - (w64 (u0.Add * u2)))).tdiv r169)).tdiv r259)) < 0)) && (decide ((w64 (x11.tdiv r214)) < 0))) = true →
                      ((w64 (x11.tdiv r214) ≠ 0) ∧
                      (((decide ((w64 ((w64 ((w64 (u1 - (w64 (u0.Add * u2)))).tdiv r169)).tdiv r259)) < (w64 ((boundsS u0).2.tdiv (w64 (x11.tdiv r214)))))) = true →
                        (K (0, 3))) ∧
                      ((decide ((w64 ((w64 ((w64 (u1 - (w64 (u0.Add * u2)))).tdiv r169)).tdiv r259)) < (w64 ((boundsS u0).2.tdiv (w64 (x11.tdiv r214)))))) = false →
                        ((((decide ((w64 ((w64 ((w64 ((w64 (u1 - (w64 (u0.Add * u2)))).tdiv r169)).tdiv r259)) * (w64 (x11.tdiv r214)))) < (boundsS u0).1)) || (decide ((w64 ((w64 ((w64 ((w64 (u1 - (w64 (u0.Add * u2)))).tdiv r169)).tdiv r259)) * (w64 (x11.tdiv r214)))) > (boundsS u0).2))) = true →
                          (K (0, 3))) ∧
                        (((decide ((w64 ((w64 ((w64 ((w64 (u1 - (w64 (u0.Add * u2)))).tdiv r169)).tdiv r259)) * (w64 (x11.tdiv r214)))) < (boundsS u0).1)) || (decide ((w64 ((w64 ((w64 ((w64 (u1 - (w64 (u0.Add * u2)))).tdiv r169)).tdiv r259)) * (w64 (x11.tdiv r214)))) > (boundsS u0).2))) = false →
                          (K (w64 ((w64 ((w64 ((w64 (u1 - (w64 (u0.Add * u2)))).tdiv r169)).tdiv r259)) * (w64 (x11.tdiv r214))), 0)))))))) ∧
                    (((decide ((w64 ((w64 ((w64 (u1 - (w64 (u0.Add * u2)))).tdiv r169)).tdiv r259)) < 0)) && (decide ((w64 (x11.tdiv r214)) < 0))) = false →
                      ((((decide ((w64 ((w64 ((w64 ((w64 (u1 - (w64 (u0.Add * u2)))).tdiv r169)).tdiv r259)) * (w64 (x11.tdiv r214)))) < (boundsS u0).1)) || (decide ((w64 ((w64 ((w64 ((w64 (u1 - (w64 (u0.Add * u2)))).tdiv r169)).tdiv r259)) * (w64 (x11.tdiv r214)))) > (boundsS u0).2))) = true →
                        (K (0, 3))) ∧
                      (((decide ((w64 ((w64 ((w64 ((w64 (u1 - (w64 (u0.Add * u2)))).tdiv r169)).tdiv r259)) * (w64 (x11.tdiv r214)))) < (boundsS u0).1)) || (decide ((w64 ((w64 ((w64 ((w64 (u1 - (w64 (u0.Add * u2)))).tdiv r169)).tdiv r259)) * (w64 (x11.tdiv r214)))) > (boundsS u0).2))) = false →
                        (K (w64 ((w64 ((w64 ((w64 (u1 - (w64 (u0.Add * u2)))).tdiv r169)).tdiv r259)) * (w64 (x11.tdiv r214))), 0)))))))))) ∧
                (((decide ((w64 ((w64 ((w64 (u1 - (w64 (u0.Add * u2)))).tdiv r169)).tdiv r259)) > 0)) && (decide ((w64 (x11.tdiv r214)) < 0))) = false →
                  ((((decide ((w64 ((w64 ((w64 (u1 - (w64 (u0.Add * u2)))).tdiv r169)).tdiv r259)) < 0)) && (decide ((w64 (x11.tdiv r214)) < 0))) = true →
                    ((w64 (x11.tdiv r214) ≠ 0) ∧
                    (((decide ((w64 ((w64 ((w64 (u1 - (w64 (u0.Add * u2)))).tdiv r169)).tdiv r259)) < (w64 ((boundsS u0).2.tdiv (w64 (x11.tdiv r214)))))) = true →
                      (K (0, 3))) ∧
                    ((decide ((w64 ((w64 ((w64 (u1 - (w64 (u0.Add * u2)))).tdiv r169)).tdiv r259)) < (w64 ((boundsS u0).2.tdiv (w64 (x11.tdiv r214)))))) = false →
                      ((((decide ((w64 ((w64 ((w64 ((w64 (u1 - (w64 (u0.Add * u2)))).tdiv r169)).tdiv r259)) * (w64 (x11.tdiv r214)))) < (boundsS u0).1)) || (decide ((w64 ((w64 ((w64 ((w64 (u1 - (w64 (u0.Add * u2)))).tdiv r169)).tdiv r259)) * (w64 (x11.tdiv r214)))) > (boundsS u0).2))) = true →
                        (K (0, 3))) ∧
                      (((decide ((w64 ((w64 ((w64 ((w64 (u1 - (w64 (u0.Add * u2)))).tdiv r169)).tdiv r259)) * (w64 (x11.tdiv r214)))) < (boundsS u0).1)) || (decide ((w64 ((w64 ((w64 ((w64 (u1 - (w64 (u0.Add * u2)))).tdiv r169)).tdiv r259)) * (w64 (x11.tdiv r214)))) > (boundsS u0).2))) = false →
                        (K (w64 ((w64 ((w64 ((w64 (u1 - (w64 (u0.Add * u2)))).tdiv r169)).tdiv r259)) * (w64 (x11.tdiv r214))), 0)))))))) ∧
                  (((decide ((w64 ((w64 ((w64 (u1 - (w64 (u0.Add * u2)))).tdiv r169)).tdiv r259)) < 0)) && (decide ((w64 (x11.tdiv r214)) < 0))) = false →
                    ((((decide ((w64 ((w64 ((w64 ((w64 (u1 - (w64 (u0.Add * u2)))).tdiv r169)).tdiv r259)) * (w64 (x11.tdiv r214)))) < (boundsS u0).1)) || (decide ((w64 ((w64 ((w64 ((w64 (u1 - (w64 (u0.Add * u2)))).tdiv r169)).tdiv r259)) * (w64 (x11.tdiv r214)))) > (boundsS u0).2))) = true →
                      (K (0, 3))) ∧
                    (((decide ((w64 ((w64 ((w64 ((w64 (u1 - (w64 (u0.Add * u2)))).tdiv r169)).tdiv r259)) * (w64 (x11.tdiv r214)))) < (boundsS u0).1)) || (decide ((w64 ((w64 ((w64 ((w64 (u1 - (w64 (u0.Add * u2)))).tdiv r169)).tdiv r259)) * (w64 (x11.tdiv r214)))) > (boundsS u0).2))) = false →
                      (K (w64 ((w64 ((w64 ((w64 (u1 - (w64 (u0.Add * u2)))).tdiv r169)).tdiv r259)) * (w64 (x11.tdiv r214))), 0)))))))))))))))))))))))))))))))))

/-! Pure proofs: no program in sight. -/
theorem bounds_small (s : Signal) (h : 1 ≤ s.Size ∧ s.Size ≤ 40) : (-1099511627776 ≤ lowS s ∧ lowS s ≤ 0) ∧ 0 ≤ highS s ∧ highS s ≤ 1099511627776 := by
  have b : ∀ k : Nat, k ≤ 40 → 1 ≤ (2 : Int) ^ k ∧ (2 : Int) ^ k ≤ 1099511627776 := fun k hk => by
    have h1 : 1 ≤ 2 ^ k ∧ 2 ^ k ≤ 1099511627776 := ⟨Nat.one_le_two_pow, Nat.pow_le_pow_right (by omega : 0 < 2) hk⟩
    have c : ((2 ^ k : Nat) : Int) = (2 : Int) ^ k := by norm_cast
    rw [← c]
    omega
  have b1 := b (s.Size.toNat - 1) (by omega)
  have b2 := b s.Size.toNat (by omega)
  unfold lowS highS
  split <;> omega
theorem nzpp {v a : Int} (c : ((decide (v > 0)) && (decide (a > 0))) = true) : a ≠ 0 := by rw [Bool.and_eq_true, decide_eq_true_eq, decide_eq_true_eq] at c; omega
theorem nznp {v a : Int} (c : ((decide (v < 0)) && (decide (a > 0))) = true) : a ≠ 0 := by rw [Bool.and_eq_true, decide_eq_true_eq, decide_eq_true_eq] at c; omega
theorem nzpn {v a : Int} (c : ((decide (v > 0)) && (decide (a < 0))) = true) : a ≠ 0 := by rw [Bool.and_eq_true, decide_eq_true_eq, decide_eq_true_eq] at c; omega
theorem nznn {v a : Int} (c : ((decide (v < 0)) && (decide (a < 0))) = true) : a ≠ 0 := by rw [Bool.and_eq_true, decide_eq_true_eq, decide_eq_true_eq] at c; omega
theorem tdiv_nz {a g : Int} (ha : a ≠ 0) (hd : g ∣ a) : a.tdiv g ≠ 0 := by
  intro h
  have := Int.tdiv_mul_cancel hd
  rw [h, Int.zero_mul] at this
  exact ha this.symm
set_option maxHeartbeats 4000000 in
theorem sraw_ok (s : Signal) (num den : Int) : sraw_vc s num den (fun r => r = rawS s num den) := by
  refine ⟨fun h => ?_, fun h => ⟨fun h1 => ?_, fun h1 => ?_⟩⟩
  · have h : checkS s 64 ≠ 0 := by simpa using h
    unfold rawS
    rw [if_pos h]
  all_goals
    have h : checkS s 64 = 0 := by simpa using h
  · unfold rawS
    rw [if_neg (by rw [h]; decide), if_pos (by simpa [or_assoc] using h1)]
  have h1 : ¬ (den < 1 ∨ 1000000 < den ∨ 1099511627776 < num ∨ num < -1099511627776) := by simp only [Bool.or_eq_false_iff, decide_eq_false_iff_not] at h1; omega
  have hR : ∀ (x : Int) (ok : Bool), rawN s.Mul s.Div s.Add num den = (x, ok) → rawS s num den = if ok = false then (0, 4) else if x < lowS s ∨ highS s < x then (0, 3) else (x, 0) := by
    intro x ok hx
    unfold rawS
    rw [if_neg (by rw [h]; decide), if_neg h1, hx]
  have hN : rawN s.Mul s.Div s.Add num den = rawN s.Mul s.Div s.Add num den := rfl
  conv at hN => rhs; unfold rawN
  dsimp only at hN
  obtain ⟨⟨_, _, hs1, hs2⟩, ⟨f1, f2, f3, f4, f5, f6, f7⟩, _, _⟩ := check_zero h
  obtain ⟨⟨lo1, lo2⟩, hi1, hi2⟩ := bounds_small s ⟨hs1, hs2⟩
  have hA := mul_abs (a := s.Add) (b := den) (A := 1000000) (B := 1000000) ⟨f6, f7⟩ ⟨by omega, by omega⟩
  have e1 : w64 (s.Add * den) = s.Add * den := w64_eq _ (by omega)
  have e2 : w64 (num - s.Add * den) = num - s.Add * den := w64_eq _ (by omega)
  rw [e1, e2]
  have hup : -2200000000000 ≤ num - s.Add * den ∧ num - s.Add * den ≤ 2200000000000 := by omega
  generalize num - s.Add * den = up at *
  refine sgcd_mono (fun g hg => ?_) (sgcd_ok s.Div s.Mul ⟨by omega, by omega⟩)
  rw [← hg] at hN
  have g0 : g ≠ 0 := by have := ngcd_pos (a := s.Div) f1; omega
  have gm : g ∣ s.Mul := by rw [hg]; exact ngcd_right _ _
  have t1 := tdiv_abs s.Div g
  have t2 := tdiv_abs s.Mul g
  have n2 := tdiv_nz f1 gm
  rw [w64_eq (s.Div.tdiv g) (by omega), w64_eq (s.Mul.tdiv g) (by omega), w64_eq (0 - s.Div.tdiv g) (by omega), w64_eq (0 - s.Mul.tdiv g) (by omega), Int.zero_sub, Int.zero_sub]
  refine ⟨g0, g0, fun x y => x = (if s.Mul.tdiv g < 0 then -(s.Div.tdiv g) else s.Div.tdiv g) ∧ y = (if s.Mul.tdiv g < 0 then -(s.Mul.tdiv g) else s.Mul.tdiv g), ⟨fun c => ?_, fun c => ?_⟩, ?_⟩
  · have c := of_decide_eq_true c
    rw [if_pos c, if_pos c]
    exact ⟨rfl, rfl⟩
  · have c := of_decide_eq_false c
    rw [if_neg c, if_neg c]
    exact ⟨rfl, rfl⟩
  rintro x y ⟨hx, hy⟩
  rw [← hx, ← hy] at hN
  have bx : -1000000 ≤ x ∧ x ≤ 1000000 := by rw [hx]; split <;> omega
  have by2 : -1000000 ≤ y ∧ y ≤ 1000000 := by rw [hy]; split <;> omega
  have y0 : y ≠ 0 := by rw [hy]; split <;> omega
  clear hx hy
  refine sgcd_mono (fun k hk => ?_) (sgcd_ok up den ⟨by omega, by omega⟩)
  rw [← hk] at hN
  have k0 : k ≠ 0 := by have := ngcd_pos (a := up) (b := den) (by omega); omega
  have kd : k ∣ den := by rw [hk]; exact ngcd_right _ _
  have t3 := tdiv_abs up k
  have t4 := tdiv_abs den k
  have n4 := tdiv_nz (by omega : den ≠ 0) kd
  rw [w64_eq (up.tdiv k) (by omega), w64_eq (den.tdiv k) (by omega)]
  clear hk
  generalize up.tdiv k = up1 at *
  generalize den.tdiv k = den1 at *
  refine ⟨k0, k0, ?_⟩
  refine sgcd_mono (fun l hl => ?_) (sgcd_ok x den1 ⟨by omega, by omega⟩)
  rw [← hl] at hN
  have l0 : l ≠ 0 := by have := ngcd_pos (a := x) n4; omega
  refine ⟨l0, l0, ?_⟩
  refine sgcd_mono (fun m hm => ?_) (sgcd_ok up1 y ⟨by omega, by omega⟩)
  rw [← hm] at hN
  have m0 : m ≠ 0 := by have := ngcd_pos (a := up1) y0; omega
  refine ⟨m0, m0, ?_⟩
  have t5 := tdiv_abs den1 l
  have t6 := tdiv_abs up1 m
  have t7 := tdiv_abs x l
  have t8 := tdiv_abs y m
  rw [w64_eq (den1.tdiv l) (by omega), w64_eq (up1.tdiv m) (by omega), w64_eq (x.tdiv l) (by omega), w64_eq (y.tdiv m) (by omega)]
  have bv2 : -2200000000000 ≤ up1.tdiv m ∧ up1.tdiv m ≤ 2200000000000 := by omega
  have ba2 : -1000000 ≤ x.tdiv l ∧ x.tdiv l ≤ 1000000 := by omega
  clear t3 t4 t5 t6 t7 t8 hl hm
  generalize den1.tdiv l = den2 at *
  generalize y.tdiv m = b1 at *
  generalize up1.tdiv m = v at *
  generalize x.tdiv l = a at *
  replace hR := hR _ _ hN
  clear hN
  refine ⟨fun c => ?_, fun c => ⟨⟨hs1, hs2⟩, ?_⟩⟩
  · rw [hR, if_pos]
    rw [Bool.or_eq_true, bne_iff_ne, bne_iff_ne] at c
    rw [Bool.and_eq_false_iff, beq_eq_false_iff_ne, beq_eq_false_iff_ne]
    exact c
  rw [if_neg (by rw [Bool.or_eq_false_iff, bne_eq_false_iff_eq, bne_eq_false_iff_eq] at c; rw [c.1, c.2]; decide)] at hR
  have hva := mul_abs bv2 ba2
  have eva : w64 (v * a) = v * a := w64_eq _ (by omega)
  have q1 := tdiv_abs (highS s) a
  have q2 := tdiv_abs (lowS s) a
  have eh : w64 ((boundsS s).2.tdiv a) = (highS s).tdiv a := w64_eq _ (by show _ ≤ (highS s).tdiv a ∧ (highS s).tdiv a ≤ _; omega)
  have el : w64 ((boundsS s).1.tdiv a) = (lowS s).tdiv a := w64_eq _ (by show _ ≤ (lowS s).tdiv a ∧ (lowS s).tdiv a ≤ _; omega)
  rw [eva, eh, el]
  have hout : ∀ hc : (0 < v ∧ 0 < a ∧ (highS s).tdiv a < v) ∨ (v < 0 ∧ 0 < a ∧ v < (lowS s).tdiv a) ∨ (0 < v ∧ a < 0 ∧ (lowS s).tdiv a < v) ∨ (v < 0 ∧ a < 0 ∧ v < (highS s).tdiv a), ((0 : Int), (3 : Int)) = rawS s num den := by
    intro hc
    have := raw_range lo2 hi1 hc
    rw [hR, if_pos (by omega)]
  have o1 : ((decide (v > 0)) && (decide (a > 0))) = true → (decide (v > (highS s).tdiv a)) = true → ((0 : Int), (3 : Int)) = rawS s num den := by
    intro c d
    rw [Bool.and_eq_true, decide_eq_true_eq, decide_eq_true_eq] at c
    exact hout (.inl ⟨c.1, c.2, of_decide_eq_true d⟩)
  have o2 : ((decide (v < 0)) && (decide (a > 0))) = true → (decide (v < (lowS s).tdiv a)) = true → ((0 : Int), (3 : Int)) = rawS s num den := by
    intro c d
    rw [Bool.and_eq_true, decide_eq_true_eq, decide_eq_true_eq] at c
    exact hout (.inr (.inl ⟨c.1, c.2, of_decide_eq_true d⟩))
  have o3 : ((decide (v > 0)) && (decide (a < 0))) = true → (decide (v > (lowS s).tdiv a)) = true → ((0 : Int), (3 : Int)) = rawS s num den := by
    intro c d
    rw [Bool.and_eq_true, decide_eq_true_eq, decide_eq_true_eq] at c
    exact hout (.inr (.inr (.inl ⟨c.1, c.2, of_decide_eq_true d⟩)))
  have o4 : ((decide (v < 0)) && (decide (a < 0))) = true → (decide (v < (highS s).tdiv a)) = true → ((0 : Int), (3 : Int)) = rawS s num den := by
    intro c d
    rw [Bool.and_eq_true, decide_eq_true_eq, decide_eq_true_eq] at c
    exact hout (.inr (.inr (.inr ⟨c.1, c.2, of_decide_eq_true d⟩)))
  have hfin : ((((decide (v * a < (boundsS s).1)) || (decide (v * a > (boundsS s).2))) = true → ((0 : Int), (3 : Int)) = rawS s num den) ∧ (((decide (v * a < (boundsS s).1)) || (decide (v * a > (boundsS s).2))) = false → (v * a, (0 : Int)) = rawS s num den)) := by
    refine ⟨fun c => ?_, fun c => ?_⟩
    · rw [Bool.or_eq_true, decide_eq_true_eq, decide_eq_true_eq] at c
      have c : v * a < lowS s ∨ highS s < v * a := c
      rw [hR, if_pos c]
    · rw [Bool.or_eq_false_iff, decide_eq_false_iff_not, decide_eq_false_iff_not] at c
      have c1 : ¬ v * a < lowS s := c.1
      have c2 : ¬ highS s < v * a := c.2
      rw [hR, if_neg (by rintro (hh | hh); exact c1 hh; exact c2 hh)]
  exact ⟨fun c => ⟨nzpp c, fun d => o1 c d, fun _ => ⟨fun c => ⟨nznp c, fun d => o2 c d, fun _ => ⟨fun c => ⟨nzpn c, fun d => o3 c d, fun _ => ⟨fun c => ⟨nznn c, fun d => o4 c d, fun _ => hfin⟩, fun _ => hfin⟩⟩, fun _ => ⟨fun c => ⟨nznn c, fun d => o4 c d, fun _ => hfin⟩, fun _ => hfin⟩⟩⟩, fun _ => ⟨fun c => ⟨nzpn c, fun d => o3 c d, fun _ => ⟨fun c => ⟨nznn c, fun d => o4 c d, fun _ => hfin⟩, fun _ => hfin⟩⟩, fun _ => ⟨fun c => ⟨nznn c, fun d => o4 c d, fun _ => hfin⟩, fun _ => hfin⟩⟩⟩⟩, fun _ => ⟨fun c => ⟨nznp c, fun d => o2 c d, fun _ => ⟨fun c => ⟨nzpn c, fun d => o3 c d, fun _ => ⟨fun c => ⟨nznn c, fun d => o4 c d, fun _ => hfin⟩, fun _ => hfin⟩⟩, fun _ => ⟨fun c => ⟨nznn c, fun d => o4 c d, fun _ => hfin⟩, fun _ => hfin⟩⟩⟩, fun _ => ⟨fun c => ⟨nzpn c, fun d => o3 c d, fun _ => ⟨fun c => ⟨nznn c, fun d => o4 c d, fun _ => hfin⟩, fun _ => hfin⟩⟩, fun _ => ⟨fun c => ⟨nznn c, fun d => o4 c d, fun _ => hfin⟩, fun _ => hfin⟩⟩⟩⟩

end Go.Proofs.Ytdndfbamhnchfaa
set_option linter.unusedVariables false
set_option linter.unusedSimpArgs false
namespace Go.Proofs.Ytdndfbamhnchfaa
open Go.Sy Go.RowKit
def iisnan_vc (u0 : Int) (K : Bool → Prop) : Prop :=
  (K (u0 != u0))
def iisnan (u0 : Int) : Bool :=
  u0 != u0
theorem iisnan_ok (u0 : Int) : iisnan_vc u0 (fun r => r = iisnan u0) := (by rfl)

def swrite_vc (u0 : Signal) (u1 : List Int) (u2 : Int) (u3 : Int) (K : ((List Int) × Int) → Prop) : Prop :=
  (u1.length ≤ 140737488355328 →
    ((((checkS u0 (u1.length : Int)) != 0) = true →
      (K (([] : List Int), (checkS u0 (u1.length : Int))))) ∧
    (((checkS u0 (u1.length : Int)) != 0) = false →
      ((((rawS u0 u2 u3).2 != 0) = true →
        (K (([] : List Int), (rawS u0 u2 u3).2))) ∧
      (((rawS u0 u2 u3).2 != 0) = false →
        ((u1.length ≤ 140737488355328) ∧
        ((bcloneS u1).length ≤ 140737488355328 →
        ((inD u0 (bcloneS u1)) ∧
        ((putS u0 (bcloneS u1) (rawS u0 u2 u3).1).length ≤ 140737488355328 →
        (K ((putS u0 (bcloneS u1) (rawS u0 u2 u3).1), 0)))))))))))

def sread_vc (u0 : Signal) (u1 : List Int) (K : (Int × Reading × Int) → Prop) : Prop :=
  (u1.length ≤ 140737488355328 →
    ((((checkS u0 (u1.length : Int)) != 0) = true →
      (K (0, (⟨[], 0, 0⟩ : Reading), (checkS u0 (u1.length : Int))))) ∧
    (((checkS u0 (u1.length : Int)) != 0) = false →
      ((inD u0 u1) ∧
      ((factS u0 ∧ -1099511627776 ≤ (getS u0 u1) ∧ (getS u0 u1) ≤ 1099511627776) ∧
      (K ((getS u0 u1), (meanS u0 (getS u0 u1)), 0)))))))

/-! Pure proofs: no program in sight. -/
theorem re3m {P : Program} {n : Nat} {β : List Bool} {L : List En} {a : Act} {w : World} (hF : Fr n β L a) {fn : Func} {p t u : Tmp} {ty : TypeId} {ad : Addr} (h : fn.results = #[.tmp t, .cell p ty, .tmp u]) {v x y : Value} (hp : ev L [] a (.tmp p) = .pointer (some ad)) (hl : (loadVar ty ad).run P w = .ok v w) (hx : ev L [] a (.tmp t) = x) (hy : ev L [] a (.tmp u) = y) :
    (results fn a.tmps).run P w = .ok (.tuple #[x, v, y]) w := by
  rw [ev_eq hF (g := []) rfl] at hp hx hy; subst hx; subst hy
  simp only [Act.eval, Array.getD_eq_getD_getElem?] at hp
  simp [results, h, hp, asAddr, hl, Act.eval]
theorem inD_of {s : Signal} {d : List Int} (hd : isBytes d) (h : checkS s d.length = 0) : inD s d := by
  obtain ⟨h1, h2, h3, h4⟩ := check_zero h
  exact ⟨⟨⟨h3.1, by omega⟩, h1.2.2.1, h1.2.2.2⟩, hd, fun p hp => by have := h4 p hp; omega⟩
theorem get_bound {s : Signal} {d : List Int} (h : 1 ≤ s.Size ∧ s.Size ≤ 40) : -1099511627776 ≤ getS s d ∧ getS s d ≤ 1099511627776 := by
  have hv := vb_lt ((plS s).map (bitat d))
  rw [List.length_map, plS_len] at hv
  have hb : 2 ^ s.Size.toNat ≤ 1099511627776 := Nat.pow_le_pow_right (by omega : 0 < 2) (by omega : s.Size.toNat ≤ 40)
  have c : ((2 ^ s.Size.toNat : Nat) : Int) = (2 : Int) ^ s.Size.toNat := by norm_cast
  unfold getS sgn
  rw [← c]
  split <;> omega
theorem swrite_ok (s : Signal) (d : List Int) (num den : Int) (hd : isBytes d) : swrite_vc s d num den (fun r => r = swriteS s d num den) := by
  intro hl
  unfold swriteS
  refine ⟨fun h => ?_, fun h => ⟨fun h1 => ?_, fun h1 => ?_⟩⟩
  · rw [if_pos (by simpa using h)]
  · rw [if_neg (by simpa using h), if_pos (by simpa using h1)]
  · rw [if_neg (by simpa using h), if_neg (by simpa using h1)]
    have h0 : checkS s d.length = 0 := by simpa using h
    exact ⟨hl, fun _ => ⟨inD_of hd h0, fun _ => rfl⟩⟩
theorem sread_ok (s : Signal) (d : List Int) (hd : isBytes d) : sread_vc s d (fun r => r = sreadS s d) := by
  intro hl
  unfold sreadS
  refine ⟨fun h => ?_, fun h => ?_⟩
  · rw [if_pos (by simpa using h)]
  · have h0 : checkS s d.length = 0 := by simpa using h
    obtain ⟨h1, h2, _⟩ := check_zero h0
    have hb := get_bound (s := s) (d := d) h1.2.2
    rw [if_neg (by simpa using h)]
    exact ⟨inD_of hd h0, ⟨h2, hb.1, hb.2⟩, rfl⟩

end Go.Proofs.Ytdndfbamhnchfaa
set_option linter.unusedVariables false
set_option linter.unusedSimpArgs false
namespace Go.Proofs.Ytdndfbamhnchfaa
open Go.Sy Go.RowKit
def icmp_vc (u0 : Int) (u1 : Int) (K : Int → Prop) : Prop :=
  (((iisnan u0) = true →
      (((iisnan u1) = true →
        (K 0)) ∧
      ((iisnan u1) = false →
        (K (-1))))) ∧
    ((iisnan u0) = false →
      (((iisnan u1) = true →
        (K 1)) ∧
      ((iisnan u1) = false →
        (((decide (u0 < u1)) = true →
          (K (-1))) ∧
        ((decide (u0 < u1)) = false →
          (((decide (u0 > u1)) = true →
            (K 1)) ∧
          ((decide (u0 > u1)) = false →
            (K 0)))))))))

/-! Pure proofs: no program in sight. -/
def isortS (l : List Int) : List Int := l.mergeSort fun x y => decide (x ≤ y)
theorem isort_len (l : List Int) : (isortS l).length = l.length := List.length_mergeSort l
def icmpS (a b : Int) : Int := if a < b then -1 else if a > b then 1 else 0
theorem icmp_ok (a b : Int) : icmp_vc a b (fun r => r = icmpS a b) := by
  have hn : ∀ x : Int, iisnan x = false := fun x => by unfold iisnan; simp
  unfold icmp_vc icmpS
  rw [hn, hn]
  refine ⟨fun h => (by cases h), fun _ => ⟨fun h => (by cases h), fun _ => ⟨fun h => ?_, fun h => ⟨fun h2 => ?_, fun h2 => ?_⟩⟩⟩⟩
  · rw [if_pos (of_decide_eq_true h)]
  · rw [if_neg (of_decide_eq_false h), if_pos (of_decide_eq_true h2)]
  · rw [if_neg (of_decide_eq_false h), if_neg (of_decide_eq_false h2)]

end Go.Proofs.Ytdndfbamhnchfaa
set_option linter.unusedVariables false
set_option linter.unusedSimpArgs false
namespace Go.Proofs.Ytdndfbamhnchfaa
open Go.Sy Go.RowKit
def sover_vc (u0 : Signal) (u1 : Signal) (K : Bool → Prop) : Prop :=
  (((((checkS u0 64) != 0) || ((checkS u1 64) != 0)) = true →
      (K false)) ∧
    ((((checkS u0 64) != 0) || ((checkS u1 64) != 0)) = false →
      (((0 ≤ u0.Start ∧ u0.Start ≤ 512) ∧ 1 ≤ u0.Size ∧ u0.Size ≤ 40) ∧
      (((0 ≤ u1.Start ∧ u1.Start ≤ 512) ∧ 1 ≤ u1.Size ∧ u1.Size ≤ 40) ∧
      ((isortS (placesS u0)).length ≤ 140737488355328 →
      ((isortS (placesS u1)).length ≤ 140737488355328 →
      (∃ inv107 : (List Int) → (List Int) → Prop, ∃ mu107 : (List Int) → (List Int) → Nat, inv107 (isortS (placesS u0)) (isortS (placesS u1)) ∧
      (∀ (x5 : List Int) (x6 : List Int), inv107 x5 x6 →
      ((((decide ((x5.length : Int) > 0)) && (decide ((x6.length : Int) > 0))) = true →
        ((0 ≤ (0 : Int) ∧ (0 : Int) < (x5.length : Int)) ∧
        (∀ q163, x5[(0 : Int).toNat]? = some q163 →
        ((0 ≤ (0 : Int) ∧ (0 : Int) < (x6.length : Int)) ∧
        (∀ q182, x6[(0 : Int).toNat]? = some q182 →
        ((((icmpS q163 q182) == 0) = true →
          (K true)) ∧
        (((icmpS q163 q182) == 0) = false →
          (((decide ((icmpS q163 q182) < 0)) = true →
            ((0 ≤ (1 : Int) ∧ (1 : Int) ≤ (x5.length : Int)) ∧
            (inv107 (x5.drop (1 : Int).toNat) x6 ∧ mu107 (x5.drop (1 : Int).toNat) x6 < mu107 x5 x6))) ∧
          ((decide ((icmpS q163 q182) < 0)) = false →
            ((0 ≤ (1 : Int) ∧ (1 : Int) ≤ (x6.length : Int)) ∧
            (inv107 x5 (x6.drop (1 : Int).toNat) ∧ mu107 x5 (x6.drop (1 : Int).toNat) < mu107 x5 x6))))))))))) ∧
      (((decide ((x5.length : Int) > 0)) && (decide ((x6.length : Int) > 0))) = false →
        (K false)))))))))))

/-! Pure proofs: no program in sight. -/
def Common (x y : List Int) : Prop := ∃ p, p ∈ x ∧ p ∈ y
theorem isort_up (l : List Int) : (isortS l).Pairwise (· ≤ ·) := by
  have h := List.pairwise_mergeSort (le := fun x y : Int => decide (x ≤ y)) (fun a b c h1 h2 => by rw [decide_eq_true_eq] at *; omega) (fun a b => by rw [Bool.or_eq_true, decide_eq_true_eq, decide_eq_true_eq]; omega) l
  exact h.imp (fun hh => of_decide_eq_true hh)
theorem isort_mem (l : List Int) (p : Int) : p ∈ isortS l ↔ p ∈ l := List.mem_mergeSort
theorem over_common {s t : Signal} (h1 : checkS s 64 = 0) (h2 : checkS t 64 = 0) : overS s t = true ↔ Common (placesS s) (placesS t) := by
  unfold overS
  rw [if_neg (by rw [h1, h2]; simp), List.any_eq_true]
  unfold Common placesS
  constructor
  · rintro ⟨p, hp, hq⟩
    exact ⟨p, List.mem_map.2 ⟨p, hp, rfl⟩, List.mem_map.2 ⟨p, by simpa using hq, rfl⟩⟩
  · rintro ⟨q, hp, hq⟩
    obtain ⟨a, ha, rfl⟩ := List.mem_map.1 hp
    obtain ⟨b, hb, e⟩ := List.mem_map.1 hq
    have e : b = a := by have e : (b : Int) = (a : Int) := e; omega
    subst e
    exact ⟨b, ha, by simpa using hb⟩
theorem sover_ok (s t : Signal) : sover_vc s t (fun r => r = overS s t) := by
  refine ⟨fun h => ?_, fun h => ?_⟩
  · unfold overS
    rw [if_pos (by simpa using h)]
  · have h1 : checkS s 64 = 0 ∧ checkS t 64 = 0 := by simpa using h
    obtain ⟨a1, a2, a3, a4⟩ := check_zero h1.1
    obtain ⟨b1, b2, b3, b4⟩ := check_zero h1.2
    have hov := over_common h1.1 h1.2
    refine ⟨⟨⟨a3.1, by omega⟩, a1.2.2⟩, ⟨⟨b3.1, by omega⟩, b1.2.2⟩, fun _ _ => ⟨fun x y => x.Pairwise (· ≤ ·) ∧ y.Pairwise (· ≤ ·) ∧ (overS s t = true ↔ Common x y), fun x y => x.length + y.length, ⟨isort_up _, isort_up _, ?_⟩, ?_⟩⟩
    · rw [hov]
      unfold Common
      simp only [isort_mem]
    rintro x y ⟨hx, hy, hc⟩
    refine ⟨fun h2 => ?_, fun h2 => ?_⟩
    · rw [Bool.and_eq_true, decide_eq_true_eq, decide_eq_true_eq] at h2
      cases x with
      | nil => simp at h2
      | cons a r =>
        cases y with
        | nil => simp at h2
        | cons b q =>
          rw [List.pairwise_cons] at hx hy
          refine ⟨by simp only [List.length_cons]; omega, fun u hu => ⟨by simp only [List.length_cons]; omega, fun v hv => ?_⟩⟩
          have hu : a = u := by simpa using hu
          have hv : b = v := by simpa using hv
          subst hu hv
          unfold icmpS
          refine ⟨fun h3 => ?_, fun h3 => ⟨fun h4 => ?_, fun h4 => ?_⟩⟩
          · have e : a = b := by
              rw [beq_iff_eq] at h3
              split at h3
              · omega
              · split at h3 <;> omega
            exact (hc.2 ⟨a, List.mem_cons_self, by rw [e]; exact List.mem_cons_self⟩).symm
          · have hab : a < b := by
              have h4 := of_decide_eq_true h4
              split at h4
              · assumption
              · split at h4 <;> omega
            refine ⟨by simp only [List.length_cons]; omega, ⟨hx.2, List.pairwise_cons.2 hy, hc.trans ⟨?_, ?_⟩⟩, by (try dsimp only); simp only [List.length_cons, List.length_drop]; omega⟩
            · rintro ⟨p, hp, hq⟩
              rw [List.mem_cons] at hp
              rcases hp with rfl | hp
              · exfalso
                rw [List.mem_cons] at hq
                rcases hq with rfl | hq
                · omega
                · have := hy.1 _ hq; omega
              · exact ⟨p, hp, hq⟩
            · rintro ⟨p, hp, hq⟩
              exact ⟨p, List.mem_cons_of_mem _ hp, hq⟩
          · have hab : b < a := by
              have h4 := of_decide_eq_false h4
              rw [beq_eq_false_iff_ne] at h3
              split at h3
              · rename_i h5; rw [if_pos h5] at h4; omega
              · split at h3
                · assumption
                · omega
            refine ⟨by simp only [List.length_cons]; omega, ⟨List.pairwise_cons.2 hx, hy.2, hc.trans ⟨?_, ?_⟩⟩, by (try dsimp only); simp only [List.length_cons, List.length_drop]; omega⟩
            · rintro ⟨p, hp, hq⟩
              rw [List.mem_cons] at hq
              rcases hq with rfl | hq
              · exfalso
                rw [List.mem_cons] at hp
                rcases hp with rfl | hp
                · omega
                · have := hx.1 _ hp; omega
              · exact ⟨p, hp, hq⟩
            · rintro ⟨p, hp, hq⟩
              exact ⟨p, hp, List.mem_cons_of_mem _ hq⟩
    · cases ho : overS s t with
      | false => rfl
      | true =>
        obtain ⟨p, hp, hq⟩ := hc.1 ho
        rw [Bool.and_eq_false_iff, decide_eq_false_iff_not, decide_eq_false_iff_not] at h2
        rcases h2 with h2 | h2
        · cases x with
          | nil => cases hp
          | cons a r => simp only [List.length_cons] at h2; omega
        · cases y with
          | nil => cases hq
          | cons a r => simp only [List.length_cons] at h2; omega

end Go.Proofs.Ytdndfbamhnchfaa
set_option linter.unusedVariables false
set_option linter.unusedSimpArgs false
namespace Go.Proofs.Ytdndfbamhnchfaa
open Go.Sy Go.RowKit
def speed_vc  (K : Signal → Prop) : Prop :=
  (K (⟨([115, 112, 101, 101, 100] : List UInt8), 8, 16, false, false, 1, 10, 0, -1⟩ : Signal))
def speed  : Signal :=
  (⟨([115, 112, 101, 101, 100] : List UInt8), 8, 16, false, false, 1, 10, 0, -1⟩ : Signal)
theorem speed_ok  : speed_vc  (fun r => r = speed ) := (by rfl)

def signalled_vc  (K : Bool → Prop) : Prop :=
  ((isBytes ([0, 44, 1] : List Int)) ∧
    ((isBytes ([9, 0, 0] : List Int)) ∧
    ((swriteS speed ([9, 0, 0] : List Int) 30 1).1.length ≤ 140737488355328 →
    (((((((sreadS speed ([0, 44, 1] : List Int)).2.2 == 0) && ((swriteS speed ([9, 0, 0] : List Int) 30 1).2 == 0)) && ((sreadS speed ([0, 44, 1] : List Int)).1 == 300)) && (((sreadS speed ([0, 44, 1] : List Int)).2.1.Name == ([115, 112, 101, 101, 100] : List UInt8)) && (((sreadS speed ([0, 44, 1] : List Int)).2.1.Num == 30) && (((sreadS speed ([0, 44, 1] : List Int)).2.1.Den == 1) && true)))) = true →
      (K (beqS (swriteS speed ([9, 0, 0] : List Int) 30 1).1 ([9, 44, 1] : List Int)))) ∧
    ((((((sreadS speed ([0, 44, 1] : List Int)).2.2 == 0) && ((swriteS speed ([9, 0, 0] : List Int) 30 1).2 == 0)) && ((sreadS speed ([0, 44, 1] : List Int)).1 == 300)) && (((sreadS speed ([0, 44, 1] : List Int)).2.1.Name == ([115, 112, 101, 101, 100] : List UInt8)) && (((sreadS speed ([0, 44, 1] : List Int)).2.1.Num == 30) && (((sreadS speed ([0, 44, 1] : List Int)).2.1.Den == 1) && true)))) = false →
      (K false))))))

/-! Pure proofs: no program in sight. -/
theorem signalled_ok : signalled_vc (fun r => r = true) := by
  refine ⟨by unfold isBytes; decide, by unfold isBytes; decide, fun _ => ⟨fun _ => ?_, fun h => absurd h (by decide +kernel)⟩⟩
  show beqS (swriteS speed ([9, 0, 0] : List Int) 30 1).1 ([9, 44, 1] : List Int) = true
  decide +kernel

end Go.Proofs.Ytdndfbamhnchfaa
set_option linter.unusedVariables false
set_option linter.unusedSimpArgs false
namespace Go.Proofs.Ytdndfbamhnchfaa
open Go.Sy Go.RowKit
structure BInt where
  neg : Bool
  abs : List Int
  deriving DecidableEq, Inhabited
structure BRat where
  a : BInt
  b : BInt
  deriving DecidableEq, Inhabited
def gtrim_vc (u0 : List Int) (K : (List Int) → Prop) : Prop :=
  (u0.length ≤ 140737488355328 →
    (∃ inv16 : Int → Prop, ∃ mu16 : Int → Nat, inv16 (u0.length : Int) ∧
    (∀ (x3 : Int), inv16 x3 →
    (((decide (x3 > 0)) = true →
      ((0 ≤ w64 (x3 - 1) ∧ w64 (x3 - 1) < (u0.length : Int)) ∧
      (∀ q50, u0[(w64 (x3 - 1)).toNat]? = some q50 →
      (((q50 == 0) = true →
        (inv16 (w64 (x3 - 1)) ∧ mu16 (w64 (x3 - 1)) < mu16 x3)) ∧
      ((q50 == 0) = false →
        ((0 ≤ x3 ∧ x3 ≤ (u0.length : Int)) ∧
        (K (u0.take x3.toNat)))))))) ∧
    ((decide (x3 > 0)) = false →
      ((0 ≤ x3 ∧ x3 ≤ (u0.length : Int)) ∧
      (K (u0.take x3.toNat))))))))

def gplain_vc (u0 : List Int) (K : Int → Prop) : Prop :=
  (u0.length ≤ 140737488355328 →
    (((decide ((u0.length : Int) > 0)) = true →
      ((0 ≤ (0 : Int) ∧ (0 : Int) < (u0.length : Int)) ∧
      (∀ q28, u0[(0 : Int).toNat]? = some q28 →
      (((decide ((u0.length : Int) > 1)) = true →
        ((0 ≤ (1 : Int) ∧ (1 : Int) < (u0.length : Int)) ∧
        (∀ q60, u0[(1 : Int).toNat]? = some q60 →
        (K (bOr .u64 (wu64 q28) (bShl .u64 (wu64 q60) 32)))))) ∧
      ((decide ((u0.length : Int) > 1)) = false →
        (K (wu64 q28))))))) ∧
    ((decide ((u0.length : Int) > 0)) = false →
      (((decide ((u0.length : Int) > 1)) = true →
        ((0 ≤ (1 : Int) ∧ (1 : Int) < (u0.length : Int)) ∧
        (∀ q108, u0[(1 : Int).toNat]? = some q108 →
        (K (bOr .u64 0 (bShl .u64 (wu64 q108) 32)))))) ∧
      ((decide ((u0.length : Int) > 1)) = false →
        (K 0))))))

def gcmp_vc (u0 : List Int) (u1 : List Int) (K : Int → Prop) : Prop :=
  (u0.length ≤ 140737488355328 →
    (u1.length ≤ 140737488355328 →
    ((((u0.length : Int) != (u1.length : Int)) = true →
      (((decide ((u0.length : Int) < (u1.length : Int))) = true →
        (K (-1))) ∧
      ((decide ((u0.length : Int) < (u1.length : Int))) = false →
        (K 1)))) ∧
    (((u0.length : Int) != (u1.length : Int)) = false →
      (∃ inv56 : Int → Prop, ∃ mu56 : Int → Nat, inv56 (w64 ((u0.length : Int) - 1)) ∧
      (∀ (x5 : Int), inv56 x5 →
      (((decide (x5 ≥ 0)) = true →
        ((0 ≤ x5 ∧ x5 < (u0.length : Int)) ∧
        (∀ q90, u0[x5.toNat]? = some q90 →
        ((0 ≤ x5 ∧ x5 < (u1.length : Int)) ∧
        (∀ q112, u1[x5.toNat]? = some q112 →
        (((q90 != q112) = true →
          ((0 ≤ x5 ∧ x5 < (u0.length : Int)) ∧
          (∀ q143, u0[x5.toNat]? = some q143 →
          ((0 ≤ x5 ∧ x5 < (u1.length : Int)) ∧
          (∀ q165, u1[x5.toNat]? = some q165 →
          (((decide (q143 < q165)) = true →
            (K (-1))) ∧
          ((decide (q143 < q165)) = false →
            (K 1)))))))) ∧
        ((q90 != q112) = false →
          (inv56 (w64 (x5 - 1)) ∧ mu56 (w64 (x5 - 1)) < mu56 x5)))))))) ∧
      ((decide (x5 ≥ 0)) = false →
        (K 0)))))))))

/-! Pure proofs: no program in sight. -/
theorem wtake_next {α : Type} (l : List α) (k : Nat) (q : α) (hq : l[k]? = some q) : l.take (k + 1) = l.take k ++ [q] := by rw [List.take_add_one, hq]; rfl
/-! Numbers in words of 32 bits, the least first. -/
def wv : List Int → Nat
  | [] => 0
  | x :: r => x.toNat + 4294967296 * wv r
def wok (l : List Int) : Prop := ∀ x ∈ l, 0 ≤ x ∧ x < 4294967296
def ws (n : Nat) : List Int := if n = 0 then [] else ((n % 4294967296 : Nat) : Int) :: ws (n / 4294967296)
 termination_by n
 decreasing_by omega
theorem ws_zero : ws 0 = [] := by rw [ws]; rfl
theorem ws_pos {n : Nat} (h : n ≠ 0) : ws n = ((n % 4294967296 : Nat) : Int) :: ws (n / 4294967296) := by rw [ws, if_neg h]
theorem wv_ws : ∀ n : Nat, wv (ws n) = n := by
  intro n
  induction n using Nat.strongRecOn with
  | ind n ih =>
    by_cases h : n = 0
    · subst h; rw [ws_zero]; rfl
    · rw [ws_pos h, wv, ih _ (by omega), Int.toNat_natCast]
      omega
theorem ws_wok : ∀ n : Nat, wok (ws n) := by
  intro n
  induction n using Nat.strongRecOn with
  | ind n ih =>
    by_cases h : n = 0
    · subst h; rw [ws_zero]; intro x hx; cases hx
    · rw [ws_pos h]
      intro x hx
      rcases List.mem_cons.1 hx with rfl | hx
      · omega
      · exact ih _ (by omega) x hx
theorem ws_len : ∀ (k n : Nat), n < 4294967296 ^ k → (ws n).length ≤ k := by
  intro k
  induction k with
  | zero => intro n h; have : n = 0 := by simpa using h
            subst this; rw [ws_zero]; simp
  | succ k ih =>
    intro n h
    by_cases h0 : n = 0
    · subst h0; rw [ws_zero]; simp
    · rw [ws_pos h0, List.length_cons]
      have : n / 4294967296 < 4294967296 ^ k := by
        rw [Nat.div_lt_iff_lt_mul (by decide)]
        rwa [Nat.pow_succ] at h
      have := ih _ this
      omega
theorem wok_cons {x : Int} {r : List Int} (h : wok (x :: r)) : (0 ≤ x ∧ x < 4294967296) ∧ wok r := ⟨h x (List.mem_cons_self ..), fun y hy => h y (List.mem_cons_of_mem _ hy)⟩
theorem wok_at {l : List Int} (h : wok l) {k : Nat} {q : Int} (hq : l[k]? = some q) : ∃ n : Nat, q = n ∧ n < 4294967296 := by
  have := h q (List.mem_of_getElem? hq)
  exact ⟨q.toNat, by omega, by omega⟩
theorem wok_take {a : List Int} (ha : wok a) (k : Nat) : wok (a.take k) := fun x hx => ha x (List.mem_of_mem_take hx)
theorem wv_append (a b : List Int) : wv (a ++ b) = wv a + 4294967296 ^ a.length * wv b := by
  induction a with
  | nil => simp [wv]
  | cons x r ih => rw [List.cons_append, wv, ih, wv, List.length_cons, Nat.pow_succ, Nat.mul_add, Nat.add_assoc, Nat.mul_comm (4294967296 ^ r.length) 4294967296, Nat.mul_assoc]
theorem wv_lt {l : List Int} (h : wok l) : wv l < 4294967296 ^ l.length := by
  induction l with
  | nil => simp [wv]
  | cons x r ih =>
    obtain ⟨h1, h2⟩ := wok_cons h
    have := ih h2
    rw [wv, List.length_cons, Nat.pow_succ]
    omega
/-- Without the noughts at the end. -/
def gtrimS : List Int → List Int
  | [] => []
  | x :: r => match gtrimS r with
    | [] => if x = 0 then [] else [x]
    | y :: q => x :: y :: q
theorem gtrim_ws {l : List Int} (h : wok l) : gtrimS l = ws (wv l) := by
  induction l with
  | nil => rw [wv, ws_zero]; rfl
  | cons x r ih =>
    obtain ⟨h1, h2⟩ := wok_cons h
    rw [gtrimS, ih h2, wv]
    by_cases h0 : wv r = 0
    · rw [h0, ws_zero]
      by_cases hx : x = 0
      · subst hx
        rw [if_pos rfl]
        show [] = ws 0
        rw [ws_zero]
      · rw [if_neg hx, ws_pos (by omega)]
        have e1 : (x.toNat + 4294967296 * 0) % 4294967296 = x.toNat := by omega
        have e2 : (x.toNat + 4294967296 * 0) / 4294967296 = 0 := by omega
        rw [e1, e2, ws_zero, Int.toNat_of_nonneg h1.1]
    · have e1 : (x.toNat + 4294967296 * wv r) % 4294967296 = x.toNat := by omega
      have e2 : (x.toNat + 4294967296 * wv r) / 4294967296 = wv r := by omega
      rw [ws_pos (n := x.toNat + 4294967296 * wv r) (by omega), e1, e2]
      have e3 : ((x.toNat : Nat) : Int) = x := Int.toNat_of_nonneg h1.1
      rw [e3]
      rw [ws_pos h0]
theorem ws_trim (n : Nat) : gtrimS (ws n) = ws n := by rw [gtrim_ws (ws_wok n), wv_ws]
theorem gtrim_len (l : List Int) : (gtrimS l).length ≤ l.length := by
  induction l with
  | nil => exact Nat.le_refl _
  | cons x r ih =>
    rw [gtrimS]
    split
    · split <;> simp
    · rename_i y q e
      rw [e] at ih
      simpa using ih
theorem gtrim_snoc0 (l : List Int) : gtrimS (l ++ [0]) = gtrimS l := by
  induction l with
  | nil => rfl
  | cons x r ih => rw [List.cons_append, gtrimS, ih, gtrimS]
theorem gtrim_snoc (l : List Int) (x : Int) (hx : x ≠ 0) : gtrimS (l ++ [x]) = l ++ [x] := by
  induction l with
  | nil => show (if x = 0 then [] else [x]) = [x]; rw [if_neg hx]
  | cons y r ih =>
    rw [List.cons_append, gtrimS, ih]
    cases hr : r ++ [x] with
    | nil => simp at hr
    | cons a b => rfl
theorem gtrim_ok (l : List Int) : gtrim_vc l (fun r => r = gtrimS l) := by
  intro hl
  refine ⟨fun i => ∃ k : Nat, i = k ∧ k ≤ l.length ∧ gtrimS (l.take k) = gtrimS l, fun i => i.toNat, ⟨l.length, rfl, Nat.le_refl _, by rw [List.take_length]⟩, ?_⟩
  rintro _ ⟨k, rfl, hk, hg⟩
  refine ⟨fun h => ?_, fun h => ?_⟩
  · have h : 0 < k := by have := of_decide_eq_true h; omega
    have e : w64 ((k : Int) - 1) = ((k - 1 : Nat) : Int) := by rw [w64_eq _ (by omega)]; omega
    rw [e]
    refine ⟨by omega, fun q hq => ?_⟩
    rw [Int.toNat_natCast] at hq
    have ht := wtake_next l (k - 1) q hq
    have e1 : k - 1 + 1 = k := by omega
    rw [e1] at ht
    refine ⟨fun h1 => ?_, fun h1 => ?_⟩
    · have h1 : q = 0 := by simpa using h1
      subst h1
      rw [ht, gtrim_snoc0] at hg
      exact ⟨⟨k - 1, rfl, by omega, hg⟩, by (try dsimp only); omega⟩
    · have h1 : q ≠ 0 := by simpa using h1
      refine ⟨by omega, ?_⟩
      rw [Int.toNat_natCast, ← hg, ht, gtrim_snoc _ _ h1]
  · have h : k = 0 := by have := of_decide_eq_false h; omega
    subst h
    refine ⟨by omega, ?_⟩
    rw [← hg]
    rfl
/-- How many bits a number has. -/
theorem shru (n s : Nat) (hs : s ≤ 64) (k : IntKind) (hk : s ≤ k.bits) : bShr k (n : Int) (s : Int) = ((n / 2 ^ s : Nat) : Int) := by
  unfold bShr
  have : min (s : Int).toNat k.bits = s := by rw [Int.toNat_natCast]; omega
  rw [this, Int.fdiv_eq_ediv_of_nonneg _ (Int.le_of_lt (Int.pow_pos (by decide)))]
  norm_cast
theorem wu32_nat (n : Nat) : wu32 (n : Int) = ((n % 4294967296 : Nat) : Int) := by
  show IntKind.u32.wrap (n : Int) = _
  rw [IntKind.wrap_u32]
  omega
theorem ws_last {n : Nat} (h : n ≠ 0) : ∃ (p : List Int) (q : Nat), ws n = p ++ [(q : Int)] ∧ q ≠ 0 ∧ q < 4294967296 := by
  have hne : ws n ≠ [] := by rw [ws_pos h]; simp
  obtain ⟨p, x, hp⟩ : ∃ p x, ws n = p ++ [x] := ⟨(ws n).dropLast, (ws n).getLast hne, (List.dropLast_concat_getLast hne).symm⟩
  have hx := ws_wok n x (by rw [hp]; simp)
  refine ⟨p, x.toNat, by rw [hp]; congr 2; omega, fun h0 => ?_, by omega⟩
  have h1 : x = 0 := by omega
  have h2 := ws_trim n
  rw [hp, h1, gtrim_snoc0] at h2
  have h3 := gtrim_len p
  rw [h2] at h3
  rw [List.length_append, List.length_singleton] at h3
  omega

end Go.Proofs.Ytdndfbamhnchfaa
set_option linter.unusedVariables false
set_option linter.unusedSimpArgs false
namespace Go.Proofs.Ytdndfbamhnchfaa
open Go.Sy Go.RowKit
def gtwin_vc (u0 : List Int) (K : (List Int) → Prop) : Prop :=
  (u0.length ≤ 140737488355328 →
    (((([] : List Int).length + u0.length) * 4 ≤ 140737488355328) ∧
    (K (([] : List Int) ++ u0))))

def gwords_vc (u0 : Int) (K : (List Int) → Prop) : Prop :=
  ((gtrimS ([wu32 u0, wu32 (bShr .u64 u0 32)] : List Int)).length ≤ 140737488355328 →
    (K (gtrimS ([wu32 u0, wu32 (bShr .u64 u0 32)] : List Int))))

/-! Pure proofs: no program in sight. -/
theorem wu64_eq (x : Int) (h : 0 ≤ x ∧ x ≤ 18446744073709551615) : wu64 x = x := IntWalk.u64_in x h
theorem bor64 (x y : Nat) (hx : x < 18446744073709551616) (hy : y < 18446744073709551616) : bOr .u64 (x : Int) (y : Int) = ((x ||| y : Nat) : Int) := by
  have e : (BitVec.ofInt IntKind.u64.bits (x : Int) ||| BitVec.ofInt IntKind.u64.bits (y : Int)).toNat = x ||| y := by
    rw [BitVec.toNat_or]
    show (BitVec.ofInt 64 (x : Int)).toNat ||| (BitVec.ofInt 64 (y : Int)).toNat = _
    rw [ofInt_toNat x hx, ofInt_toNat y hy]
  unfold bOr
  rw [e]
  have := Nat.or_lt_two_pow (x := x) (y := y) (n := 64) hx hy
  exact wu64_eq _ (by omega)
theorem shlu (n s : Nat) (hs : s ≤ 64) (h : n * 2 ^ s < 18446744073709551616) : bShl .u64 (n : Int) (s : Int) = ((n * 2 ^ s : Nat) : Int) := by
  unfold bShl
  have e : min (s : Int).toNat IntKind.u64.bits = s := by rw [Int.toNat_natCast]; exact Nat.min_eq_left hs
  rw [e]
  have e2 : (n : Int) * 2 ^ s = ((n * 2 ^ s : Nat) : Int) := by norm_cast
  rw [e2]
  exact wu64_eq _ (by omega)
def gtwinS (l : List Int) : List Int := l
theorem gtwin_ok (l : List Int) (h : l.length ≤ 1000000) : gtwin_vc l (fun r => r = gtwinS l) := fun _ => ⟨by simp; omega, rfl⟩
def gwordsS (x : Int) : List Int := ws x.toNat
theorem gwords_ok (x : Int) (h : 0 ≤ x ∧ x ≤ 18446744073709551615) : gwords_vc x (fun r => r = gwordsS x) := by
  intro _
  obtain ⟨n, rfl⟩ : ∃ n : Nat, x = n := ⟨x.toNat, by omega⟩
  have e : bShr .u64 (n : Int) 32 = ((n / 2 ^ 32 : Nat) : Int) := shru n 32 (by omega) .u64 (by decide)
  rw [e, wu32_nat, wu32_nat]
  have hw : wok [((n % 4294967296 : Nat) : Int), ((n / 2 ^ 32 % 4294967296 : Nat) : Int)] := by
    intro y hy
    rcases List.mem_cons.1 hy with rfl | hy
    · omega
    · rw [List.mem_singleton.1 hy]; omega
  rw [gtrim_ws hw]
  unfold gwordsS
  congr 1
  simp only [wv, Int.toNat_natCast]
  omega
theorem or_add {t lo r m : Nat} (ht : t < 2 ^ r) (hlo : lo = m * 2 ^ r) : t ||| lo = t + lo := by
  have := Nat.shiftLeft_add_eq_or_of_lt (i := r) (b := t) ht m
  rw [Nat.shiftLeft_eq, ← hlo] at this
  rw [Nat.or_comm, ← this, Nat.add_comm]
/-! ### Plain numbers, comparison, difference -/
def gplainS (l : List Int) : Int := ((wv l % 18446744073709551616 : Nat) : Int)
theorem gplain_ok (l : List Int) (h : wok l) : gplain_vc l (fun r => r = gplainS l) := by
  intro _
  unfold gplainS
  have key : ∀ n m : Nat, n < 4294967296 → m < 4294967296 → bOr .u64 (n : Int) (bShl .u64 (m : Int) 32) = ((n + 4294967296 * m : Nat) : Int) := by
    intro n m hn hm
    have e1 : bShl .u64 (m : Int) 32 = ((m * 2 ^ 32 : Nat) : Int) := shlu m 32 (by omega) (by omega)
    rw [e1, bor64 n _ (by omega) (by omega), or_add (r := 32) hn rfl]
    congr 1
    omega
  cases l with
  | nil => exact ⟨fun h1 => (by cases h1), fun _ => ⟨fun h1 => (by cases h1), fun _ => rfl⟩⟩
  | cons a l =>
    obtain ⟨h1, h2⟩ := wok_cons h
    obtain ⟨a, rfl⟩ : ∃ n : Nat, a = n := ⟨a.toNat, by omega⟩
    refine ⟨fun _ => ⟨by (simp <;> omega), fun q hq => ?_⟩, fun h3 => ?_⟩
    · cases hq
      rw [wu64_eq (a : Int) (by omega)]
      cases l with
      | nil => exact ⟨fun h3 => absurd h3 (by simp), fun _ => by simp only [wv, Int.toNat_natCast, Nat.mul_zero, Nat.add_zero]; rw [Nat.mod_eq_of_lt (by omega)]⟩
      | cons b l =>
        obtain ⟨h3, h4⟩ := wok_cons h2
        obtain ⟨b, rfl⟩ : ∃ n : Nat, b = n := ⟨b.toNat, by omega⟩
        refine ⟨fun _ => ⟨by (simp <;> omega), fun p hp => ?_⟩, fun h5 => absurd (of_decide_eq_false h5) (by simp <;> omega)⟩
        cases hp
        rw [wu64_eq (b : Int) (by omega), key a b (by omega) (by omega)]
        simp only [wv, Int.toNat_natCast]
        congr 2
        omega
    · exact absurd (of_decide_eq_false h3) (by simp <;> omega)
theorem ws_ge {n : Nat} (h : n ≠ 0) : 4294967296 ^ ((ws n).length - 1) ≤ n := by
  obtain ⟨p, q, hp, hq, _⟩ := ws_last h
  have e := wv_ws n
  rw [hp, wv_append] at e
  rw [hp, List.length_append, List.length_singleton, Nat.add_sub_cancel]
  simp only [wv, Int.toNat_natCast, Nat.mul_zero, Nat.add_zero] at e
  have : 4294967296 ^ p.length * 1 ≤ 4294967296 ^ p.length * q := Nat.mul_le_mul_left _ (by omega)
  omega
theorem ws_nil {n : Nat} : ws n = [] ↔ n = 0 := by
  constructor
  · intro h
    rw [← wv_ws n, h]
    rfl
  · rintro rfl
    exact ws_zero
theorem ws_len0 {n : Nat} : (ws n).length = 0 ↔ n = 0 := by rw [List.length_eq_zero_iff, ws_nil]
theorem ws_lt_len {n m : Nat} (h : (ws n).length < (ws m).length) : n < m := by
  have hm : m ≠ 0 := by
    rintro rfl
    rw [ws_zero] at h
    exact absurd h (Nat.not_lt_zero _)
  have h1 := wv_lt (ws_wok n)
  rw [wv_ws] at h1
  have h2 := ws_ge hm
  have h3 : 4294967296 ^ (ws n).length ≤ 4294967296 ^ ((ws m).length - 1) := Nat.pow_le_pow_right (by omega) (by omega)
  omega
theorem wv_split (l : List Int) (k : Nat) (hk : k ≤ l.length) : wv l = wv (l.take k) + 4294967296 ^ k * wv (l.drop k) := by
  have := wv_append (l.take k) (l.drop k)
  rw [List.take_append_drop, List.length_take, Nat.min_eq_left hk] at this
  exact this
theorem wv_top {l : List Int} {k : Nat} {q : Int} (h : l[k]? = some q) : wv l = wv (l.take k) + 4294967296 ^ k * (q.toNat + 4294967296 * wv (l.drop (k + 1))) := by
  obtain ⟨hk, he⟩ := List.getElem?_eq_some_iff.1 h
  rw [wv_split l k (by omega), List.drop_eq_getElem_cons hk, he]
  rfl
def gcmpS (a b : List Int) : Int := if wv a < wv b then -1 else if wv b < wv a then 1 else 0
theorem gcmp_ok (a b : List Int) (h : a.length ≤ 1000 ∧ b.length ≤ 1000 ∧ a = ws (wv a) ∧ b = ws (wv b)) : gcmp_vc a b (fun r => r = gcmpS a b) := by
  intro _ _
  obtain ⟨h1, h2, ha, hb⟩ := h
  have wa : wok a := by rw [ha]; exact ws_wok _
  have wb : wok b := by rw [hb]; exact ws_wok _
  unfold gcmpS
  refine ⟨fun h3 => ⟨fun h4 => ?_, fun h4 => ?_⟩, fun h3 => ?_⟩
  · have h4 := of_decide_eq_true h4
    have : wv a < wv b := ws_lt_len (by rw [← ha, ← hb]; omega)
    rw [if_pos this]
  · have h4 := of_decide_eq_false h4
    have h3 : ¬ (a.length : Int) = b.length := by simpa using h3
    have : wv b < wv a := ws_lt_len (by rw [← ha, ← hb]; omega)
    rw [if_neg (by omega), if_pos this]
  · have h3 : (a.length : Int) = b.length := by simpa using h3
    refine ⟨fun i => ∃ k : Nat, i = (k : Int) - 1 ∧ k ≤ a.length ∧ a.drop k = b.drop k, fun i => (i + 1).toNat, ⟨a.length, w64_eq _ (by omega), by omega, ?_⟩, ?_⟩
    · rw [List.drop_eq_nil_of_le (by omega), List.drop_eq_nil_of_le (by omega)]
    · rintro _ ⟨k, rfl, hk, he⟩
      refine ⟨fun h5 => ?_, fun h5 => ?_⟩
      · have h5 := of_decide_eq_true h5
        obtain ⟨k, rfl⟩ : ∃ n, k = n + 1 := ⟨k - 1, by omega⟩
        have e : (((k + 1 : Nat) : Int) - 1) = k := by omega
        rw [e] at *
        refine ⟨by omega, fun p hp => ⟨by omega, fun q hq => ?_⟩⟩
        rw [Int.toNat_natCast] at hp hq
        have ep := wv_top hp
        have eq := wv_top hq
        rw [he] at ep
        have lp := wv_lt (wok_take wa k)
        have lq := wv_lt (wok_take wb k)
        rw [List.length_take, Nat.min_eq_left (by omega)] at lp lq
        obtain ⟨p, rfl, hp2⟩ := wok_at wa hp
        obtain ⟨q, rfl, hq2⟩ := wok_at wb hq
        rw [Int.toNat_natCast] at ep eq
        refine ⟨fun h6 => ⟨by omega, fun p' hp' => ⟨by omega, fun q' hq' => ?_⟩⟩, fun h6 => ?_⟩
        · rw [Int.toNat_natCast, hp] at hp'
          rw [Int.toNat_natCast, hq] at hq'
          cases hp'
          cases hq'
          have h6 : ¬ p = q := fun hc => by subst hc; simp at h6
          have key : ∀ {x y : Nat}, x < y → ∀ {u v : Nat}, u < 4294967296 ^ k → ∀ r, u + 4294967296 ^ k * (x + 4294967296 * r) < v + 4294967296 ^ k * (y + 4294967296 * r) := by
            intro x y hxy u v hu r
            have : 4294967296 ^ k * (x + 4294967296 * r + 1) ≤ 4294967296 ^ k * (y + 4294967296 * r) := Nat.mul_le_mul_left _ (by omega)
            rw [Nat.mul_add, Nat.mul_one] at this
            omega
          refine ⟨fun h7 => ?_, fun h7 => ?_⟩
          · have h7 := of_decide_eq_true h7
            have : wv a < wv b := by rw [ep, eq]; exact key (by omega) lp _
            rw [if_pos this]
          · have h7 := of_decide_eq_false h7
            have : wv b < wv a := by rw [ep, eq]; exact key (by omega) lq _
            rw [if_neg (by omega), if_pos this]
        · have h6 : (p : Int) = q := by simpa using h6
          have h6 : p = q := by omega
          subst h6
          refine ⟨⟨k, ?_, by omega, ?_⟩, ?_⟩
          · rw [w64_eq _ (by omega)]
          · obtain ⟨k1, e1⟩ := List.getElem?_eq_some_iff.1 hp
            obtain ⟨k2, e2⟩ := List.getElem?_eq_some_iff.1 hq
            rw [List.drop_eq_getElem_cons k1, List.drop_eq_getElem_cons k2, e1, e2, he]
          · rw [w64_eq _ (by omega)]
            (try dsimp only)
            omega
      · have h5 := of_decide_eq_false h5
        have e : k = 0 := by omega
        subst e
        rw [List.drop_zero, List.drop_zero] at he
        rw [he, if_neg (Nat.lt_irrefl _), if_neg (Nat.lt_irrefl _)]
theorem wu64_neg (x : Int) (h : -18446744073709551616 ≤ x ∧ x < 0) : wu64 x = x + 18446744073709551616 := by
  show IntKind.u64.wrap x = _
  simp [IntKind.wrap, IntKind.bits, IntKind.signed]
  omega
end Go.Proofs.Ytdndfbamhnchfaa
set_option linter.unusedVariables false
set_option linter.unusedSimpArgs false
namespace Go.Proofs.Ytdndfbamhnchfaa
open Go.Sy Go.RowKit
def gdiv_vc (u0 : List Int) (u1 : List Int) (K : ((List Int) × (List Int)) → Prop) : Prop :=
  (u0.length ≤ 140737488355328 →
    (u1.length ≤ 140737488355328 →
    ((((u1.length : Int) == 0) = false) ∧
    ((u0.length ≤ 1000 ∧ u1.length ≤ 1000 ∧ u0 = ws (wv u0) ∧ u1 = ws (wv u1)) ∧
    (((decide ((gcmpS u0 u1) < 0)) = true →
      ((u0.length ≤ 1000000) ∧
      ((gtwinS u0).length ≤ 140737488355328 →
      (K ([], (gtwinS u0)))))) ∧
    ((decide ((gcmpS u0 u1) < 0)) = false →
      (((decide ((u0.length : Int) ≤ 2)) = true) ∧
      ((wok u0) ∧
      ((wok u1) ∧
      (((gplainS u1) ≠ 0) ∧
      (((gplainS u1) ≠ 0) ∧
      ((0 ≤ (wu64 ((gplainS u0).tdiv (gplainS u1))) ∧ (wu64 ((gplainS u0).tdiv (gplainS u1))) ≤ 18446744073709551615) ∧
      ((0 ≤ ((gplainS u0).tmod (gplainS u1)) ∧ ((gplainS u0).tmod (gplainS u1)) ≤ 18446744073709551615) ∧
      (K ((gwordsS (wu64 ((gplainS u0).tdiv (gplainS u1)))), (gwordsS ((gplainS u0).tmod (gplainS u1))))))))))))))))))

def gcom_vc (u0 : List Int) (u1 : List Int) (K : (List Int) → Prop) : Prop :=
  (u0.length ≤ 140737488355328 →
    (u1.length ≤ 140737488355328 →
    (∃ inv13 : (List Int) → (List Int) → Prop, ∃ mu13 : (List Int) → (List Int) → Nat, inv13 u0 u1 ∧
    (∀ (x0 : List Int) (x1 : List Int), inv13 x0 x1 →
    (((decide ((x1.length : Int) > 2)) = false) ∧
    ((((x1.length : Int) == 0) = true →
      (K x0)) ∧
    (((x1.length : Int) == 0) = false →
      (((decide ((x0.length : Int) > 2)) = false) ∧
      ((wok x0) ∧
      ((wok x1) ∧
      (∃ inv83 : Int → Int → Prop, ∃ mu83 : Int → Int → Nat, inv83 (gplainS x0) (gplainS x1) ∧
      (∀ (x9 : Int) (x10 : Int), inv83 x9 x10 →
      (((decide (x10 > 0)) = true →
        ((x10 ≠ 0) ∧
        (inv83 x10 (x9.tmod x10) ∧ mu83 x10 (x9.tmod x10) < mu83 x9 x10))) ∧
      ((decide (x10 > 0)) = false →
        ((0 ≤ x9 ∧ x9 ≤ 18446744073709551615) ∧
        ((gwordsS x9).length ≤ 140737488355328 →
        (K (gwordsS x9))))))))))))))))))

def ggive_vc (u0 : BInt) (u1 : Bool) (u2 : List Int) (K : BInt → Prop) : Prop :=
  (u0.abs.length ≤ 140737488355328 →
    (u2.length ≤ 140737488355328 →
    (K (⟨u1 && (decide ((u2.length : Int) > 0)), u2⟩ : BInt))))
def ggive (u0 : BInt) (u1 : Bool) (u2 : List Int) : BInt :=
  (⟨u1 && (decide ((u2.length : Int) > 0)), u2⟩ : BInt)
theorem ggive_ok (u0 : BInt) (u1 : Bool) (u2 : List Int) : ggive_vc u0 u1 u2 (fun r => r = ggive u0 u1 u2) := (fun _ => (fun _ => (by rfl)))

def ggiveA_vc (u0 : BRat) (u1 : Bool) (u2 : List Int) (K : BRat → Prop) : Prop :=
  (u0.a.abs.length ≤ 140737488355328 →
    (u0.b.abs.length ≤ 140737488355328 →
    (u2.length ≤ 140737488355328 →
    (K (⟨(⟨u1 && (decide ((u2.length : Int) > 0)), u2⟩ : BInt), u0.b⟩ : BRat)))))
def ggiveA (u0 : BRat) (u1 : Bool) (u2 : List Int) : BRat :=
  (⟨(⟨u1 && (decide ((u2.length : Int) > 0)), u2⟩ : BInt), u0.b⟩ : BRat)
theorem ggiveA_ok (u0 : BRat) (u1 : Bool) (u2 : List Int) : ggiveA_vc u0 u1 u2 (fun r => r = ggiveA u0 u1 u2) := (fun _ => (fun _ => (fun _ => (by rfl))))

def ggiveB_vc (u0 : BRat) (u1 : Bool) (u2 : List Int) (K : BRat → Prop) : Prop :=
  (u0.a.abs.length ≤ 140737488355328 →
    (u0.b.abs.length ≤ 140737488355328 →
    (u2.length ≤ 140737488355328 →
    (K (⟨u0.a, (⟨u1 && (decide ((u2.length : Int) > 0)), u2⟩ : BInt)⟩ : BRat)))))
def ggiveB (u0 : BRat) (u1 : Bool) (u2 : List Int) : BRat :=
  (⟨u0.a, (⟨u1 && (decide ((u2.length : Int) > 0)), u2⟩ : BInt)⟩ : BRat)
theorem ggiveB_ok (u0 : BRat) (u1 : Bool) (u2 : List Int) : ggiveB_vc u0 u1 u2 (fun r => r = ggiveB u0 u1 u2) := (fun _ => (fun _ => (fun _ => (by rfl))))

def gnew_vc (u0 : Int) (K : BInt → Prop) : Prop :=
  (((decide (u0 < 0)) = true →
      ((0 ≤ (wu64 (0 - (wu64 u0))) ∧ (wu64 (0 - (wu64 u0))) ≤ 18446744073709551615) ∧
      ((gwordsS (wu64 (0 - (wu64 u0)))).length ≤ 140737488355328 →
      (∀ r65, (ggive (⟨false, []⟩ : BInt) (decide (u0 < 0)) (gwordsS (wu64 (0 - (wu64 u0))))) = r65 →
      (r65.abs.length ≤ 140737488355328 →
      (K r65)))))) ∧
    ((decide (u0 < 0)) = false →
      ((0 ≤ (wu64 u0) ∧ (wu64 u0) ≤ 18446744073709551615) ∧
      ((gwordsS (wu64 u0)).length ≤ 140737488355328 →
      (∀ r110, (ggive (⟨false, []⟩ : BInt) (decide (u0 < 0)) (gwordsS (wu64 u0))) = r110 →
      (r110.abs.length ≤ 140737488355328 →
      (K r110)))))))

def rden_vc (u0 : BRat) (K : BRat → Prop) : Prop :=
  (u0.a.abs.length ≤ 140737488355328 →
    (u0.b.abs.length ≤ 140737488355328 →
    ((((u0.b.abs.length : Int) == 0) = false) ∧
    (K u0))))

def gnegA_vc (u0 : BRat) (K : BRat → Prop) : Prop :=
  (u0.a.abs.length ≤ 140737488355328 →
    (u0.b.abs.length ≤ 140737488355328 →
    ((u0.a.abs.length ≤ 1000000) ∧
    (K (ggiveA u0 (!u0.a.neg) (gtwinS u0.a.abs))))))

def gnegB_vc (u0 : BRat) (K : BRat → Prop) : Prop :=
  (u0.a.abs.length ≤ 140737488355328 →
    (u0.b.abs.length ≤ 140737488355328 →
    ((u0.b.abs.length ≤ 1000000) ∧
    (K (ggiveB u0 (!u0.b.neg) (gtwinS u0.b.abs))))))

/-! Pure proofs: no program in sight. -/
/-! ### Quotient, common divisor, sum; whole numbers with a sign -/
def gdivS (a b : List Int) : List Int × List Int := (ws (wv a / wv b), ws (wv a % wv b))
theorem gplain_small {l : List Int} (h : wv l < 18446744073709551616) : gplainS l = (wv l : Int) := by
  unfold gplainS
  rw [Nat.mod_eq_of_lt h]
theorem ws_two {n : Nat} (h : n < 18446744073709551616) : (ws n).length ≤ 2 := ws_len 2 n h
theorem can_wok {l : List Int} (h : l = ws (wv l)) : wok l := by rw [h]; exact ws_wok _
theorem can_two {l : List Int} (h : l = ws (wv l)) (hl : wv l < 18446744073709551616) : l.length ≤ 2 := by rw [h]; exact ws_two hl
theorem gdiv_ok (a b : List Int) (h : a = ws (wv a) ∧ b = ws (wv b) ∧ wv a < 18446744073709551616 ∧ wv b < 18446744073709551616 ∧ 0 < wv b) : gdiv_vc a b (fun r => r = gdivS a b) := by
  obtain ⟨ha, hb, la, lb, h0⟩ := h
  have a2 := can_two ha la
  have b2 := can_two hb lb
  intro _ _
  have hb0 : b.length ≠ 0 := by
    intro hc
    rw [List.length_eq_zero_iff] at hc
    rw [hc] at h0
    exact absurd h0 (Nat.not_lt_zero _)
  unfold gdivS
  refine ⟨by rw [beq_eq_false_iff_ne]; omega, ⟨by omega, by omega, ha, hb⟩, fun h1 => ⟨by omega, fun _ => ?_⟩, fun h1 => ⟨by rw [decide_eq_true_eq]; omega, can_wok ha, can_wok hb, ?_⟩⟩
  · have h1 := of_decide_eq_true h1
    have hlt : wv a < wv b := by
      unfold gcmpS at h1
      split at h1
      · assumption
      · split at h1 <;> omega
    rw [Nat.div_eq_of_lt hlt, Nat.mod_eq_of_lt hlt, ws_zero, ← ha]
    rfl
  · rw [gplain_small la, gplain_small lb]
    have e1 : ((wv a : Nat) : Int).tdiv ((wv b : Nat) : Int) = ((wv a / wv b : Nat) : Int) := by rw [Int.tdiv_eq_ediv_of_nonneg (by omega)]; norm_cast
    have e2 : ((wv a : Nat) : Int).tmod ((wv b : Nat) : Int) = ((wv a % wv b : Nat) : Int) := by rw [Int.tmod_eq_emod_of_nonneg (by omega)]; norm_cast
    have l1 : wv a / wv b ≤ wv a := Nat.div_le_self _ _
    have l2 : wv a % wv b < wv b := Nat.mod_lt _ h0
    rw [e1, e2]
    generalize wv a / wv b = Q at *
    generalize wv a % wv b = R at *
    rw [wu64_eq _ (by omega)]
    refine ⟨by omega, by omega, by omega, by omega, ?_⟩
    unfold gwordsS
    rw [Int.toNat_natCast, Int.toNat_natCast]
def gcomS (a b : List Int) : List Int := ws (Nat.gcd (wv a) (wv b))
theorem gcom_ok (a b : List Int) (h : a = ws (wv a) ∧ b = ws (wv b) ∧ wv a < 18446744073709551616 ∧ wv b < 18446744073709551616) : gcom_vc a b (fun r => r = gcomS a b) := by
  obtain ⟨ha, hb, la, lb⟩ := h
  have a2 := can_two ha la
  have b2 := can_two hb lb
  intro _ _
  unfold gcomS
  refine ⟨fun x y => x = a ∧ y = b, fun _ _ => 0, ⟨rfl, rfl⟩, ?_⟩
  rintro x y ⟨hx, hy⟩
  rw [hx, hy]
  clear hx hy
  refine ⟨by rw [decide_eq_false_iff_not]; omega, fun h1 => ?_, fun h1 => ⟨by rw [decide_eq_false_iff_not]; omega, can_wok ha, can_wok hb, fun x y => ∃ p q : Nat, x = p ∧ y = q ∧ p < 18446744073709551616 ∧ q < 18446744073709551616 ∧ Nat.gcd p q = Nat.gcd (wv a) (wv b), fun _ y => y.toNat, ⟨_, _, gplain_small la, gplain_small lb, la, lb, rfl⟩, ?_⟩⟩
  · have h1 : b.length = 0 := by have : (b.length : Int) = 0 := by simpa using h1
                                 omega
    rw [List.length_eq_zero_iff] at h1
    subst h1
    show a = ws (Nat.gcd (wv a) 0)
    rw [Nat.gcd_zero_right]
    exact ha
  · rintro _ _ ⟨p, q, rfl, rfl, hp, hq, hg⟩
    refine ⟨fun h2 => ⟨by have := of_decide_eq_true h2; omega, ⟨q, p % q, rfl, ?_, hq, ?_, ?_⟩, ?_⟩, fun h2 => ⟨by omega, fun _ => ?_⟩⟩
    · rw [Int.tmod_eq_emod_of_nonneg (by omega)]
      norm_cast
    · have := of_decide_eq_true h2
      have : p % q < q := Nat.mod_lt _ (by omega)
      omega
    · rw [← hg, Nat.gcd_comm p q, Nat.gcd_rec q p, Nat.gcd_comm]
    · have := of_decide_eq_true h2
      have e : ((p : Nat) : Int).tmod ((q : Nat) : Int) = ((p % q : Nat) : Int) := by rw [Int.tmod_eq_emod_of_nonneg (by omega)]; norm_cast
      rw [e]
      have : p % q < q := Nat.mod_lt _ (by omega)
      (try dsimp only)
      omega
    · have := of_decide_eq_false h2
      have hq0 : q = 0 := by omega
      subst hq0
      rw [Nat.gcd_zero_right] at hg
      unfold gwordsS
      rw [Int.toNat_natCast, hg]
/-- A whole number as it lies in words. -/
def bz (z : Int) : BInt := ⟨decide (z < 0), ws z.natAbs⟩
def iv (x : BInt) : Int := if x.neg = true then -(wv x.abs : Int) else (wv x.abs : Int)
def bk (x : BInt) : Prop := x = bz (iv x) ∧ (iv x).natAbs < 18446744073709551616
theorem iv_bz (z : Int) : iv (bz z) = z := by
  unfold iv bz
  dsimp only
  rw [wv_ws]
  by_cases h : z < 0
  · rw [decide_eq_true h, if_pos rfl]
    omega
  · rw [decide_eq_false h, if_neg (by simp)]
    omega
theorem bk_bz {z : Int} (h : z.natAbs < 18446744073709551616) : bk (bz z) := by
  unfold bk
  rw [iv_bz]
  exact ⟨rfl, h⟩
theorem bk_abs {x : BInt} (h : bk x) : x.abs = ws (wv x.abs) ∧ wv x.abs = (iv x).natAbs ∧ wv x.abs < 18446744073709551616 ∧ x.neg = decide (iv x < 0) := by
  obtain ⟨h1, h2⟩ := h
  generalize iv x = z at *
  subst h1
  unfold bz
  dsimp only
  rw [wv_ws]
  exact ⟨rfl, rfl, h2, rfl⟩
theorem gnew_ok (x : Int) (h : -9223372036854775808 ≤ x ∧ x ≤ 9223372036854775807) : gnew_vc x (fun r => r = bz x) := by
  refine ⟨fun h1 => ?_, fun h1 => ?_⟩
  · have h1' := of_decide_eq_true h1
    have e : wu64 (0 - wu64 x) = -x := by
      rw [wu64_neg x (by omega), wu64_neg _ (by omega)]
      omega
    rw [e]
    refine ⟨by omega, fun _ r hr _ => ?_⟩
    subst hr
    show ggive _ _ _ = _
    unfold ggive bz gwordsS
    have e2 : (-x).toNat = x.natAbs := by omega
    have e3 : decide (((ws x.natAbs).length : Int) > 0) = true := by
      rw [decide_eq_true_eq]
      have : ¬ (ws x.natAbs).length = 0 := fun hc => by rw [ws_len0] at hc; omega
      omega
    rw [e2, e3, Bool.and_true]
  · have h1' := of_decide_eq_false h1
    rw [wu64_eq x (by omega)]
    refine ⟨by omega, fun _ r hr _ => ?_⟩
    subst hr
    show ggive _ _ _ = _
    unfold ggive bz gwordsS
    have e2 : x.toNat = x.natAbs := by omega
    rw [h1, Bool.false_and, e2]
def rdenS (r : BRat) : BRat := r
theorem rden_ok (r : BRat) (h : r.b.abs ≠ []) : rden_vc r (fun x => x = rdenS r) := by
  intro _ _
  refine ⟨?_, rfl⟩
  rw [beq_eq_false_iff_ne]
  intro hc
  have : r.b.abs.length = 0 := by omega
  exact h (List.length_eq_zero_iff.1 this)
def gnegAS (r : BRat) : BRat := ⟨⟨(!r.a.neg) && decide ((r.a.abs.length : Int) > 0), r.a.abs⟩, r.b⟩
theorem gnegA_ok (r : BRat) (h : r.a.abs.length ≤ 1000000) : gnegA_vc r (fun x => x = gnegAS r) := fun _ _ => ⟨h, rfl⟩
def gnegBS (r : BRat) : BRat := ⟨r.a, ⟨(!r.b.neg) && decide ((r.b.abs.length : Int) > 0), r.b.abs⟩⟩
theorem gnegB_ok (r : BRat) (h : r.b.abs.length ≤ 1000000) : gnegB_vc r (fun x => x = gnegBS r) := fun _ _ => ⟨h, rfl⟩

end Go.Proofs.Ytdndfbamhnchfaa
set_option linter.unusedVariables false
set_option linter.unusedSimpArgs false
namespace Go.Proofs.Ytdndfbamhnchfaa
open Go.Sy Go.RowKit
def rnorm_vc (u0 : BRat) (K : BRat → Prop) : Prop :=
  (u0.a.abs.length ≤ 140737488355328 →
    (u0.b.abs.length ≤ 140737488355328 →
    ((((u0.b.abs.length : Int) == 0) = false) ∧
    ((u0.b.neg = true →
      ((u0.a.abs.length ≤ 1000000) ∧
      (((gnegAS u0).b.abs.length ≤ 1000000) ∧
      (((((gnegBS (gnegAS u0)).a.abs.length : Int) == 0) = true →
        ((0 ≤ (1 : Int) ∧ (1 : Int) ≤ 18446744073709551615) ∧
        ((gwordsS 1).length ≤ 140737488355328 →
        (∀ r178, (ggiveB (gnegBS (gnegAS u0)) false (gwordsS 1)) = r178 →
        (r178.a.abs.length ≤ 140737488355328 →
        (r178.b.abs.length ≤ 140737488355328 →
        (K r178))))))) ∧
      ((((gnegBS (gnegAS u0)).a.abs.length : Int) == 0) = false →
        (((((gnegBS (gnegAS u0)).b.abs.length : Int) == 1) = true →
          ((0 ≤ (0 : Int) ∧ (0 : Int) < ((gnegBS (gnegAS u0)).b.abs.length : Int)) ∧
          (∀ q239, (gnegBS (gnegAS u0)).b.abs[(0 : Int).toNat]? = some q239 →
          (((q239 == 1) = true →
            (K (gnegBS (gnegAS u0)))) ∧
          ((q239 == 1) = false →
            (((gnegBS (gnegAS u0)).a.abs = ws (wv (gnegBS (gnegAS u0)).a.abs) ∧ (gnegBS (gnegAS u0)).b.abs = ws (wv (gnegBS (gnegAS u0)).b.abs) ∧ wv (gnegBS (gnegAS u0)).a.abs < 18446744073709551616 ∧ wv (gnegBS (gnegAS u0)).b.abs < 18446744073709551616) ∧
            (((((gcomS (gnegBS (gnegAS u0)).a.abs (gnegBS (gnegAS u0)).b.abs).length : Int) == 1) = true →
              ((0 ≤ (0 : Int) ∧ (0 : Int) < ((gcomS (gnegBS (gnegAS u0)).a.abs (gnegBS (gnegAS u0)).b.abs).length : Int)) ∧
              (∀ q319, (gcomS (gnegBS (gnegAS u0)).a.abs (gnegBS (gnegAS u0)).b.abs)[(0 : Int).toNat]? = some q319 →
              (((q319 == 1) = true →
                (K (gnegBS (gnegAS u0)))) ∧
              ((q319 == 1) = false →
                (((gnegBS (gnegAS u0)).a.abs = ws (wv (gnegBS (gnegAS u0)).a.abs) ∧ (gcomS (gnegBS (gnegAS u0)).a.abs (gnegBS (gnegAS u0)).b.abs) = ws (wv (gcomS (gnegBS (gnegAS u0)).a.abs (gnegBS (gnegAS u0)).b.abs)) ∧ wv (gnegBS (gnegAS u0)).a.abs < 18446744073709551616 ∧ wv (gcomS (gnegBS (gnegAS u0)).a.abs (gnegBS (gnegAS u0)).b.abs) < 18446744073709551616 ∧ 0 < wv (gcomS (gnegBS (gnegAS u0)).a.abs (gnegBS (gnegAS u0)).b.abs)) ∧
                ((gdivS (gnegBS (gnegAS u0)).a.abs (gcomS (gnegBS (gnegAS u0)).a.abs (gnegBS (gnegAS u0)).b.abs)).1.length ≤ 140737488355328 →
                ((gdivS (gnegBS (gnegAS u0)).a.abs (gcomS (gnegBS (gnegAS u0)).a.abs (gnegBS (gnegAS u0)).b.abs)).2.length ≤ 140737488355328 →
                (((gnegBS (gnegAS u0)).b.abs = ws (wv (gnegBS (gnegAS u0)).b.abs) ∧ (gcomS (gnegBS (gnegAS u0)).a.abs (gnegBS (gnegAS u0)).b.abs) = ws (wv (gcomS (gnegBS (gnegAS u0)).a.abs (gnegBS (gnegAS u0)).b.abs)) ∧ wv (gnegBS (gnegAS u0)).b.abs < 18446744073709551616 ∧ wv (gcomS (gnegBS (gnegAS u0)).a.abs (gnegBS (gnegAS u0)).b.abs) < 18446744073709551616 ∧ 0 < wv (gcomS (gnegBS (gnegAS u0)).a.abs (gnegBS (gnegAS u0)).b.abs)) ∧
                ((gdivS (gnegBS (gnegAS u0)).b.abs (gcomS (gnegBS (gnegAS u0)).a.abs (gnegBS (gnegAS u0)).b.abs)).1.length ≤ 140737488355328 →
                ((gdivS (gnegBS (gnegAS u0)).b.abs (gcomS (gnegBS (gnegAS u0)).a.abs (gnegBS (gnegAS u0)).b.abs)).2.length ≤ 140737488355328 →
                (K (⟨(⟨(gnegBS (gnegAS u0)).a.neg, (gdivS (gnegBS (gnegAS u0)).a.abs (gcomS (gnegBS (gnegAS u0)).a.abs (gnegBS (gnegAS u0)).b.abs)).1⟩ : BInt), (⟨(gnegBS (gnegAS u0)).b.neg, (gdivS (gnegBS (gnegAS u0)).b.abs (gcomS (gnegBS (gnegAS u0)).a.abs (gnegBS (gnegAS u0)).b.abs)).1⟩ : BInt)⟩ : BRat))))))))))))) ∧
            ((((gcomS (gnegBS (gnegAS u0)).a.abs (gnegBS (gnegAS u0)).b.abs).length : Int) == 1) = false →
              (((gnegBS (gnegAS u0)).a.abs = ws (wv (gnegBS (gnegAS u0)).a.abs) ∧ (gcomS (gnegBS (gnegAS u0)).a.abs (gnegBS (gnegAS u0)).b.abs) = ws (wv (gcomS (gnegBS (gnegAS u0)).a.abs (gnegBS (gnegAS u0)).b.abs)) ∧ wv (gnegBS (gnegAS u0)).a.abs < 18446744073709551616 ∧ wv (gcomS (gnegBS (gnegAS u0)).a.abs (gnegBS (gnegAS u0)).b.abs) < 18446744073709551616 ∧ 0 < wv (gcomS (gnegBS (gnegAS u0)).a.abs (gnegBS (gnegAS u0)).b.abs)) ∧
              ((gdivS (gnegBS (gnegAS u0)).a.abs (gcomS (gnegBS (gnegAS u0)).a.abs (gnegBS (gnegAS u0)).b.abs)).1.length ≤ 140737488355328 →
              ((gdivS (gnegBS (gnegAS u0)).a.abs (gcomS (gnegBS (gnegAS u0)).a.abs (gnegBS (gnegAS u0)).b.abs)).2.length ≤ 140737488355328 →
              (((gnegBS (gnegAS u0)).b.abs = ws (wv (gnegBS (gnegAS u0)).b.abs) ∧ (gcomS (gnegBS (gnegAS u0)).a.abs (gnegBS (gnegAS u0)).b.abs) = ws (wv (gcomS (gnegBS (gnegAS u0)).a.abs (gnegBS (gnegAS u0)).b.abs)) ∧ wv (gnegBS (gnegAS u0)).b.abs < 18446744073709551616 ∧ wv (gcomS (gnegBS (gnegAS u0)).a.abs (gnegBS (gnegAS u0)).b.abs) < 18446744073709551616 ∧ 0 < wv (gcomS (gnegBS (gnegAS u0)).a.abs (gnegBS (gnegAS u0)).b.abs)) ∧
              ((gdivS (gnegBS (gnegAS u0)).b.abs (gcomS (gnegBS (gnegAS u0)).a.abs (gnegBS (gnegAS u0)).b.abs)).1.length ≤ 140737488355328 →
              ((gdivS (gnegBS (gnegAS u0)).b.abs (gcomS (gnegBS (gnegAS u0)).a.abs (gnegBS (gnegAS u0)).b.abs)).2.length ≤ 140737488355328 →
              (K (⟨(⟨(gnegBS (gnegAS u0)).a.neg, (gdivS (gnegBS (gnegAS u0)).a.abs (gcomS (gnegBS (gnegAS u0)).a.abs (gnegBS (gnegAS u0)).b.abs)).1⟩ : BInt), (⟨(gnegBS (gnegAS u0)).b.neg, (gdivS (gnegBS (gnegAS u0)).b.abs (gcomS (gnegBS (gnegAS u0)).a.abs (gnegBS (gnegAS u0)).b.abs)).1⟩ : BInt)⟩ : BRat)))))))))))))))) ∧
        ((((gnegBS (gnegAS u0)).b.abs.length : Int) == 1) = false →
          (((gnegBS (gnegAS u0)).a.abs = ws (wv (gnegBS (gnegAS u0)).a.abs) ∧ (gnegBS (gnegAS u0)).b.abs = ws (wv (gnegBS (gnegAS u0)).b.abs) ∧ wv (gnegBS (gnegAS u0)).a.abs < 18446744073709551616 ∧ wv (gnegBS (gnegAS u0)).b.abs < 18446744073709551616) ∧
          (((((gcomS (gnegBS (gnegAS u0)).a.abs (gnegBS (gnegAS u0)).b.abs).length : Int) == 1) = true →
            ((0 ≤ (0 : Int) ∧ (0 : Int) < ((gcomS (gnegBS (gnegAS u0)).a.abs (gnegBS (gnegAS u0)).b.abs).length : Int)) ∧
            (∀ q657, (gcomS (gnegBS (gnegAS u0)).a.abs (gnegBS (gnegAS u0)).b.abs)[(0 : Int).toNat]? = some q657 →
            (((q657 == 1) = true →
              (K (gnegBS (gnegAS u0)))) ∧
            ((q657 == 1) = false →
              (((gnegBS (gnegAS u0)).a.abs = ws (wv (gnegBS (gnegAS u0)).a.abs) ∧ (gcomS (gnegBS (gnegAS u0)).a.abs (gnegBS (gnegAS u0)).b.abs) = ws (wv (gcomS (gnegBS (gnegAS u0)).a.abs (gnegBS (gnegAS u0)).b.abs)) ∧ wv (gnegBS (gnegAS u0)).a.abs < 18446744073709551616 ∧ wv (gcomS (gnegBS (gnegAS u0)).a.abs (gnegBS (gnegAS u0)).b.abs) < 18446744073709551616 ∧ 0 < wv (gcomS (gnegBS (gnegAS u0)).a.abs (gnegBS (gnegAS u0)).b.abs)) ∧
              ((gdivS (gnegBS (gnegAS u0)).a.abs (gcomS (gnegBS (gnegAS u0)).a.abs (gnegBS (gnegAS u0)).b.abs)).1.length ≤ 140737488355328 →
              ((gdivS (gnegBS (gnegAS u0)).a.abs (gcomS (gnegBS (gnegAS u0)).a.abs (gnegBS (gnegAS u0)).b.abs)).2.length ≤ 140737488355328 →
              (((gnegBS (gnegAS u0)).b.abs = ws (wv (gnegBS (gnegAS u0)).b.abs) ∧ (gcomS (gnegBS (gnegAS u0)).a.abs (gnegBS (gnegAS u0)).b.abs) = ws (wv (gcomS (gnegBS (gnegAS u0)).a.abs (gnegBS (gnegAS u0)).b.abs)) ∧ wv (gnegBS (gnegAS u0)).b.abs < 18446744073709551616 ∧ wv (gcomS (gnegBS (gnegAS u0)).a.abs (gnegBS (gnegAS u0)).b.abs) < 18446744073709551616 ∧ 0 < wv (gcomS (gnegBS (gnegAS u0)).a.abs (gnegBS (gnegAS u0)).b.abs)) ∧
              ((gdivS (gnegBS (gnegAS u0)).b.abs (gcomS (gnegBS (gnegAS u0)).a.abs (gnegBS (gnegAS u0)).b.abs)).1.length ≤ 140737488355328 →
              ((gdivS (gnegBS (gnegAS u0)).b.abs (gcomS (gnegBS (gnegAS u0)).a.abs (gnegBS (gnegAS u0)).b.abs)).2.length ≤ 140737488355328 →
              (K (⟨(⟨(gnegBS (gnegAS u0)).a.neg, (gdivS (gnegBS (gnegAS u0)).a.abs (gcomS (gnegBS (gnegAS u0)).a.abs (gnegBS (gnegAS u0)).b.abs)).1⟩ : BInt), (⟨(gnegBS (gnegAS u0)).b.neg, (gdivS (gnegBS (gnegAS u0)).b.abs (gcomS (gnegBS (gnegAS u0)).a.abs (gnegBS (gnegAS u0)).b.abs)).1⟩ : BInt)⟩ : BRat))))))))))))) ∧
          ((((gcomS (gnegBS (gnegAS u0)).a.abs (gnegBS (gnegAS u0)).b.abs).length : Int) == 1) = false →
            (((gnegBS (gnegAS u0)).a.abs = ws (wv (gnegBS (gnegAS u0)).a.abs) ∧ (gcomS (gnegBS (gnegAS u0)).a.abs (gnegBS (gnegAS u0)).b.abs) = ws (wv (gcomS (gnegBS (gnegAS u0)).a.abs (gnegBS (gnegAS u0)).b.abs)) ∧ wv (gnegBS (gnegAS u0)).a.abs < 18446744073709551616 ∧ wv (gcomS (gnegBS (gnegAS u0)).a.abs (gnegBS (gnegAS u0)).b.abs) < 18446744073709551616 ∧ 0 < wv (gcomS (gnegBS (gnegAS u0)).a.abs (gnegBS (gnegAS u0)).b.abs)) ∧
            ((gdivS (gnegBS (gnegAS u0)).a.abs (gcomS (gnegBS (gnegAS u0)).a.abs (gnegBS (gnegAS u0)).b.abs)).1.length ≤ 140737488355328 →
            ((gdivS (gnegBS (gnegAS u0)).a.abs (gcomS (gnegBS (gnegAS u0)).a.abs (gnegBS (gnegAS u0)).b.abs)).2.length ≤ 140737488355328 →
            (((gnegBS (gnegAS u0)).b.abs = ws (wv (gnegBS (gnegAS u0)).b.abs) ∧ (gcomS (gnegBS (gnegAS u0)).a.abs (gnegBS (gnegAS u0)).b.abs) = ws (wv (gcomS (gnegBS (gnegAS u0)).a.abs (gnegBS (gnegAS u0)).b.abs)) ∧ wv (gnegBS (gnegAS u0)).b.abs < 18446744073709551616 ∧ wv (gcomS (gnegBS (gnegAS u0)).a.abs (gnegBS (gnegAS u0)).b.abs) < 18446744073709551616 ∧ 0 < wv (gcomS (gnegBS (gnegAS u0)).a.abs (gnegBS (gnegAS u0)).b.abs)) ∧
            ((gdivS (gnegBS (gnegAS u0)).b.abs (gcomS (gnegBS (gnegAS u0)).a.abs (gnegBS (gnegAS u0)).b.abs)).1.length ≤ 140737488355328 →
            ((gdivS (gnegBS (gnegAS u0)).b.abs (gcomS (gnegBS (gnegAS u0)).a.abs (gnegBS (gnegAS u0)).b.abs)).2.length ≤ 140737488355328 →
            (K (⟨(⟨(gnegBS (gnegAS u0)).a.neg, (gdivS (gnegBS (gnegAS u0)).a.abs (gcomS (gnegBS (gnegAS u0)).a.abs (gnegBS (gnegAS u0)).b.abs)).1⟩ : BInt), (⟨(gnegBS (gnegAS u0)).b.neg, (gdivS (gnegBS (gnegAS u0)).b.abs (gcomS (gnegBS (gnegAS u0)).a.abs (gnegBS (gnegAS u0)).b.abs)).1⟩ : BInt)⟩ : BRat)))))))))))))))))) ∧
    (u0.b.neg = false →
      ((((u0.a.abs.length : Int) == 0) = true →
        ((0 ≤ (1 : Int) ∧ (1 : Int) ≤ 18446744073709551615) ∧
        ((gwordsS 1).length ≤ 140737488355328 →
        (∀ r985, (ggiveB u0 false (gwordsS 1)) = r985 →
        (r985.a.abs.length ≤ 140737488355328 →
        (r985.b.abs.length ≤ 140737488355328 →
        (K r985))))))) ∧
      (((u0.a.abs.length : Int) == 0) = false →
        ((((u0.b.abs.length : Int) == 1) = true →
          ((0 ≤ (0 : Int) ∧ (0 : Int) < (u0.b.abs.length : Int)) ∧
          (∀ q1046, u0.b.abs[(0 : Int).toNat]? = some q1046 →
          (((q1046 == 1) = true →
            (K u0)) ∧
          ((q1046 == 1) = false →
            ((u0.a.abs = ws (wv u0.a.abs) ∧ u0.b.abs = ws (wv u0.b.abs) ∧ wv u0.a.abs < 18446744073709551616 ∧ wv u0.b.abs < 18446744073709551616) ∧
            (((((gcomS u0.a.abs u0.b.abs).length : Int) == 1) = true →
              ((0 ≤ (0 : Int) ∧ (0 : Int) < ((gcomS u0.a.abs u0.b.abs).length : Int)) ∧
              (∀ q1126, (gcomS u0.a.abs u0.b.abs)[(0 : Int).toNat]? = some q1126 →
              (((q1126 == 1) = true →
                (K u0)) ∧
              ((q1126 == 1) = false →
                ((u0.a.abs = ws (wv u0.a.abs) ∧ (gcomS u0.a.abs u0.b.abs) = ws (wv (gcomS u0.a.abs u0.b.abs)) ∧ wv u0.a.abs < 18446744073709551616 ∧ wv (gcomS u0.a.abs u0.b.abs) < 18446744073709551616 ∧ 0 < wv (gcomS u0.a.abs u0.b.abs)) ∧
                ((gdivS u0.a.abs (gcomS u0.a.abs u0.b.abs)).1.length ≤ 140737488355328 →
                ((gdivS u0.a.abs (gcomS u0.a.abs u0.b.abs)).2.length ≤ 140737488355328 →
                ((u0.b.abs = ws (wv u0.b.abs) ∧ (gcomS u0.a.abs u0.b.abs) = ws (wv (gcomS u0.a.abs u0.b.abs)) ∧ wv u0.b.abs < 18446744073709551616 ∧ wv (gcomS u0.a.abs u0.b.abs) < 18446744073709551616 ∧ 0 < wv (gcomS u0.a.abs u0.b.abs)) ∧
                ((gdivS u0.b.abs (gcomS u0.a.abs u0.b.abs)).1.length ≤ 140737488355328 →
                ((gdivS u0.b.abs (gcomS u0.a.abs u0.b.abs)).2.length ≤ 140737488355328 →
                (K (⟨(⟨u0.a.neg, (gdivS u0.a.abs (gcomS u0.a.abs u0.b.abs)).1⟩ : BInt), (⟨u0.b.neg, (gdivS u0.b.abs (gcomS u0.a.abs u0.b.abs)).1⟩ : BInt)⟩ : BRat))))))))))))) ∧
            ((((gcomS u0.a.abs u0.b.abs).length : Int) == 1) = false →
              ((u0.a.abs = ws (wv u0.a.abs) ∧ (gcomS u0.a.abs u0.b.abs) = ws (wv (gcomS u0.a.abs u0.b.abs)) ∧ wv u0.a.abs < 18446744073709551616 ∧ wv (gcomS u0.a.abs u0.b.abs) < 18446744073709551616 ∧ 0 < wv (gcomS u0.a.abs u0.b.abs)) ∧
              ((gdivS u0.a.abs (gcomS u0.a.abs u0.b.abs)).1.length ≤ 140737488355328 →
              ((gdivS u0.a.abs (gcomS u0.a.abs u0.b.abs)).2.length ≤ 140737488355328 →
              ((u0.b.abs = ws (wv u0.b.abs) ∧ (gcomS u0.a.abs u0.b.abs) = ws (wv (gcomS u0.a.abs u0.b.abs)) ∧ wv u0.b.abs < 18446744073709551616 ∧ wv (gcomS u0.a.abs u0.b.abs) < 18446744073709551616 ∧ 0 < wv (gcomS u0.a.abs u0.b.abs)) ∧
              ((gdivS u0.b.abs (gcomS u0.a.abs u0.b.abs)).1.length ≤ 140737488355328 →
              ((gdivS u0.b.abs (gcomS u0.a.abs u0.b.abs)).2.length ≤ 140737488355328 →
              (K (⟨(⟨u0.a.neg, (gdivS u0.a.abs (gcomS u0.a.abs u0.b.abs)).1⟩ : BInt), (⟨u0.b.neg, (gdivS u0.b.abs (gcomS u0.a.abs u0.b.abs)).1⟩ : BInt)⟩ : BRat)))))))))))))))) ∧
        (((u0.b.abs.length : Int) == 1) = false →
          ((u0.a.abs = ws (wv u0.a.abs) ∧ u0.b.abs = ws (wv u0.b.abs) ∧ wv u0.a.abs < 18446744073709551616 ∧ wv u0.b.abs < 18446744073709551616) ∧
          (((((gcomS u0.a.abs u0.b.abs).length : Int) == 1) = true →
            ((0 ≤ (0 : Int) ∧ (0 : Int) < ((gcomS u0.a.abs u0.b.abs).length : Int)) ∧
            (∀ q1464, (gcomS u0.a.abs u0.b.abs)[(0 : Int).toNat]? = some q1464 →
            (((q1464 == 1) = true →
              (K u0)) ∧
            ((q1464 == 1) = false →
              ((u0.a.abs = ws (wv u0.a.abs) ∧ (gcomS u0.a.abs u0.b.abs) = ws (wv (gcomS u0.a.abs u0.b.abs)) ∧ wv u0.a.abs < 18446744073709551616 ∧ wv (gcomS u0.a.abs u0.b.abs) < 18446744073709551616 ∧ 0 < wv (gcomS u0.a.abs u0.b.abs)) ∧
              ((gdivS u0.a.abs (gcomS u0.a.abs u0.b.abs)).1.length ≤ 140737488355328 →
              ((gdivS u0.a.abs (gcomS u0.a.abs u0.b.abs)).2.length ≤ 140737488355328 →
              ((u0.b.abs = ws (wv u0.b.abs) ∧ (gcomS u0.a.abs u0.b.abs) = ws (wv (gcomS u0.a.abs u0.b.abs)) ∧ wv u0.b.abs < 18446744073709551616 ∧ wv (gcomS u0.a.abs u0.b.abs) < 18446744073709551616 ∧ 0 < wv (gcomS u0.a.abs u0.b.abs)) ∧
              ((gdivS u0.b.abs (gcomS u0.a.abs u0.b.abs)).1.length ≤ 140737488355328 →
              ((gdivS u0.b.abs (gcomS u0.a.abs u0.b.abs)).2.length ≤ 140737488355328 →
              (K (⟨(⟨u0.a.neg, (gdivS u0.a.abs (gcomS u0.a.abs u0.b.abs)).1⟩ : BInt), (⟨u0.b.neg, (gdivS u0.b.abs (gcomS u0.a.abs u0.b.abs)).1⟩ : BInt)⟩ : BRat))))))))))))) ∧
          ((((gcomS u0.a.abs u0.b.abs).length : Int) == 1) = false →
            ((u0.a.abs = ws (wv u0.a.abs) ∧ (gcomS u0.a.abs u0.b.abs) = ws (wv (gcomS u0.a.abs u0.b.abs)) ∧ wv u0.a.abs < 18446744073709551616 ∧ wv (gcomS u0.a.abs u0.b.abs) < 18446744073709551616 ∧ 0 < wv (gcomS u0.a.abs u0.b.abs)) ∧
            ((gdivS u0.a.abs (gcomS u0.a.abs u0.b.abs)).1.length ≤ 140737488355328 →
            ((gdivS u0.a.abs (gcomS u0.a.abs u0.b.abs)).2.length ≤ 140737488355328 →
            ((u0.b.abs = ws (wv u0.b.abs) ∧ (gcomS u0.a.abs u0.b.abs) = ws (wv (gcomS u0.a.abs u0.b.abs)) ∧ wv u0.b.abs < 18446744073709551616 ∧ wv (gcomS u0.a.abs u0.b.abs) < 18446744073709551616 ∧ 0 < wv (gcomS u0.a.abs u0.b.abs)) ∧
            ((gdivS u0.b.abs (gcomS u0.a.abs u0.b.abs)).1.length ≤ 140737488355328 →
            ((gdivS u0.b.abs (gcomS u0.a.abs u0.b.abs)).2.length ≤ 140737488355328 →
            (K (⟨(⟨u0.a.neg, (gdivS u0.a.abs (gcomS u0.a.abs u0.b.abs)).1⟩ : BInt), (⟨u0.b.neg, (gdivS u0.b.abs (gcomS u0.a.abs u0.b.abs)).1⟩ : BInt)⟩ : BRat))))))))))))))))))))

def gcmpAA_vc (u0 : BRat) (u1 : BRat) (K : (Int × BRat × BRat) → Prop) : Prop :=
  (u0.a.abs.length ≤ 140737488355328 →
    (u0.b.abs.length ≤ 140737488355328 →
    (u1.a.abs.length ≤ 140737488355328 →
    (u1.b.abs.length ≤ 140737488355328 →
    (((u0.a.neg != u1.a.neg) = true →
      ((u0.a.neg = true →
        (K (-1, u0, u1))) ∧
      (u0.a.neg = false →
        (K (1, u0, u1))))) ∧
    ((u0.a.neg != u1.a.neg) = false →
      ((u0.a.abs.length ≤ 1000 ∧ u1.a.abs.length ≤ 1000 ∧ u0.a.abs = ws (wv u0.a.abs) ∧ u1.a.abs = ws (wv u1.a.abs)) ∧
      ((u0.a.neg = true →
        (K (w64 (0 - (gcmpS u0.a.abs u1.a.abs)), u0, u1))) ∧
      (u0.a.neg = false →
        (K ((gcmpS u0.a.abs u1.a.abs), u0, u1)))))))))))

def gcmpBB_vc (u0 : BRat) (u1 : BRat) (K : (Int × BRat × BRat) → Prop) : Prop :=
  (u0.a.abs.length ≤ 140737488355328 →
    (u0.b.abs.length ≤ 140737488355328 →
    (u1.a.abs.length ≤ 140737488355328 →
    (u1.b.abs.length ≤ 140737488355328 →
    (((u0.b.neg != u1.b.neg) = true →
      ((u0.b.neg = true →
        (K (-1, u0, u1))) ∧
      (u0.b.neg = false →
        (K (1, u0, u1))))) ∧
    ((u0.b.neg != u1.b.neg) = false →
      ((u0.b.abs.length ≤ 1000 ∧ u1.b.abs.length ≤ 1000 ∧ u0.b.abs = ws (wv u0.b.abs) ∧ u1.b.abs = ws (wv u1.b.abs)) ∧
      ((u0.b.neg = true →
        (K (w64 (0 - (gcmpS u0.b.abs u1.b.abs)), u0, u1))) ∧
      (u0.b.neg = false →
        (K ((gcmpS u0.b.abs u1.b.abs), u0, u1)))))))))))

/-! Pure proofs: no program in sight. -/
/-! ### Products and sums of whole numbers; a ratio in lowest terms -/
theorem give_bz (z : BInt) (n : Bool) (v : Int) (h : n = decide (v < 0) ∨ v = 0) : ggive z n (ws v.natAbs) = bz v := by
  unfold ggive bz
  by_cases hv : v = 0
  · subst hv
    have e : ws (0 : Int).natAbs = [] := ws_zero
    rw [e]
    simp
  · have e : decide (((ws v.natAbs).length : Int) > 0) = true := by
      rw [decide_eq_true_eq]
      have : ¬ (ws v.natAbs).length = 0 := fun hc => by rw [ws_len0] at hc; omega
      omega
    rw [e, Bool.and_true]
    rcases h with h | h
    · rw [h]
    · exact absurd h hv
theorem bk_len {x : BInt} (hx : bk x) : wok x.abs ∧ x.abs.length ≤ 2 := by
  obtain ⟨x0, _, x2, _⟩ := bk_abs hx
  exact ⟨can_wok x0, can_two x0 x2⟩
/-- Lowest terms of a/b, b above 0; of b not 0. -/
def nrm0 (a b : Int) : BRat := ⟨bz (a.tdiv (Int.gcd a b)), bz (b.tdiv (Int.gcd a b))⟩
def nrm (a b : Int) : BRat := if b < 0 then nrm0 (-a) (-b) else nrm0 a b
theorem tdiv_abs_sign {a : Int} {g : Nat} (hg : (g : Int) ∣ a) (h0 : g ≠ 0) : (a.tdiv g).natAbs = a.natAbs / g ∧ (a.tdiv g < 0 ↔ a < 0) := by
  obtain ⟨c, rfl⟩ := hg
  have hgp : 0 < (g : Int) := by omega
  rw [Int.mul_tdiv_cancel_left _ (by omega), Int.natAbs_mul, Int.natAbs_natCast, Nat.mul_div_cancel_left _ (by omega)]
  refine ⟨rfl, fun h => Int.mul_neg_of_pos_of_neg hgp h, fun h => ?_⟩
  rcases Int.lt_or_le c 0 with hc | hc
  · exact hc
  · have := Int.mul_nonneg (Int.le_of_lt hgp) hc
    omega
theorem norm_rest (r : BRat) (ha : bk r.a) (hb : bk r.b) (h0 : 0 < iv r.b) {A : BRat → Prop} (hA : A (nrm0 (iv r.a) (iv r.b))) :
    (((((r.a.abs.length : Int) == 0) = true →
        ((0 ≤ (1 : Int) ∧ (1 : Int) ≤ 18446744073709551615) ∧
        ((gwordsS 1).length ≤ 140737488355328 →
        (∀ r994, (ggiveB r false (gwordsS 1)) = r994 →
        (r994.a.abs.length ≤ 140737488355328 →
        (r994.b.abs.length ≤ 140737488355328 →
        (A r994))))))) ∧
      (((r.a.abs.length : Int) == 0) = false →
        ((((r.b.abs.length : Int) == 1) = true →
          ((0 ≤ (0 : Int) ∧ (0 : Int) < (r.b.abs.length : Int)) ∧
          (∀ q1056, r.b.abs[(0 : Int).toNat]? = some q1056 →
          (((q1056 == 1) = true →
            (A r)) ∧
          ((q1056 == 1) = false →
            ((r.a.abs = ws (wv r.a.abs) ∧ r.b.abs = ws (wv r.b.abs) ∧ wv r.a.abs < 18446744073709551616 ∧ wv r.b.abs < 18446744073709551616) ∧
            (((((gcomS r.a.abs r.b.abs).length : Int) == 1) = true →
              ((0 ≤ (0 : Int) ∧ (0 : Int) < ((gcomS r.a.abs r.b.abs).length : Int)) ∧
              (∀ q1137, (gcomS r.a.abs r.b.abs)[(0 : Int).toNat]? = some q1137 →
              (((q1137 == 1) = true →
                (A r)) ∧
              ((q1137 == 1) = false →
                ((r.a.abs = ws (wv r.a.abs) ∧ (gcomS r.a.abs r.b.abs) = ws (wv (gcomS r.a.abs r.b.abs)) ∧ wv r.a.abs < 18446744073709551616 ∧ wv (gcomS r.a.abs r.b.abs) < 18446744073709551616 ∧ 0 < wv (gcomS r.a.abs r.b.abs)) ∧
                ((gdivS r.a.abs (gcomS r.a.abs r.b.abs)).1.length ≤ 140737488355328 →
                ((gdivS r.a.abs (gcomS r.a.abs r.b.abs)).2.length ≤ 140737488355328 →
                ((r.b.abs = ws (wv r.b.abs) ∧ (gcomS r.a.abs r.b.abs) = ws (wv (gcomS r.a.abs r.b.abs)) ∧ wv r.b.abs < 18446744073709551616 ∧ wv (gcomS r.a.abs r.b.abs) < 18446744073709551616 ∧ 0 < wv (gcomS r.a.abs r.b.abs)) ∧
                ((gdivS r.b.abs (gcomS r.a.abs r.b.abs)).1.length ≤ 140737488355328 →
                ((gdivS r.b.abs (gcomS r.a.abs r.b.abs)).2.length ≤ 140737488355328 →
                (A (⟨(⟨r.a.neg, (gdivS r.a.abs (gcomS r.a.abs r.b.abs)).1⟩ : BInt), (⟨r.b.neg, (gdivS r.b.abs (gcomS r.a.abs r.b.abs)).1⟩ : BInt)⟩ : BRat))))))))))))) ∧
            ((((gcomS r.a.abs r.b.abs).length : Int) == 1) = false →
              ((r.a.abs = ws (wv r.a.abs) ∧ (gcomS r.a.abs r.b.abs) = ws (wv (gcomS r.a.abs r.b.abs)) ∧ wv r.a.abs < 18446744073709551616 ∧ wv (gcomS r.a.abs r.b.abs) < 18446744073709551616 ∧ 0 < wv (gcomS r.a.abs r.b.abs)) ∧
              ((gdivS r.a.abs (gcomS r.a.abs r.b.abs)).1.length ≤ 140737488355328 →
              ((gdivS r.a.abs (gcomS r.a.abs r.b.abs)).2.length ≤ 140737488355328 →
              ((r.b.abs = ws (wv r.b.abs) ∧ (gcomS r.a.abs r.b.abs) = ws (wv (gcomS r.a.abs r.b.abs)) ∧ wv r.b.abs < 18446744073709551616 ∧ wv (gcomS r.a.abs r.b.abs) < 18446744073709551616 ∧ 0 < wv (gcomS r.a.abs r.b.abs)) ∧
              ((gdivS r.b.abs (gcomS r.a.abs r.b.abs)).1.length ≤ 140737488355328 →
              ((gdivS r.b.abs (gcomS r.a.abs r.b.abs)).2.length ≤ 140737488355328 →
              (A (⟨(⟨r.a.neg, (gdivS r.a.abs (gcomS r.a.abs r.b.abs)).1⟩ : BInt), (⟨r.b.neg, (gdivS r.b.abs (gcomS r.a.abs r.b.abs)).1⟩ : BInt)⟩ : BRat)))))))))))))))) ∧
        (((r.b.abs.length : Int) == 1) = false →
          ((r.a.abs = ws (wv r.a.abs) ∧ r.b.abs = ws (wv r.b.abs) ∧ wv r.a.abs < 18446744073709551616 ∧ wv r.b.abs < 18446744073709551616) ∧
          (((((gcomS r.a.abs r.b.abs).length : Int) == 1) = true →
            ((0 ≤ (0 : Int) ∧ (0 : Int) < ((gcomS r.a.abs r.b.abs).length : Int)) ∧
            (∀ q1479, (gcomS r.a.abs r.b.abs)[(0 : Int).toNat]? = some q1479 →
            (((q1479 == 1) = true →
              (A r)) ∧
            ((q1479 == 1) = false →
              ((r.a.abs = ws (wv r.a.abs) ∧ (gcomS r.a.abs r.b.abs) = ws (wv (gcomS r.a.abs r.b.abs)) ∧ wv r.a.abs < 18446744073709551616 ∧ wv (gcomS r.a.abs r.b.abs) < 18446744073709551616 ∧ 0 < wv (gcomS r.a.abs r.b.abs)) ∧
              ((gdivS r.a.abs (gcomS r.a.abs r.b.abs)).1.length ≤ 140737488355328 →
              ((gdivS r.a.abs (gcomS r.a.abs r.b.abs)).2.length ≤ 140737488355328 →
              ((r.b.abs = ws (wv r.b.abs) ∧ (gcomS r.a.abs r.b.abs) = ws (wv (gcomS r.a.abs r.b.abs)) ∧ wv r.b.abs < 18446744073709551616 ∧ wv (gcomS r.a.abs r.b.abs) < 18446744073709551616 ∧ 0 < wv (gcomS r.a.abs r.b.abs)) ∧
              ((gdivS r.b.abs (gcomS r.a.abs r.b.abs)).1.length ≤ 140737488355328 →
              ((gdivS r.b.abs (gcomS r.a.abs r.b.abs)).2.length ≤ 140737488355328 →
              (A (⟨(⟨r.a.neg, (gdivS r.a.abs (gcomS r.a.abs r.b.abs)).1⟩ : BInt), (⟨r.b.neg, (gdivS r.b.abs (gcomS r.a.abs r.b.abs)).1⟩ : BInt)⟩ : BRat))))))))))))) ∧
          ((((gcomS r.a.abs r.b.abs).length : Int) == 1) = false →
            ((r.a.abs = ws (wv r.a.abs) ∧ (gcomS r.a.abs r.b.abs) = ws (wv (gcomS r.a.abs r.b.abs)) ∧ wv r.a.abs < 18446744073709551616 ∧ wv (gcomS r.a.abs r.b.abs) < 18446744073709551616 ∧ 0 < wv (gcomS r.a.abs r.b.abs)) ∧
            ((gdivS r.a.abs (gcomS r.a.abs r.b.abs)).1.length ≤ 140737488355328 →
            ((gdivS r.a.abs (gcomS r.a.abs r.b.abs)).2.length ≤ 140737488355328 →
            ((r.b.abs = ws (wv r.b.abs) ∧ (gcomS r.a.abs r.b.abs) = ws (wv (gcomS r.a.abs r.b.abs)) ∧ wv r.b.abs < 18446744073709551616 ∧ wv (gcomS r.a.abs r.b.abs) < 18446744073709551616 ∧ 0 < wv (gcomS r.a.abs r.b.abs)) ∧
            ((gdivS r.b.abs (gcomS r.a.abs r.b.abs)).1.length ≤ 140737488355328 →
            ((gdivS r.b.abs (gcomS r.a.abs r.b.abs)).2.length ≤ 140737488355328 →
            (A (⟨(⟨r.a.neg, (gdivS r.a.abs (gcomS r.a.abs r.b.abs)).1⟩ : BInt), (⟨r.b.neg, (gdivS r.b.abs (gcomS r.a.abs r.b.abs)).1⟩ : BInt)⟩ : BRat)))))))))))))))) := by
  obtain ⟨a0, a1, a2, a3⟩ := bk_abs ha
  obtain ⟨b0, b1, b2, b3⟩ := bk_abs hb
  have hbn : r.b.neg = false := by rw [b3]; exact decide_eq_false (by omega)
  have hg0 : Nat.gcd (wv r.a.abs) (wv r.b.abs) ≠ 0 := by
    have : 0 < Nat.gcd (wv r.a.abs) (wv r.b.abs) := Nat.gcd_pos_of_pos_right _ (by omega)
    omega
  have hG : Int.gcd (iv r.a) (iv r.b) = Nat.gcd (wv r.a.abs) (wv r.b.abs) := by rw [a1, b1]; rfl
  have hone : (gwordsS 1) = [1] := by decide +kernel
  -- what comes of the division
  have hdiv : (⟨(⟨r.a.neg, (gdivS r.a.abs (gcomS r.a.abs r.b.abs)).1⟩ : BInt), (⟨r.b.neg, (gdivS r.b.abs (gcomS r.a.abs r.b.abs)).1⟩ : BInt)⟩ : BRat) = nrm0 (iv r.a) (iv r.b) := by
    unfold nrm0 gdivS gcomS
    rw [hG]
    dsimp only
    rw [wv_ws]
    obtain ⟨p1, p2⟩ := tdiv_abs_sign (a := iv r.a) (g := Nat.gcd (wv r.a.abs) (wv r.b.abs)) (by rw [← hG]; exact Int.gcd_dvd_left ..) hg0
    obtain ⟨q1, q2⟩ := tdiv_abs_sign (a := iv r.b) (g := Nat.gcd (wv r.a.abs) (wv r.b.abs)) (by rw [← hG]; exact Int.gcd_dvd_right ..) hg0
    unfold bz
    rw [p1, q1, ← a1, ← b1, a3, b3]
    congr 2
    · exact decide_eq_decide.2 p2.symm
    · exact decide_eq_decide.2 q2.symm
  have hsame : Nat.gcd (wv r.a.abs) (wv r.b.abs) = 1 → r = nrm0 (iv r.a) (iv r.b) := by
    intro h
    unfold nrm0
    rw [hG, h]
    show r = ⟨bz ((iv r.a).tdiv 1), bz ((iv r.b).tdiv 1)⟩
    rw [Int.tdiv_one, Int.tdiv_one, ← ha.1, ← hb.1]
  have hcom : gcomS r.a.abs r.b.abs = ws (wv (gcomS r.a.abs r.b.abs)) := by unfold gcomS; rw [wv_ws]
  have hcv : wv (gcomS r.a.abs r.b.abs) = Nat.gcd (wv r.a.abs) (wv r.b.abs) := by unfold gcomS; rw [wv_ws]
  have hcl : wv (gcomS r.a.abs r.b.abs) < 18446744073709551616 := by
    have := Nat.gcd_le_right (wv r.a.abs) (show 0 < wv r.b.abs by omega)
    omega
  have hlen : ∀ q, ((gcomS r.a.abs r.b.abs).length : Int) = 1 → (gcomS r.a.abs r.b.abs)[(0 : Int).toNat]? = some q → q = 1 → Nat.gcd (wv r.a.abs) (wv r.b.abs) = 1 := by
    intro q h1 h2 h3
    subst h3
    rw [← hcv]
    generalize gcomS r.a.abs r.b.abs = l at *
    match l, h1, h2 with
    | [x], _, h2 =>
      cases h2
      rfl
    | [], h1, _ => simp at h1
    | _ :: _ :: _, h1, _ => simp at h1; omega
  have hpre : (r.a.abs = ws (wv r.a.abs) ∧ r.b.abs = ws (wv r.b.abs) ∧ wv r.a.abs < 18446744073709551616 ∧ wv r.b.abs < 18446744073709551616) := ⟨a0, b0, a2, b2⟩
  have hpa : (r.a.abs = ws (wv r.a.abs) ∧ (gcomS r.a.abs r.b.abs) = ws (wv (gcomS r.a.abs r.b.abs)) ∧ wv r.a.abs < 18446744073709551616 ∧ wv (gcomS r.a.abs r.b.abs) < 18446744073709551616 ∧ 0 < wv (gcomS r.a.abs r.b.abs)) := ⟨a0, hcom, a2, hcl, by omega⟩
  have hpb : (r.b.abs = ws (wv r.b.abs) ∧ (gcomS r.a.abs r.b.abs) = ws (wv (gcomS r.a.abs r.b.abs)) ∧ wv r.b.abs < 18446744073709551616 ∧ wv (gcomS r.a.abs r.b.abs) < 18446744073709551616 ∧ 0 < wv (gcomS r.a.abs r.b.abs)) := ⟨b0, hcom, b2, hcl, by omega⟩
  have hlen1 : ∀ l : List Int, ((l.length : Int) == 1) = true → (0 : Int) ≤ 0 ∧ (0 : Int) < (l.length : Int) := by
    intro l h
    have h : (l.length : Int) = 1 := by simpa using h
    omega
  have hlast : ((gdivS r.a.abs (gcomS r.a.abs r.b.abs)).1.length ≤ 140737488355328 → (gdivS r.a.abs (gcomS r.a.abs r.b.abs)).2.length ≤ 140737488355328 → True) := fun _ _ => trivial
  refine ⟨fun h1 => ⟨by omega, fun _ x hx _ _ => ?_⟩, fun h1 => ⟨fun h2 => ⟨hlen1 _ h2, fun q hq => ⟨fun h3 => ?_, fun h3 => ⟨hpre, fun h4 => ⟨hlen1 _ h4, fun p hp => ⟨fun h5 => ?_, fun h5 => ⟨hpa, fun _ _ => ⟨hpb, fun _ _ => ?_⟩⟩⟩⟩, fun h4 => ⟨hpa, fun _ _ => ⟨hpb, fun _ _ => ?_⟩⟩⟩⟩⟩, fun h2 => ⟨hpre, fun h4 => ⟨hlen1 _ h4, fun p hp => ⟨fun h5 => ?_, fun h5 => ⟨hpa, fun _ _ => ⟨hpb, fun _ _ => ?_⟩⟩⟩⟩, fun h4 => ⟨hpa, fun _ _ => ⟨hpb, fun _ _ => ?_⟩⟩⟩⟩⟩
  · subst hx
    have hz : r.a.abs.length = 0 := by have : (r.a.abs.length : Int) = 0 := by simpa using h1
                                       omega
    have hz0 : wv r.a.abs = 0 := by
      rw [List.length_eq_zero_iff] at hz
      rw [hz]
      rfl
    have hiv : iv r.a = 0 := by omega
    have e : ggiveB r false (gwordsS 1) = nrm0 (iv r.a) (iv r.b) := by
      unfold nrm0 ggiveB
      rw [hG, hz0, Nat.gcd_zero_left, hiv, Int.zero_tdiv, hone, b1]
      have e1 : ((iv r.b).natAbs : Int) = iv r.b := by omega
      rw [e1, Int.tdiv_self (by omega), ← hiv, ← ha.1]
      have e3 : bz 1 = ⟨false, [1]⟩ := by decide +kernel
      rw [e3]
      rfl
    rw [e]
    exact hA
  · have h3 : q = 1 := by simpa using h3
    subst h3
    have hb1 : wv r.b.abs = 1 := by
      have h2 : (r.b.abs.length : Int) = 1 := by simpa using h2
      generalize r.b.abs = l at h2 hq
      match l, h2, hq with
      | [x], _, hq =>
        cases hq
        rfl
      | [], h2, _ => simp at h2
      | _ :: _ :: _, h2, _ => simp at h2; omega
    rw [hsame (by rw [hb1, Nat.gcd_one_right])]
    have e := hsame (by rw [hb1, Nat.gcd_one_right])
    rw [← e]
    rw [← e] at hA
    exact hA
  · have e := hsame (hlen p (by simpa using h4) hp (by simpa using h5))
    rw [← e] at hA
    exact hA
  · rw [hdiv]
    exact hA
  · rw [hdiv]
    exact hA
  · have e := hsame (hlen p (by simpa using h4) hp (by simpa using h5))
    rw [← e] at hA
    exact hA
  · rw [hdiv]
    exact hA
  · rw [hdiv]
    exact hA
theorem neg_give {x : BInt} (h : bk x) : (⟨(!x.neg) && decide ((x.abs.length : Int) > 0), x.abs⟩ : BInt) = bz (-(iv x)) := by
  obtain ⟨x0, x1, _, x3⟩ := bk_abs h
  have := give_bz ⟨false, []⟩ (!x.neg) (-(iv x)) (by
    rw [x3]
    by_cases h0 : iv x = 0
    · right
      omega
    · left
      by_cases h1 : iv x < 0
      · rw [decide_eq_true h1, decide_eq_false (by omega)]
        rfl
      · rw [decide_eq_false h1, decide_eq_true (by omega)]
        rfl)
  rw [Int.natAbs_neg, ← x1, ← x0] at this
  exact this
def rnormS (r : BRat) : BRat := nrm (iv r.a) (iv r.b)
theorem rnorm_ok (r : BRat) (h : bk r.a ∧ bk r.b ∧ iv r.b ≠ 0) : rnorm_vc r (fun x => x = rnormS r) := by
  obtain ⟨ha, hb, h0⟩ := h
  obtain ⟨a0, a1, a2, a3⟩ := bk_abs ha
  obtain ⟨b0, b1, b2, b3⟩ := bk_abs hb
  obtain ⟨_, la⟩ := bk_len ha
  obtain ⟨_, lb⟩ := bk_len hb
  intro _ _
  unfold rnormS nrm
  refine ⟨?_, fun h1 => ⟨by omega, by show r.b.abs.length ≤ 1000000; omega, ?_⟩, fun h1 => ?_⟩
  · rw [beq_eq_false_iff_ne]
    intro hc
    have hc : r.b.abs.length = 0 := by omega
    rw [List.length_eq_zero_iff] at hc
    rw [hc] at b1
    have : (0 : Nat) = (iv r.b).natAbs := b1
    omega
  · have hneg : iv r.b < 0 := by rw [b3] at h1; exact of_decide_eq_true h1
    have e : gnegBS (gnegAS r) = ⟨bz (-(iv r.a)), bz (-(iv r.b))⟩ := by
      unfold gnegBS gnegAS
      dsimp only
      rw [neg_give ha, neg_give hb]
    rw [if_pos hneg]
    have ka : bk (gnegBS (gnegAS r)).a := by rw [e]; exact bk_bz (by have := ha.2; omega)
    have kb : bk (gnegBS (gnegAS r)).b := by rw [e]; exact bk_bz (by have := hb.2; omega)
    refine norm_rest (gnegBS (gnegAS r)) ka kb (by rw [e]; show 0 < iv (bz _); rw [iv_bz]; omega) (A := fun x => x = nrm0 (-(iv r.a)) (-(iv r.b))) ?_
    rw [e]
    show nrm0 (iv (bz _)) (iv (bz _)) = _
    rw [iv_bz, iv_bz]
  · have hneg : ¬ iv r.b < 0 := by rw [b3] at h1; exact of_decide_eq_false h1
    rw [if_neg hneg]
    exact norm_rest r ha hb (by omega) (A := fun x => x = nrm0 (iv r.a) (iv r.b)) rfl

end Go.Proofs.Ytdndfbamhnchfaa
set_option linter.unusedVariables false
set_option linter.unusedSimpArgs false
namespace Go.Proofs.Ytdndfbamhnchfaa
open Go.Sy Go.RowKit
def rsf_vc (u0 : BRat) (u1 : BInt) (u2 : BInt) (K : (BRat × BInt × BInt) → Prop) : Prop :=
  (u0.a.abs.length ≤ 140737488355328 →
    (u0.b.abs.length ≤ 140737488355328 →
    (u1.abs.length ≤ 140737488355328 →
    (u2.abs.length ≤ 140737488355328 →
    ((((u2.abs.length : Int) == 0) = false) ∧
    ((u1.abs.length ≤ 1000000) ∧
    ((u2.abs.length ≤ 1000000) ∧
    ((bk (⟨(ggive (⟨false, []⟩ : BInt) u1.neg (gtwinS u1.abs)), (ggive (⟨false, []⟩ : BInt) u2.neg (gtwinS u2.abs))⟩ : BRat).a ∧ bk (⟨(ggive (⟨false, []⟩ : BInt) u1.neg (gtwinS u1.abs)), (ggive (⟨false, []⟩ : BInt) u2.neg (gtwinS u2.abs))⟩ : BRat).b ∧ iv (⟨(ggive (⟨false, []⟩ : BInt) u1.neg (gtwinS u1.abs)), (ggive (⟨false, []⟩ : BInt) u2.neg (gtwinS u2.abs))⟩ : BRat).b ≠ 0) ∧
    (∀ r223, (rnormS (⟨(ggive (⟨false, []⟩ : BInt) u1.neg (gtwinS u1.abs)), (ggive (⟨false, []⟩ : BInt) u2.neg (gtwinS u2.abs))⟩ : BRat)) = r223 →
    (r223.a.abs.length ≤ 140737488355328 →
    (r223.b.abs.length ≤ 140737488355328 →
    (K (r223, u1, u2)))))))))))))

/-! Pure proofs: no program in sight. -/
def zcmp (x y : Int) : Int := if x < y then -1 else if y < x then 1 else 0
def gcmpAAS (r y : BRat) : Int × BRat × BRat := (zcmp (iv r.a) (iv y.a), r, y)
def gcmpBBS (r y : BRat) : Int × BRat × BRat := (zcmp (iv r.b) (iv y.b), r, y)
theorem cmp_core {x y : BInt} (hx : bk x) (hy : bk y) {A : Int → Prop} (hA : A (zcmp (iv x) (iv y))) :
    (((x.neg != y.neg) = true →
      ((x.neg = true →
        (A (-1))) ∧
      (x.neg = false →
        (A 1)))) ∧
    ((x.neg != y.neg) = false →
      ((x.abs.length ≤ 1000 ∧ y.abs.length ≤ 1000 ∧ x.abs = ws (wv x.abs) ∧ y.abs = ws (wv y.abs)) ∧
      ((x.neg = true →
        (A (w64 (0 - (gcmpS x.abs y.abs))))) ∧
      (x.neg = false →
        (A (gcmpS x.abs y.abs))))))) := by
  obtain ⟨x0, x1, x2, x3⟩ := bk_abs hx
  obtain ⟨y0, y1, y2, y3⟩ := bk_abs hy
  obtain ⟨_, lx⟩ := bk_len hx
  obtain ⟨_, ly⟩ := bk_len hy
  unfold zcmp at hA
  unfold gcmpS
  rw [x3, y3, x1, y1]
  generalize iv x = X at *
  generalize iv y = Y at *
  refine ⟨fun h1 => ⟨fun h2 => ?_, fun h2 => ?_⟩, fun h1 => ⟨⟨by omega, by omega, by rw [← x1]; exact x0, by rw [← y1]; exact y0⟩, fun h2 => ?_, fun h2 => ?_⟩⟩
  · have h2' := of_decide_eq_true h2
    have h3 : ¬ Y < 0 := by
      intro h
      rw [h2, decide_eq_true h] at h1
      cases h1
    rw [if_pos (by omega)] at hA
    exact hA
  · have h2' := of_decide_eq_false h2
    have h3 : Y < 0 := by
      rcases Int.lt_or_le Y 0 with h | h
      · exact h
      · rw [h2, decide_eq_false (by omega)] at h1
        cases h1
    rw [if_neg (by omega), if_pos (by omega)] at hA
    exact hA
  · have h2' := of_decide_eq_true h2
    have h3 : Y < 0 := by
      rcases Int.lt_or_le Y 0 with h | h
      · exact h
      · rw [h2, decide_eq_false (show ¬ Y < 0 by omega)] at h1
        cases h1
    rcases Int.lt_trichotomy X Y with h | h | h
    · rw [if_pos h] at hA
      rw [if_neg (by omega), if_pos (by omega)]
      exact hA
    · rw [if_neg (by omega), if_neg (by omega)] at hA
      rw [if_neg (by omega), if_neg (by omega)]
      exact hA
    · rw [if_neg (by omega), if_pos h] at hA
      rw [if_pos (by omega)]
      exact hA
  · have h2' := of_decide_eq_false h2
    have h3 : ¬ Y < 0 := by
      intro h
      rw [h2, decide_eq_true h] at h1
      cases h1
    rcases Int.lt_trichotomy X Y with h | h | h
    · rw [if_pos h] at hA
      rw [if_pos (by omega)]
      exact hA
    · rw [if_neg (by omega), if_neg (by omega)] at hA
      rw [if_neg (by omega), if_neg (by omega)]
      exact hA
    · rw [if_neg (by omega), if_pos h] at hA
      rw [if_neg (by omega), if_pos (by omega)]
      exact hA
theorem gcmpAA_ok (r y : BRat) (h : bk r.a ∧ bk y.a) : gcmpAA_vc r y (fun x => x = gcmpAAS r y) := fun _ _ _ _ => cmp_core h.1 h.2 (A := fun v => (v, r, y) = gcmpAAS r y) rfl
theorem gcmpBB_ok (r y : BRat) (h : bk r.b ∧ bk y.b) : gcmpBB_vc r y (fun x => x = gcmpBBS r y) := fun _ _ _ _ => cmp_core h.1 h.2 (A := fun v => (v, r, y) = gcmpBBS r y) rfl
theorem set_core {x : BInt} (hx : bk x) (z : BInt) : ggive z x.neg (gtwinS x.abs) = x := by
  obtain ⟨x0, x1, _, x3⟩ := bk_abs hx
  have := give_bz z x.neg (iv x) (.inl x3)
  rw [← x1, ← x0, ← hx.1] at this
  exact this
def rsfS (z : BRat) (a b : BInt) : BRat × BInt × BInt := (nrm (iv a) (iv b), a, b)
theorem iv_ne {x : BInt} (hx : bk x) (h : iv x ≠ 0) : x.abs ≠ [] := by
  obtain ⟨_, x1, _, _⟩ := bk_abs hx
  intro hc
  rw [hc] at x1
  have : (0 : Nat) = (iv x).natAbs := x1
  omega
theorem rsf_ok (z : BRat) (a b : BInt) (h : bk a ∧ bk b ∧ iv b ≠ 0) : rsf_vc z a b (fun r => r = rsfS z a b) := by
  obtain ⟨ha, hb, h0⟩ := h
  obtain ⟨_, la⟩ := bk_len ha
  obtain ⟨_, lb⟩ := bk_len hb
  have hne := iv_ne hb h0
  intro _ _ _ _
  rw [set_core ha, set_core hb]
  refine ⟨?_, by omega, by omega, ⟨ha, hb, h0⟩, ?_⟩
  · rw [beq_eq_false_iff_ne]
    intro hc
    exact hne (List.length_eq_zero_iff.1 (by omega))
  · rintro r rfl _ _
    rfl

end Go.Proofs.Ytdndfbamhnchfaa
set_option linter.unusedVariables false
set_option linter.unusedSimpArgs false
namespace Go.Proofs.Ytdndfbamhnchfaa
open Go.Sy Go.RowKit
def rsf64_vc (u0 : BRat) (u1 : Int) (u2 : Int) (K : BRat → Prop) : Prop :=
  (u0.a.abs.length ≤ 140737488355328 →
    (u0.b.abs.length ≤ 140737488355328 →
    ((-9223372036854775808 ≤ u1 ∧ u1 ≤ 9223372036854775807) ∧
    ((-9223372036854775808 ≤ u2 ∧ u2 ≤ 9223372036854775807) ∧
    ((bk (bz u1) ∧ bk (bz u2) ∧ iv (bz u2) ≠ 0) ∧
    (∀ r52, (rsfS u0 (bz u1) (bz u2)) = r52 →
    (r52.1.a.abs.length ≤ 140737488355328 →
    (r52.1.b.abs.length ≤ 140737488355328 →
    (r52.2.1.abs.length ≤ 140737488355328 →
    (r52.2.2.abs.length ≤ 140737488355328 →
    (K r52.1)))))))))))

def rcmp_vc (u0 : BRat) (u1 : BRat) (K : (Int × BRat × BRat) → Prop) : Prop :=
  (u0.a.abs.length ≤ 140737488355328 →
    (u0.b.abs.length ≤ 140737488355328 →
    (u1.a.abs.length ≤ 140737488355328 →
    (u1.b.abs.length ≤ 140737488355328 →
    ((u0.b.abs ≠ []) ∧
    (∀ r31, (rdenS u0) = r31 →
    (r31.a.abs.length ≤ 140737488355328 →
    (r31.b.abs.length ≤ 140737488355328 →
    ((u1.b.abs ≠ []) ∧
    (∀ r54, (rdenS u1) = r54 →
    (r54.a.abs.length ≤ 140737488355328 →
    (r54.b.abs.length ≤ 140737488355328 →
    ((bk r31.b ∧ bk r54.b) ∧
    (∀ r75, (gcmpBBS r31 r54) = r75 →
    (r75.2.1.a.abs.length ≤ 140737488355328 →
    (r75.2.1.b.abs.length ≤ 140737488355328 →
    (r75.2.2.a.abs.length ≤ 140737488355328 →
    (r75.2.2.b.abs.length ≤ 140737488355328 →
    (((r75.1 == 0) = true) ∧
    ((bk r75.2.1.a ∧ bk r75.2.2.a) ∧
    (K ((gcmpAAS r75.2.1 r75.2.2).1, (gcmpAAS r75.2.1 r75.2.2).2.1, (gcmpAAS r75.2.1 r75.2.2).2.2))))))))))))))))))))))

/-! Pure proofs: no program in sight. -/
def rsf64S (z : BRat) (a b : Int) : BRat := nrm a b
theorem rsf64_ok (z : BRat) (a b : Int) (h : b ≠ 0 ∧ (-9223372036854775808 ≤ a ∧ a ≤ 9223372036854775807) ∧ -9223372036854775808 ≤ b ∧ b ≤ 9223372036854775807) : rsf64_vc z a b (fun r => r = rsf64S z a b) := by
  intro _ _
  refine ⟨h.2.1, h.2.2, ⟨bk_bz (by omega), bk_bz (by omega), by rw [iv_bz]; exact h.1⟩, ?_⟩
  rintro r rfl _ _ _ _
  unfold rsfS rsf64S
  dsimp only
  rw [iv_bz, iv_bz]
/-- A ratio as it should lie. -/
def rk (r : BRat) : Prop := bk r.a ∧ bk r.b ∧ 0 < iv r.b
end Go.Proofs.Ytdndfbamhnchfaa
set_option linter.unusedVariables false
set_option linter.unusedSimpArgs false
namespace Go.Proofs.Ytdndfbamhnchfaa
open Go.Sy Go.RowKit
def splc_vc (u0 : Signal) (u1 : Int) (K : ((List Int) × Int) → Prop) : Prop :=
  ((((checkS u0 u1) != 0) = true →
      (K (([] : List Int), (checkS u0 u1)))) ∧
    (((checkS u0 u1) != 0) = false →
      (((0 ≤ u0.Start ∧ u0.Start ≤ 512) ∧ 1 ≤ u0.Size ∧ u0.Size ≤ 40) ∧
      ((placesS u0).length ≤ 140737488355328 →
      (K ((placesS u0), 0))))))

def sindex_vc (u0 : List Int) (u1 : Int) (K : Int → Prop) : Prop :=
  (u0.length ≤ 140737488355328 →
    (∃ inv16 : Int → Prop, ∃ mu16 : Int → Nat, inv16 0 ∧
    (∀ (x8 : Int), inv16 x8 →
    (((decide (x8 < (u0.length : Int))) = true →
      ((0 ≤ x8 ∧ x8 < (u0.length : Int)) ∧
      (∀ q51, u0[x8.toNat]? = some q51 →
      (((u1 == q51) = true →
        (K x8)) ∧
      ((u1 == q51) = false →
        (inv16 (w64 (x8 + 1)) ∧ mu16 (w64 (x8 + 1)) < mu16 x8)))))) ∧
    ((decide (x8 < (u0.length : Int))) = false →
      (K (-1)))))))
theorem sindex_mono {u0 : List Int} {u1 : Int} {K K1 : Int → Prop} (hK : ∀ r, K r → K1 r) (h : sindex_vc u0 u1 K) : sindex_vc u0 u1 K1 :=
  fun z0 => (Exists.elim (h z0) fun i1 e1 => Exists.elim e1 fun m1 g1 => ⟨i1, m1, g1.1, fun x8 z1 => ⟨fun c2 => ⟨((g1.2 x8 z1).1 c2).1, fun y4 z4 => ⟨fun c5 => hK _ ((((g1.2 x8 z1).1 c2).2 y4 z4).1 c5), fun c5 => ((((g1.2 x8 z1).1 c2).2 y4 z4).2 c5)⟩⟩, fun c2 => hK _ ((g1.2 x8 z1).2 c2)⟩⟩)

def scontains_vc (u0 : List Int) (u1 : Int) (K : Bool → Prop) : Prop :=
  (u0.length ≤ 140737488355328 →
    (sindex_vc u0 u1 fun r13 =>
    (K (decide (r13 ≥ 0)))))

/-! Pure proofs: no program in sight. -/
def rcmpS (x y : BRat) : Int × BRat × BRat := (0, x, y)
theorem rk0_ne {r : BRat} (hb : bk r.b) (h : 0 < iv r.b) : r.b.abs ≠ [] := iv_ne hb (by omega)
theorem rcmp_ok (x y : BRat) (h : rk x ∧ x = y) : rcmp_vc x y (fun r => r = rcmpS x y) := by
  obtain ⟨⟨ha, hb, h0⟩, rfl⟩ := h
  have hz : ∀ v : Int, zcmp v v = 0 := fun v => by unfold zcmp; rw [if_neg (by omega), if_neg (by omega)]
  intro _ _ _ _
  refine ⟨rk0_ne hb h0, ?_⟩
  rintro _ rfl _ _
  refine ⟨rk0_ne hb h0, ?_⟩
  rintro _ rfl _ _
  refine ⟨⟨hb, hb⟩, ?_⟩
  rintro _ rfl _ _ _ _
  refine ⟨?_, ⟨ha, ha⟩, ?_⟩
  · show (zcmp (iv x.b) (iv x.b) == 0) = true
    rw [hz]
    rfl
  · show (zcmp (iv x.a) (iv x.a), x, x) = _
    rw [hz]
    rfl
def sidx {α : Type} (p : α → Bool) (l : List α) : Int := match l.findIdx? p with | some i => (i : Int) | none => -1
theorem sidx_at {α : Type} (p : α → Bool) (l : List α) (k : Nat) (q : α) (hq : l[k]? = some q) (hp : p q = true) (hb : ∀ j x, j < k → l[j]? = some x → p x = false) : sidx p l = k := by
  unfold sidx
  have : l.findIdx? p = some k := by
    rw [List.findIdx?_eq_some_iff_getElem]
    obtain ⟨h1, h2⟩ := List.getElem?_eq_some_iff.1 hq
    exact ⟨h1, by rw [h2]; exact hp, fun j hj => by rw [hb j _ hj (List.getElem?_eq_getElem (by omega))]; simp⟩
  rw [this]
theorem sidx_none {α : Type} (p : α → Bool) (l : List α) (hb : ∀ (j : Nat) x, l[j]? = some x → p x = false) : sidx p l = -1 := by
  unfold sidx
  have : l.findIdx? p = none := by
    rw [List.findIdx?_eq_none_iff]
    intro x hx
    obtain ⟨j, hj⟩ := List.mem_iff_getElem?.1 hx
    exact hb j x hj
  rw [this]
theorem sidx_ge {α : Type} (p : α → Bool) (l : List α) : decide (sidx p l ≥ 0) = l.any p := by
  unfold sidx
  cases h : l.findIdx? p with
  | none =>
    have : l.any p = false := by
      rw [List.findIdx?_eq_none_iff] at h
      rw [List.any_eq_false]
      intro x hx
      simp [h x hx]
    rw [this]
    rfl
  | some i =>
    have : l.any p = true := by
      rw [List.findIdx?_eq_some_iff_getElem] at h
      obtain ⟨h1, h2, _⟩ := h
      exact List.any_eq_true.2 ⟨_, List.getElem_mem h1, h2⟩
    rw [this]
    simp
theorem sindex_ok (l : List Int) (x : Int) : sindex_vc l x (fun r => r = sidx (fun q => x == q) l) := by
  intro hl
  refine rg0 hl (fun k => ∀ j y, j < k → l[j]? = some y → (x == y) = false) (fun j y h => absurd h (Nat.not_lt_zero _)) ?_ ?_
  · intro k q hk hq hj inv mu hn
    refine ⟨fun h => (sidx_at _ l k q hq h hj).symm, fun h => hn fun j y hj1 hy => ?_⟩
    rcases Nat.lt_or_ge j k with h1 | h1
    · exact hj j y h1 hy
    · have : j = k := by omega
      subst this
      rw [hq] at hy
      cases hy
      exact h
  · intro hj
    refine (sidx_none _ l fun j y hy => hj j y (List.getElem?_eq_some_iff.1 hy).1 hy).symm
def scontainsS (l : List Int) (x : Int) : Bool := l.any fun q => x == q
theorem scontains_ok (l : List Int) (x : Int) : scontains_vc l x (fun r => r = scontainsS l x) := fun _ => sindex_mono (fun r h => by subst h; exact sidx_ge _ l) (sindex_ok l x)
def splcS (s : Signal) (n : Int) : List Int × Int := if checkS s n ≠ 0 then ([], checkS s n) else (placesS s, 0)
theorem splc_ok (s : Signal) (n : Int) : splc_vc s n (fun r => r = splcS s n) := by
  refine ⟨fun h => ?_, fun h => ?_⟩
  · unfold splcS; rw [if_pos (by simpa using h)]
  · have h0 : checkS s n = 0 := by simpa using h
    obtain ⟨h1, h2, h3, _⟩ := check_zero h0
    refine ⟨⟨⟨h3.1, by omega⟩, h1.2.2⟩, fun _ => ?_⟩
    unfold splcS
    rw [if_neg (by rw [h0]; decide)]


end Go.Proofs.Ytdndfbamhnchfaa
set_option linter.unusedVariables false
set_option linter.unusedSimpArgs false
namespace Go.Proofs.Ytdndfbamhnchfaa
open Go.Sy Go.RowKit
def LSBack_vc (u0 : Signal) (u1 : List Int) (u2 : Int) (u3 : Int) (K : Bool → Prop) : Prop :=
  (u1.length ≤ 140737488355328 →
    ((isBytes u1) ∧
    ((swriteS u0 u1 u2 u3).1.length ≤ 140737488355328 →
    ((((swriteS u0 u1 u2 u3).2 == 0) = true →
      ((isBytes (swriteS u0 u1 u2 u3).1) ∧
      ((splcS u0 (u1.length : Int)).1.length ≤ 140737488355328 →
      (((((sreadS u0 (swriteS u0 u1 u2 u3).1).2.2 != 0) || ((splcS u0 (u1.length : Int)).2 != 0)) = true →
        (K false)) ∧
      ((((sreadS u0 (swriteS u0 u1 u2 u3).1).2.2 != 0) || ((splcS u0 (u1.length : Int)).2 != 0)) = false →
        (((sreadS u0 (swriteS u0 u1 u2 u3).1).2.1.Den ≠ 0 ∧ (-9223372036854775808 ≤ (sreadS u0 (swriteS u0 u1 u2 u3).1).2.1.Num ∧ (sreadS u0 (swriteS u0 u1 u2 u3).1).2.1.Num ≤ 9223372036854775807) ∧ -9223372036854775808 ≤ (sreadS u0 (swriteS u0 u1 u2 u3).1).2.1.Den ∧ (sreadS u0 (swriteS u0 u1 u2 u3).1).2.1.Den ≤ 9223372036854775807) ∧
        (∀ r187, (rsf64S (⟨(⟨false, []⟩ : BInt), (⟨false, []⟩ : BInt)⟩ : BRat) (sreadS u0 (swriteS u0 u1 u2 u3).1).2.1.Num (sreadS u0 (swriteS u0 u1 u2 u3).1).2.1.Den) = r187 →
        (r187.a.abs.length ≤ 140737488355328 →
        (r187.b.abs.length ≤ 140737488355328 →
        ((u3 ≠ 0 ∧ (-9223372036854775808 ≤ u2 ∧ u2 ≤ 9223372036854775807) ∧ -9223372036854775808 ≤ u3 ∧ u3 ≤ 9223372036854775807) ∧
        (∀ r217, (rsf64S (⟨(⟨false, []⟩ : BInt), (⟨false, []⟩ : BInt)⟩ : BRat) u2 u3) = r217 →
        (r217.a.abs.length ≤ 140737488355328 →
        (r217.b.abs.length ≤ 140737488355328 →
        ((rk r187 ∧ r187 = r217) ∧
        (∀ r238, (rcmpS r187 r217) = r238 →
        (r238.2.1.a.abs.length ≤ 140737488355328 →
        (r238.2.1.b.abs.length ≤ 140737488355328 →
        (r238.2.2.a.abs.length ≤ 140737488355328 →
        (r238.2.2.b.abs.length ≤ 140737488355328 →
        (((r238.1 != 0) = true →
          (K false)) ∧
        ((r238.1 != 0) = false →
          (∃ inv281 : Int → Prop, ∃ mu281 : Int → Nat, inv281 0 ∧
          (∀ (x74 : Int), inv281 x74 →
          (((decide (x74 < (w64 (8 * (u1.length : Int))))) = true →
            (∃ inv305 : Prop,
            ((0 ≤ w64 (x74.tdiv 8) ∧ w64 (x74.tdiv 8) < ((swriteS u0 u1 u2 u3).1.length : Int)) ∧
            (∀ q345, (swriteS u0 u1 u2 u3).1[(w64 (x74.tdiv 8)).toNat]? = some q345 →
            ((0 ≤ w64 (x74.tdiv 8) ∧ w64 (x74.tdiv 8) < (u1.length : Int)) ∧
            (∀ q370, u1[(w64 (x74.tdiv 8)).toNat]? = some q370 →
            ((0 ≤ x74.tmod 8) ∧
            ((((bAnd .u8 (bShr .u8 (bXor .u8 q345 q370) (x74.tmod 8)) 1) == 1) = true →
              (((!(scontainsS (splcS u0 (u1.length : Int)).1 x74)) = true →
                (K false)) ∧
              ((!(scontainsS (splcS u0 (u1.length : Int)).1 x74)) = false →
                inv305))) ∧
            (((bAnd .u8 (bShr .u8 (bXor .u8 q345 q370) (x74.tmod 8)) 1) == 1) = false →
              inv305))))))) ∧
            (inv305 →
              (inv281 (w64 (x74 + 1)) ∧ mu281 (w64 (x74 + 1)) < mu281 x74)))) ∧
          ((decide (x74 < (w64 (8 * (u1.length : Int))))) = false →
            ((isBytes u1) ∧
            ((((((sreadS u0 u1).2.2 != 0) || (decide ((sreadS u0 u1).2.1.Num > 1099511627776))) || (decide ((sreadS u0 u1).2.1.Num < (-1099511627776)))) = true →
              (K true)) ∧
            (((((sreadS u0 u1).2.2 != 0) || (decide ((sreadS u0 u1).2.1.Num > 1099511627776))) || (decide ((sreadS u0 u1).2.1.Num < (-1099511627776)))) = false →
              ((0 ≤ (u1.length : Int) ∧ (u1.length : Int) ≤ (u1.length : Int) ∧ (u1.length : Int) * 1 ≤ 140737488355328) ∧
              ((isBytes (List.replicate (u1.length : Int).toNat (0 : Int))) ∧
              ((isBytes u1) ∧
              ((swriteS u0 u1 (sreadS u0 u1).2.1.Num (sreadS u0 u1).2.1.Den).1.length ≤ 140737488355328 →
              ((isBytes (swriteS u0 (List.replicate (u1.length : Int).toNat (0 : Int)) (sreadS u0 u1).2.1.Num (sreadS u0 u1).2.1.Den).1) ∧
              ((((((swriteS u0 (List.replicate (u1.length : Int).toNat (0 : Int)) (sreadS u0 u1).2.1.Num (sreadS u0 u1).2.1.Den).2 == 0) && ((swriteS u0 u1 (sreadS u0 u1).2.1.Num (sreadS u0 u1).2.1.Den).2 == 0)) && ((sreadS u0 (swriteS u0 (List.replicate (u1.length : Int).toNat (0 : Int)) (sreadS u0 u1).2.1.Num (sreadS u0 u1).2.1.Den).1).2.2 == 0)) = true →
                (K ((beqS (swriteS u0 u1 (sreadS u0 u1).2.1.Num (sreadS u0 u1).2.1.Den).1 u1) && (((sreadS u0 (swriteS u0 (List.replicate (u1.length : Int).toNat (0 : Int)) (sreadS u0 u1).2.1.Num (sreadS u0 u1).2.1.Den).1).2.1.Name == (sreadS u0 u1).2.1.Name) && (((sreadS u0 (swriteS u0 (List.replicate (u1.length : Int).toNat (0 : Int)) (sreadS u0 u1).2.1.Num (sreadS u0 u1).2.1.Den).1).2.1.Num == (sreadS u0 u1).2.1.Num) && (((sreadS u0 (swriteS u0 (List.replicate (u1.length : Int).toNat (0 : Int)) (sreadS u0 u1).2.1.Num (sreadS u0 u1).2.1.Den).1).2.1.Den == (sreadS u0 u1).2.1.Den) && true)))))) ∧
              (((((swriteS u0 (List.replicate (u1.length : Int).toNat (0 : Int)) (sreadS u0 u1).2.1.Num (sreadS u0 u1).2.1.Den).2 == 0) && ((swriteS u0 u1 (sreadS u0 u1).2.1.Num (sreadS u0 u1).2.1.Den).2 == 0)) && ((sreadS u0 (swriteS u0 (List.replicate (u1.length : Int).toNat (0 : Int)) (sreadS u0 u1).2.1.Num (sreadS u0 u1).2.1.Den).1).2.2 == 0)) = false →
                (K false)))))))))))))))))))))))))))))))))))) ∧
    (((swriteS u0 u1 u2 u3).2 == 0) = false →
      ((isBytes u1) ∧
      ((((((sreadS u0 u1).2.2 != 0) || (decide ((sreadS u0 u1).2.1.Num > 1099511627776))) || (decide ((sreadS u0 u1).2.1.Num < (-1099511627776)))) = true →
        (K true)) ∧
      (((((sreadS u0 u1).2.2 != 0) || (decide ((sreadS u0 u1).2.1.Num > 1099511627776))) || (decide ((sreadS u0 u1).2.1.Num < (-1099511627776)))) = false →
        ((0 ≤ (u1.length : Int) ∧ (u1.length : Int) ≤ (u1.length : Int) ∧ (u1.length : Int) * 1 ≤ 140737488355328) ∧
        ((isBytes (List.replicate (u1.length : Int).toNat (0 : Int))) ∧
        ((isBytes u1) ∧
        ((swriteS u0 u1 (sreadS u0 u1).2.1.Num (sreadS u0 u1).2.1.Den).1.length ≤ 140737488355328 →
        ((isBytes (swriteS u0 (List.replicate (u1.length : Int).toNat (0 : Int)) (sreadS u0 u1).2.1.Num (sreadS u0 u1).2.1.Den).1) ∧
        ((((((swriteS u0 (List.replicate (u1.length : Int).toNat (0 : Int)) (sreadS u0 u1).2.1.Num (sreadS u0 u1).2.1.Den).2 == 0) && ((swriteS u0 u1 (sreadS u0 u1).2.1.Num (sreadS u0 u1).2.1.Den).2 == 0)) && ((sreadS u0 (swriteS u0 (List.replicate (u1.length : Int).toNat (0 : Int)) (sreadS u0 u1).2.1.Num (sreadS u0 u1).2.1.Den).1).2.2 == 0)) = true →
          (K ((beqS (swriteS u0 u1 (sreadS u0 u1).2.1.Num (sreadS u0 u1).2.1.Den).1 u1) && (((sreadS u0 (swriteS u0 (List.replicate (u1.length : Int).toNat (0 : Int)) (sreadS u0 u1).2.1.Num (sreadS u0 u1).2.1.Den).1).2.1.Name == (sreadS u0 u1).2.1.Name) && (((sreadS u0 (swriteS u0 (List.replicate (u1.length : Int).toNat (0 : Int)) (sreadS u0 u1).2.1.Num (sreadS u0 u1).2.1.Den).1).2.1.Num == (sreadS u0 u1).2.1.Num) && (((sreadS u0 (swriteS u0 (List.replicate (u1.length : Int).toNat (0 : Int)) (sreadS u0 u1).2.1.Num (sreadS u0 u1).2.1.Den).1).2.1.Den == (sreadS u0 u1).2.1.Den) && true)))))) ∧
        (((((swriteS u0 (List.replicate (u1.length : Int).toNat (0 : Int)) (sreadS u0 u1).2.1.Num (sreadS u0 u1).2.1.Den).2 == 0) && ((swriteS u0 u1 (sreadS u0 u1).2.1.Num (sreadS u0 u1).2.1.Den).2 == 0)) && ((sreadS u0 (swriteS u0 (List.replicate (u1.length : Int).toNat (0 : Int)) (sreadS u0 u1).2.1.Num (sreadS u0 u1).2.1.Den).1).2.2 == 0)) = false →
          (K false))))))))))))))))

/-! Pure proofs: no program in sight. -/
theorem ngcd_coprime {a b : Int} (h : b ≠ 0) : ngcd (a.tdiv (ngcd a b)) (b.tdiv (ngcd a b)) = 1 := by
  have hp := ngcd_pos (a := a) h
  have e1 : a.tdiv (ngcd a b) = a / ngcd a b := Int.tdiv_eq_ediv_of_dvd (ngcd_left a b)
  have e2 : b.tdiv (ngcd a b) = b / ngcd a b := Int.tdiv_eq_ediv_of_dvd (ngcd_right a b)
  rw [e1, e2]
  unfold ngcd at *
  rw [Int.gcd_ediv_gcd_ediv_gcd (by omega)]
  rfl
theorem dvd_co {a b c : Int} (h : a ∣ b * c) (hg : ngcd a b = 1) : a ∣ c := by
  have hn : Nat.gcd a.natAbs b.natAbs = 1 := by
    have : ((Nat.gcd a.natAbs b.natAbs : Nat) : Int) = 1 := hg
    omega
  have h1 : a.natAbs ∣ b.natAbs * c.natAbs := by rw [← Int.natAbs_mul]; exact Int.natAbs_dvd_natAbs.2 h
  exact Int.natAbs_dvd_natAbs.1 (Nat.Coprime.dvd_of_dvd_mul_left hn h1)
theorem ngcd_comm (a b : Int) : ngcd a b = ngcd b a := by unfold ngcd; rw [Int.gcd_comm]
theorem ngcd_neg_left (a b : Int) : ngcd (-a) b = ngcd a b := by unfold ngcd; rw [Int.neg_gcd]
theorem ngcd_neg_right (a b : Int) : ngcd a (-b) = ngcd a b := by unfold ngcd; rw [Int.gcd_neg]
theorem ngcd_dvd {a b : Int} (hb : 0 < b) (h : b ∣ a) : ngcd a b = b := by unfold ngcd; rw [Int.gcd_eq_right (by omega) h]
/-- What a whole number means is found again. -/
theorem rawN_back {mul div add num den n : Int} (hm : mul ≠ 0) (hd : 0 < den) (h : n * mul * den = (num - add * den) * div) : rawN mul div add num den = (n, true) := by
  unfold rawN
  dsimp only
  generalize num - add * den = up at *
  have g0 := ngcd_pos (a := div) hm
  have g1 := Int.tdiv_mul_cancel (ngcd_left div mul)
  have g2 := Int.tdiv_mul_cancel (ngcd_right div mul)
  have gc := ngcd_coprime (a := div) hm
  generalize ngcd div mul = g at *
  generalize div.tdiv g = a0 at *
  generalize mul.tdiv g = b0 at *
  have hb0 : b0 ≠ 0 := by intro e; rw [e, Int.zero_mul] at g2; exact hm g2.symm
  obtain ⟨a, b, ha, hb, hbp, hab, heq⟩ : ∃ a b : Int, (if b0 < 0 then -a0 else a0) = a ∧ (if b0 < 0 then -b0 else b0) = b ∧ 0 < b ∧ ngcd a b = 1 ∧ n * b * den = up * a := by
    have h2 : n * b0 * den = up * a0 := by
      have : n * b0 * den * g = up * a0 * g := by
        have e1 : n * b0 * den * g = n * (b0 * g) * den := by ac_rfl
        have e2 : up * a0 * g = up * (a0 * g) := by ac_rfl
        rw [e1, e2, g1, g2, h]
      exact Int.eq_of_mul_eq_mul_right (by omega) this
    by_cases hn : b0 < 0
    · refine ⟨-a0, -b0, by rw [if_pos hn], by rw [if_pos hn], by omega, by rw [ngcd_neg_left, ngcd_neg_right, gc], ?_⟩
      rw [Int.mul_neg, Int.neg_mul, Int.mul_neg, h2]
    · exact ⟨a0, b0, by rw [if_neg hn], by rw [if_neg hn], by omega, gc, h2⟩
  rw [ha, hb]
  clear ha hb h g1 g2 gc hb0
  have k1 := Int.tdiv_mul_cancel (ngcd_left up den)
  have k2 := Int.tdiv_mul_cancel (ngcd_right up den)
  have kc := ngcd_coprime (a := up) (b := den) (by omega)
  have k0 := ngcd_pos (a := up) (b := den) (by omega)
  generalize ngcd up den = k at *
  generalize up.tdiv k = up1 at *
  generalize den.tdiv k = den1 at *
  have hd1 : 0 < den1 := by
    rcases Int.lt_trichotomy den1 0 with e | e | e
    · have := Int.mul_neg_of_neg_of_pos e k0; omega
    · rw [e, Int.zero_mul] at k2; omega
    · exact e
  have heq2 : n * b * den1 = up1 * a := by
    have : n * b * den1 * k = up1 * a * k := by
      have e1 : n * b * den1 * k = n * b * (den1 * k) := by ac_rfl
      have e2 : up1 * a * k = (up1 * k) * a := by ac_rfl
      rw [e1, e2, k1, k2, heq]
    exact Int.eq_of_mul_eq_mul_right (by omega) this
  have hda : den1 ∣ a := dvd_co (b := up1) ⟨n * b, by rw [← heq2]; ac_rfl⟩ (by rw [ngcd_comm]; exact kc)
  rw [ngcd_dvd hd1 hda]
  obtain ⟨a1, rfl⟩ := hda
  rw [Int.mul_tdiv_cancel_left _ (by omega : den1 ≠ 0), Int.tdiv_self (by omega)]
  have heq3 : n * b = up1 * a1 := by
    have : n * b * den1 = up1 * a1 * den1 := by rw [heq2]; ac_rfl
    exact Int.eq_of_mul_eq_mul_right (by omega) this
  have hba : ngcd b a1 = 1 := by
    have h1 : ngcd b a1 ∣ ngcd (den1 * a1) b := by
      unfold ngcd
      exact Int.natCast_dvd_natCast.2 (Nat.dvd_gcd (by rw [Int.natAbs_mul]; exact Nat.dvd_trans (Nat.gcd_dvd_right _ _) (Nat.dvd_mul_left _ _)) (Nat.gcd_dvd_left _ _))
    rw [hab] at h1
    have h2 := Int.le_of_dvd (by decide) h1
    have h3 := ngcd_pos (a := a1) (b := b) (by omega)
    rw [ngcd_comm] at h3
    omega
  have hbu : b ∣ up1 := dvd_co (b := a1) ⟨n, by rw [Int.mul_comm a1, ← heq3]; ac_rfl⟩ hba
  rw [ngcd_dvd hbp hbu]
  obtain ⟨u, rfl⟩ := hbu
  rw [Int.mul_tdiv_cancel_left _ (by omega : b ≠ 0), Int.tdiv_self (by omega)]
  have : n = u * a1 := by
    have : n * b = u * a1 * b := by rw [heq3]; ac_rfl
    exact Int.eq_of_mul_eq_mul_right (by omega) this
  rw [this]
  rfl
theorem get_range {s : Signal} {d : List Int} (h : 1 ≤ s.Size ∧ s.Size ≤ 40) : lowS s ≤ getS s d ∧ getS s d ≤ highS s := by
  have hv := vb_lt ((plS s).map (bitat d))
  rw [List.length_map, plS_len] at hv
  obtain ⟨n, hn⟩ : ∃ n, s.Size.toNat = n + 1 := ⟨s.Size.toNat - 1, by omega⟩
  unfold getS lowS highS sgn
  rw [hn] at hv ⊢
  rw [Nat.add_sub_cancel]
  generalize vb ((plS s).map (bitat d)) = v at hv
  have e2 : (2 : Int) ^ (n + 1) = 2 * 2 ^ n := by rw [Int.pow_succ]; omega
  have e3 : ((2 ^ (n + 1) : Nat) : Int) = 2 ^ (n + 1) := by rw [Int.natCast_pow]; rfl
  have hv2 : (v : Int) < 2 ^ (n + 1) := by rw [← e3]; exact Int.ofNat_lt.2 hv
  rw [e2] at hv2 ⊢
  generalize (2 : Int) ^ n = P at *
  have hp : 0 ≤ (v : Int) := Int.natCast_nonneg v
  by_cases hs : s.Signed = true
  · rw [if_pos hs, if_pos hs]
    split
    · omega
    · rename_i q
      have : ¬ P ≤ (v : Int) := fun h => q ⟨hs, h⟩
      omega
  · rw [if_neg hs, if_neg hs, if_neg (fun hc => hs hc.1)]
    omega
/-- What a raw number means is told by it. -/
theorem raw_mean {s : Signal} {size n : Int} (hck : checkS s size = 0) (hl : lowS s ≤ n) (hh : n ≤ highS s) (h1 : (meanS s n).Num ≤ 1099511627776) (h2 : -1099511627776 ≤ (meanS s n).Num) : rawS s (meanS s n).Num (meanS s n).Den = (n, 0) := by
  have hup := check_up hck
  obtain ⟨_, hf, _⟩ := check_zero hck
  obtain ⟨m0, m1, m2, d1, d2, a1, a2⟩ := hf
  generalize hN : n * s.Mul + s.Add * s.Div = N
  have hg := ngcd_pos (a := N) (b := s.Div) (by omega)
  obtain ⟨a, ha⟩ := ngcd_left N s.Div
  obtain ⟨b, hb⟩ := ngcd_right N s.Div
  have hle := ngcd_le (a := N) (b := s.Div) (by omega)
  generalize hG : ngcd N s.Div = g at *
  have hnum : (meanS s n).Num = a := by
    unfold meanS
    rw [hN, hG, ha, Int.mul_tdiv_cancel_left _ (by omega)]
  have hden : (meanS s n).Den = b := by
    unfold meanS
    rw [hN, hG]
    dsimp only
    rw [hb, Int.mul_tdiv_cancel_left _ (by omega)]
  have hb1 : 1 ≤ b := by
    rcases Int.lt_or_le b 1 with hc | hc
    · have : g * b ≤ g * 0 := Int.mul_le_mul_of_nonneg_left (by omega) (by omega)
      omega
    · exact hc
  have hb2 : b ≤ s.Div := by
    have : 1 * b ≤ g * b := Int.mul_le_mul_of_nonneg_right (by omega) (by omega)
    omega
  rw [hnum] at h1 h2
  rw [hnum, hden]
  have hraw : rawN s.Mul s.Div s.Add a b = (n, true) := by
    refine rawN_back m0 (by omega) ?_
    have e1 : n * s.Mul = g * (a - s.Add * b) := by
      rw [Int.mul_sub, ← ha, ← hN, hb]
      have : s.Add * (g * b) = g * (s.Add * b) := by rw [← Int.mul_assoc, Int.mul_comm s.Add g, Int.mul_assoc]
      omega
    rw [e1, hb, Int.mul_comm g (a - s.Add * b), Int.mul_assoc]
  unfold rawS
  rw [if_neg (by rw [hup]; simp), if_neg (by omega), hraw, if_neg (by simp), if_neg (by simp only; omega)]
/-- Lowest terms: what they are, and how great. -/
theorem nrm0_is {a b : Int} (hb : 0 < b) : ∃ g x y : Int, 0 < g ∧ 0 < y ∧ a = g * x ∧ b = g * y ∧ nrm0 a b = ⟨bz x, bz y⟩ ∧ Int.gcd x y = 1 := by
  have hg : 0 < Int.gcd a b := Int.gcd_pos_of_ne_zero_right _ (by omega)
  obtain ⟨x, hx⟩ : ((Int.gcd a b : Nat) : Int) ∣ a := Int.gcd_dvd_left ..
  obtain ⟨y, hy⟩ : ((Int.gcd a b : Nat) : Int) ∣ b := Int.gcd_dvd_right ..
  have hgi : (0 : Int) < (Int.gcd a b : Nat) := by omega
  have hy0 : 0 < y := by
    rcases Int.lt_or_le 0 y with h | h
    · exact h
    · have := Int.mul_nonpos_of_nonneg_of_nonpos (Int.le_of_lt hgi) h
      omega
  have h1 : Int.gcd a b = Int.gcd a b * Int.gcd x y := by
    have := Int.gcd_mul_left ((Int.gcd a b : Nat) : Int) x y
    rw [← hx, ← hy, Int.natAbs_natCast] at this
    exact this
  refine ⟨(Int.gcd a b : Nat), x, y, hgi, hy0, hx, hy, ?_, ?_⟩
  · unfold nrm0
    generalize Int.gcd a b = g at *
    rw [hx, hy, Int.mul_tdiv_cancel_left _ (by omega), Int.mul_tdiv_cancel_left _ (by omega)]
  · have h2 : Int.gcd a b * 1 = Int.gcd a b * Int.gcd x y := by rw [Nat.mul_one]; exact h1
    exact (Nat.eq_of_mul_eq_mul_left hg h2).symm
theorem abs_part {g x a : Int} (hg : 0 < g) (h : a = g * x) : x.natAbs ≤ a.natAbs := by
  rw [h, Int.natAbs_mul]
  have : 1 * x.natAbs ≤ g.natAbs * x.natAbs := Nat.mul_le_mul_right _ (by omega)
  omega
theorem nrm_pos {a b : Int} (h : 0 < b) : nrm a b = nrm0 a b := by unfold nrm; rw [if_neg (by omega)]
theorem nrm0_scale {g x y : Int} (hg : 0 < g) : nrm0 (g * x) (g * y) = nrm0 x y := by
  unfold nrm0
  rw [Int.gcd_mul_left]
  have e : ((g.natAbs * Int.gcd x y : Nat) : Int) = g * ((Int.gcd x y : Nat) : Int) := by
    rw [Int.natCast_mul]
    congr 1
    omega
  rw [e, Int.mul_tdiv_mul_of_pos _ _ hg, Int.mul_tdiv_mul_of_pos _ _ hg]
theorem ofInt8_toNat (a : Nat) (h : a < 256) : (BitVec.ofInt 8 (a : Int)).toNat = a := by simp; omega
theorem bxor8 (x y : Nat) (hx : x < 256) (hy : y < 256) : bXor .u8 (x : Int) (y : Int) = ((x ^^^ y : Nat) : Int) := by
  have e : (BitVec.ofInt IntKind.u8.bits (x : Int) ^^^ BitVec.ofInt IntKind.u8.bits (y : Int)).toNat = x ^^^ y := by
    rw [BitVec.toNat_xor]
    show (BitVec.ofInt 8 (x : Int)).toNat ^^^ (BitVec.ofInt 8 (y : Int)).toNat = _
    rw [ofInt8_toNat x hx, ofInt8_toNat y hy]
  unfold bXor
  rw [e]
  have := Nat.xor_lt_two_pow (n := 8) hx hy
  exact IntWalk.u8_in _ (by omega)
theorem xor_bit {a b : List Int} (ha : isBytes a) (hb : isBytes b) {k : Nat} {x y : Int} (hx : a[k / 8]? = some x) (hy : b[k / 8]? = some y) (h : bitat a k = bitat b k) : (bAnd .u8 (bShr .u8 (bXor .u8 x y) ((k % 8 : Nat) : Int)) 1 == 1) = false := by
  obtain ⟨n, hn, hl⟩ := byte_at ha (k / 8)
  obtain ⟨m, hm, hl2⟩ := byte_at hb (k / 8)
  unfold bitat at h
  rw [hn, hm, Int.toNat_natCast, Int.toNat_natCast] at h
  rw [hx, Option.getD_some] at hn
  rw [hy, Option.getD_some] at hm
  subst hn
  subst hm
  rw [bxor8 n m hl hl2]
  have hlt : n ^^^ m < 256 := Nat.xor_lt_two_pow (n := 8) hl hl2
  have := gb_all ⟨n ^^^ m, hlt⟩ ⟨k % 8, Nat.mod_lt _ (by decide)⟩
  dsimp only at this
  rw [this, Nat.testBit_xor, h, Bool.xor_self]
  rfl
theorem nb_vb : ∀ (l : List Bool) (k : Nat) (b : Bool), l[k]? = some b → nb (vb l : Int) k = b := by
  intro l
  induction l with
  | nil => intro k b h; simp at h
  | cons a r ih =>
    intro k b h
    cases k with
    | zero =>
      have h : a = b := by simpa using h
      subst h
      unfold nb
      rw [vb, Int.pow_zero, Int.ediv_one]
      cases a
      · rw [if_neg (by simp)]
        exact decide_eq_false (by omega)
      · rw [if_pos rfl]
        exact decide_eq_true (by omega)
    | succ k =>
      have h : r[k]? = some b := by simpa using h
      have := ih k b h
      unfold nb at this ⊢
      rw [vb]
      have e : (((if a = true then 1 else 0) + 2 * vb r : Nat) : Int) / 2 ^ (k + 1) = (vb r : Int) / 2 ^ k := by
        have h1 : ((if a = true then 1 else 0) + 2 * vb r) / 2 ^ (k + 1) = vb r / 2 ^ k := by
          rw [Nat.pow_succ, Nat.mul_comm (2 ^ k) 2, ← Nat.div_div_eq_div_mul]
          congr 1
          split <;> omega
        have p1 : ((2 ^ (k + 1) : Nat) : Int) = (2 : Int) ^ (k + 1) := by norm_cast
        have p2 : ((2 ^ k : Nat) : Int) = (2 : Int) ^ k := by norm_cast
        rw [← p1, ← p2, ← Int.natCast_ediv, ← Int.natCast_ediv, h1]
      rw [e]
      exact this
theorem nb_sgn {s : Bool} {m k : Nat} {v : Int} (hk : k < m) : nb (sgn s m v) k = nb v k := by
  unfold sgn
  split
  · unfold nb
    have e : (2 : Int) ^ m = 2 ^ k * (2 * 2 ^ (m - k - 1)) := by
      have h1 : (2 : Int) * 2 ^ (m - k - 1) = 2 ^ (m - k - 1 + 1) := by rw [Int.pow_succ, Int.mul_comm]
      rw [h1, ← Int.pow_add]
      congr 1
      omega
    have e2 : v - 2 ^ m = v + 2 ^ k * (-(2 * 2 ^ (m - k - 1))) := by rw [e, Int.mul_neg]; omega
    have hp : (2 : Int) ^ k ≠ 0 := by
      have : (0 : Int) < 2 ^ k := Int.pow_pos (by decide)
      omega
    rw [e2, Int.add_mul_ediv_left _ _ hp]
    generalize (2 : Int) ^ (m - k - 1) = t
    generalize v / 2 ^ k = w
    exact decide_eq_decide.2 (by omega)
  · rfl
theorem put_same {s : Signal} {d : List Int} (hd : isBytes d) (hp : ∀ p ∈ plS s, p < 8 * d.length) : putS s d (getS s d) = d := by
  refine bytes_ext (putF_bytes _ _ _ _ hd) hd (putF_len _ _ _ _) fun j => ?_
  by_cases hj : j ∈ plS s
  · obtain ⟨k, hk⟩ := List.getElem?_of_mem hj
    show bitat (putF (getS s d) 0 (plS s) d) j = _
    rw [putF_in (getS s d) (plS s) 0 d hd hp (plS_nodup s) k j hk, Nat.zero_add]
    unfold getS
    have hkl : k < s.Size.toNat := by
      have := (List.getElem?_eq_some_iff.1 hk).1
      rw [plS_len] at this
      exact this
    rw [nb_sgn hkl]
    exact nb_vb _ k _ (by rw [List.getElem?_map, hk]; rfl)
  · exact putF_out _ _ _ _ hd hp j hj
theorem mean_is (s : Signal) (n : Int) (hd : 1 ≤ s.Div) : ∃ g x y : Int, 0 < g ∧ 0 < y ∧ n * s.Mul + s.Add * s.Div = g * x ∧ s.Div = g * y ∧ meanS s n = ⟨s.Name, x, y⟩ ∧ nrm0 (n * s.Mul + s.Add * s.Div) s.Div = ⟨bz x, bz y⟩ := by
  obtain ⟨g, x, y, h1, h2, h3, h4, h5, _⟩ := nrm0_is (a := n * s.Mul + s.Add * s.Div) (b := s.Div) (by omega)
  refine ⟨g, x, y, h1, h2, h3, h4, ?_, h5⟩
  have hmean : meanS s n = ⟨s.Name, iv (nrm0 (n * s.Mul + s.Add * s.Div) s.Div).a, iv (nrm0 (n * s.Mul + s.Add * s.Div) s.Div).b⟩ := by
    unfold nrm0 meanS ngcd
    dsimp only
    rw [iv_bz, iv_bz]
  rw [hmean, h5]
  show (⟨s.Name, iv (bz x), iv (bz y)⟩ : Reading) = _
  rw [iv_bz, iv_bz]
theorem nrm0_cross {a b c d : Int} (hb : 0 < b) (hd : 0 < d) (h : a * d = c * b) : nrm0 a b = nrm0 c d := by
  have e1 := nrm0_scale (x := a) (y := b) hd
  have e2 := nrm0_scale (x := c) (y := d) hb
  rw [← e1, ← e2, Int.mul_comm d a, h, Int.mul_comm b c, Int.mul_comm d b]
theorem back_tail (s : Signal) (d : List Int) (hd : isBytes d) (hl : d.length ≤ 140737488355328) {A : Bool → Prop} (hA : A true) :
    ((isBytes d) ∧
      ((((((sreadS s d).2.2 != 0) || (decide ((sreadS s d).2.1.Num > 1099511627776))) || (decide ((sreadS s d).2.1.Num < (-1099511627776)))) = true →
        (A true)) ∧
      (((((sreadS s d).2.2 != 0) || (decide ((sreadS s d).2.1.Num > 1099511627776))) || (decide ((sreadS s d).2.1.Num < (-1099511627776)))) = false →
        ((0 ≤ (d.length : Int) ∧ (d.length : Int) ≤ (d.length : Int) ∧ (d.length : Int) * 1 ≤ 140737488355328) ∧
        ((isBytes (List.replicate (d.length : Int).toNat (0 : Int))) ∧
        ((isBytes d) ∧
        ((swriteS s d (sreadS s d).2.1.Num (sreadS s d).2.1.Den).1.length ≤ 140737488355328 →
        ((isBytes (swriteS s (List.replicate (d.length : Int).toNat (0 : Int)) (sreadS s d).2.1.Num (sreadS s d).2.1.Den).1) ∧
        ((((((swriteS s (List.replicate (d.length : Int).toNat (0 : Int)) (sreadS s d).2.1.Num (sreadS s d).2.1.Den).2 == 0) && ((swriteS s d (sreadS s d).2.1.Num (sreadS s d).2.1.Den).2 == 0)) && ((sreadS s (swriteS s (List.replicate (d.length : Int).toNat (0 : Int)) (sreadS s d).2.1.Num (sreadS s d).2.1.Den).1).2.2 == 0)) = true →
          (A ((beqS (swriteS s d (sreadS s d).2.1.Num (sreadS s d).2.1.Den).1 d) && (((sreadS s (swriteS s (List.replicate (d.length : Int).toNat (0 : Int)) (sreadS s d).2.1.Num (sreadS s d).2.1.Den).1).2.1.Name == (sreadS s d).2.1.Name) && (((sreadS s (swriteS s (List.replicate (d.length : Int).toNat (0 : Int)) (sreadS s d).2.1.Num (sreadS s d).2.1.Den).1).2.1.Num == (sreadS s d).2.1.Num) && (((sreadS s (swriteS s (List.replicate (d.length : Int).toNat (0 : Int)) (sreadS s d).2.1.Num (sreadS s d).2.1.Den).1).2.1.Den == (sreadS s d).2.1.Den) && true)))))) ∧
        (((((swriteS s (List.replicate (d.length : Int).toNat (0 : Int)) (sreadS s d).2.1.Num (sreadS s d).2.1.Den).2 == 0) && ((swriteS s d (sreadS s d).2.1.Num (sreadS s d).2.1.Den).2 == 0)) && ((sreadS s (swriteS s (List.replicate (d.length : Int).toNat (0 : Int)) (sreadS s d).2.1.Num (sreadS s d).2.1.Den).1).2.2 == 0)) = false →
          (A false))))))))))) := by
  refine ⟨hd, fun _ => hA, fun h1 => ?_⟩
  rw [Bool.or_eq_false_iff, Bool.or_eq_false_iff] at h1
  obtain ⟨⟨h1, h2⟩, h3⟩ := h1
  have h2 := of_decide_eq_false h2
  have h3 := of_decide_eq_false h3
  have hck : checkS s d.length = 0 := by
    rcases Classical.em (checkS s d.length = 0) with h | h
    · exact h
    · unfold sreadS at h1
      rw [if_pos h] at h1
      exact absurd (by simpa using h1) h
  obtain ⟨c1, c2, c3, c4⟩ := check_zero hck
  have hr : sreadS s d = (getS s d, meanS s (getS s d), 0) := by
    unfold sreadS
    rw [if_neg (by rw [hck]; simp)]
  rw [hr] at h2 h3 ⊢
  dsimp only at h2 h3 ⊢
  obtain ⟨g1, g2⟩ := get_range (d := d) ⟨c1.2.2.1, c1.2.2.2⟩
  have hraw := raw_mean hck g1 g2 (by omega) (by omega)
  have hw : ∀ e : List Int, e.length = d.length → swriteS s e (meanS s (getS s d)).Num (meanS s (getS s d)).Den = (putS s e (getS s d), 0) := by
    intro e he
    unfold swriteS
    rw [he, if_neg (by rw [hck]; simp), hraw, if_neg (by simp)]
  have hz : isBytes (List.replicate (d.length : Int).toNat (0 : Int)) := fun x hx => by rw [(List.mem_replicate.1 hx).2]; omega
  have hzl : (List.replicate (d.length : Int).toNat (0 : Int)).length = d.length := by rw [List.length_replicate]; omega
  have hp : ∀ p ∈ plS s, p < 8 * d.length := fun p hp => by have := c4 p hp; omega
  have hback : getS s (putS s (List.replicate (d.length : Int).toNat (0 : Int)) (getS s d)) = getS s d := get_back hz (by rw [hzl]; exact hp) c1.2.2.1 g1 g2
  have hpl : (putS s (List.replicate (d.length : Int).toNat (0 : Int)) (getS s d)).length = d.length := (putF_len _ _ _ _).trans hzl
  have hrd : sreadS s (putS s (List.replicate (d.length : Int).toNat (0 : Int)) (getS s d)) = (getS s d, meanS s (getS s d), 0) := by
    unfold sreadS
    rw [hpl, if_neg (by rw [hck]; simp), hback]
  rw [hw _ hzl, hw d rfl, put_same hd hp]
  dsimp only
  rw [hrd]
  refine ⟨by omega, hz, hd, fun _ => ⟨putF_bytes _ _ _ _ hz, fun _ => ?_, fun h => by simp at h⟩⟩
  simpa [beqS] using hA
theorem LSBack_ok {A C D : Prop} (s : Signal) (d : List Int) (num den : Int) (k0 : A) (k1 : (∀ y0 ∈ d, IntKind.u8.min ≤ y0 ∧ y0 ≤ IntKind.u8.max) ∧ d.length * 1 ≤ lim) (k2 : C) (k3 : D) : LSBack_vc s d num den (fun r => r = true) := by
  have hd : isBytes d := fun x hx => k1.1 x hx
  intro hl
  refine ⟨hd, fun _ => ⟨fun h1 => ?_, fun _ => back_tail s d hd hl (A := fun r => r = true) rfl⟩⟩
  have h1 : (swriteS s d num den).2 = 0 := by simpa using h1
  have hck : checkS s d.length = 0 := by
    rcases Classical.em (checkS s d.length = 0) with h | h
    · exact h
    · unfold swriteS at h1
      rw [if_pos h] at h1
      exact absurd h1 h
  have hraw : (rawS s num den).2 = 0 := by
    rcases Classical.em ((rawS s num den).2 = 0) with h | h
    · exact h
    · unfold swriteS at h1
      rw [if_neg (by rw [hck]; simp), if_pos h] at h1
      exact absurd h1 h
  have hrange : 1 ≤ den ∧ den ≤ 1000000 ∧ num ≤ 1099511627776 ∧ -1099511627776 ≤ num := by
    have h := hraw
    unfold rawS at h
    split at h
    · rename_i q; exact absurd h q
    · split at h
      · cases h
      · omega
  have hw : swriteS s d num den = (putS s d (rawS s num den).1, 0) := by
    unfold swriteS
    rw [if_neg (by rw [hck]; simp), if_neg (by rw [hraw]; simp)]
  obtain ⟨r1, r2, r3⟩ := raw_good hraw
  generalize (rawS s num den).1 = n at *
  obtain ⟨c1, c2, c3, c4⟩ := check_zero hck
  obtain ⟨m0, m1, m2, d1, d2, a1, a2⟩ := c2
  have hp : ∀ p ∈ plS s, p < 8 * d.length := fun p hp => by have := c4 p hp; omega
  have hback : getS s (putS s d n) = n := get_back hd hp c1.2.2.1 r2 r3
  have hpl : (putS s d n).length = d.length := putF_len _ _ _ _
  have hpb : isBytes (putS s d n) := putF_bytes _ _ _ _ hd
  have hrd : sreadS s (putS s d n) = (n, meanS s n, 0) := by
    unfold sreadS
    rw [hpl, if_neg (by rw [hck]; simp), hback]
  have hsp : splcS s d.length = (placesS s, 0) := by
    unfold splcS
    rw [if_neg (by rw [hck]; simp)]
  have hnb := get_bound (s := s) (d := putS s d n) ⟨c1.2.2.1, c1.2.2.2⟩
  rw [hback] at hnb
  have hN := mul_abs (a := n) (b := s.Mul) (A := 1099511627776) (B := 1000000) hnb ⟨m1, m2⟩
  have hAD := mul_abs (a := s.Add) (b := s.Div) (A := 1000000) (B := 1000000) ⟨a1, a2⟩ ⟨by omega, d2⟩
  obtain ⟨g, x, y, hg, hy, e1, e2, e3, e5⟩ := mean_is s n d1
  have bx := abs_part hg e1
  have bY := abs_part hg e2
  have hcross : (n * s.Mul + s.Add * s.Div) * den = num * s.Div := by
    rw [Int.add_mul, r1, Int.sub_mul, Int.mul_assoc s.Add den, Int.mul_assoc s.Add s.Div, Int.mul_comm den s.Div]
    omega
  have hsame : nrm x y = nrm num den := by
    rw [nrm_pos hy, nrm_pos (by omega), ← nrm0_scale (x := x) (y := y) hg, ← e1, ← e2]
    exact nrm0_cross (by omega) (by omega) hcross
  have hnx : nrm x y = ⟨bz x, bz y⟩ := by rw [nrm_pos hy, ← nrm0_scale (x := x) (y := y) hg, ← e1, ← e2, e5]
  rw [hw]
  dsimp only
  refine ⟨hpb, fun _ => ?_⟩
  rw [hrd, hsp, e3]
  dsimp only
  refine ⟨fun h => by simp at h, fun _ => ⟨⟨by omega, ⟨by omega, by omega⟩, by omega, by omega⟩, ?_⟩⟩
  rintro _ rfl _ _
  refine ⟨⟨by omega, ⟨by omega, by omega⟩, by omega, by omega⟩, ?_⟩
  rintro _ rfl _ _
  refine ⟨⟨?_, hsame⟩, ?_⟩
  · show rk (nrm x y)
    rw [hnx]
    exact ⟨bk_bz (by omega), bk_bz (by omega), by show 0 < iv (bz y); rw [iv_bz]; exact hy⟩
  rintro _ rfl _ _ _ _
  refine ⟨fun h => by simp [rcmpS] at h, fun _ => ?_⟩
  have e8 : w64 (8 * (d.length : Int)) = ((8 * d.length : Nat) : Int) := by rw [w64_eq _ (by omega)]; omega
  rw [e8]
  refine ⟨fun i => ∃ k : Nat, i = k ∧ k ≤ 8 * d.length, fun i => 8 * d.length - i.toNat, ⟨0, rfl, by omega⟩, ?_⟩
  rintro _ ⟨k, rfl, hk⟩
  refine ⟨fun h2 => ?_, fun _ => back_tail s d hd hl (A := fun r => r = true) rfl⟩
  have hkl : k < 8 * d.length := by have := of_decide_eq_true h2; omega
  have f1 : w64 ((k : Int).tdiv 8) = ((k / 8 : Nat) : Int) := by
    rw [Int.tdiv_eq_ediv_of_nonneg (by omega), w64_eq _ (by omega)]
    omega
  have f2 : (k : Int).tmod 8 = ((k % 8 : Nat) : Int) := by
    rw [Int.tmod_eq_emod_of_nonneg (by omega)]
    omega
  rw [f1, f2, Int.toNat_natCast]
  refine ⟨True, ⟨by omega, fun q hq => ⟨by omega, fun p hp2 => ⟨by omega, fun h3 => ⟨fun h4 => ?_, fun _ => trivial⟩, fun _ => trivial⟩⟩⟩, fun _ => ?_⟩
  · exfalso
    have hno : k ∉ plS s := by
      intro hc
      have : scontainsS (placesS s) (k : Int) = true := List.any_eq_true.2 ⟨(k : Int), List.mem_map.2 ⟨k, hc, rfl⟩, by simp⟩
      rw [this] at h4
      cases h4
    have := xor_bit hpb hd hq hp2 (putF_out n (plS s) 0 d hd hp k hno)
    rw [this] at h3
    cases h3
  · rw [w64_succ k (by omega)]
    exact ⟨⟨k + 1, rfl, by omega⟩, by (try dsimp only); omega⟩

end Go.Proofs.Ytdndfbamhnchfaa
