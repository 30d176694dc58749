/- Texts put together (pure ones, or walks made by program). -/
import Derived.Test.YtdndfbamhnchfaaGreatDoorMW0
set_option linter.unusedVariables false
set_option linter.unusedSimpArgs false
namespace Go.Proofs.YtdndfbamhnchfaaGreatDoor
open Go.Sy Go.RowKit
structure Signal where
 Name : List UInt8
 Start : Int
 Size : Int
 Back : Bool
 Signed : Bool
 Mul : Int
 Div : Int
 Add : Int
 Key : Int
 deriving DecidableEq, Inhabited
def Signal.enc (x : Signal) : List Value := [str x.Name, .int .i64 x.Start, .int .i64 x.Size, .bool x.Back, .bool x.Signed, .int .i64 x.Mul, .int .i64 x.Div, .int .i64 x.Add, .int .i64 x.Key]
def tySignal : Ty Signal := tyFlat Signal.enc 9 (fun _ => rfl) (fun x => by simp [Signal.enc, Value.oneCell'])
def okSignal (x : Signal) : Prop := (x.Name.length ≤ lim) ∧ (IntKind.i64.min ≤ x.Start ∧ x.Start ≤ IntKind.i64.max) ∧ (IntKind.i64.min ≤ x.Size ∧ x.Size ≤ IntKind.i64.max) ∧ (True) ∧ (True) ∧ (IntKind.i64.min ≤ x.Mul ∧ x.Mul ≤ IntKind.i64.max) ∧ (IntKind.i64.min ≤ x.Div ∧ x.Div ≤ IntKind.i64.max) ∧ (IntKind.i64.min ≤ x.Add ∧ x.Add ≤ IntKind.i64.max) ∧ (IntKind.i64.min ≤ x.Key ∧ x.Key ≤ IntKind.i64.max)
structure Reading where
 Name : List UInt8
 Num : Int
 Den : Int
 deriving DecidableEq, Inhabited
def Reading.enc (x : Reading) : List Value := [str x.Name, .int .i64 x.Num, .int .i64 x.Den]
def tyReading : Ty Reading := tyFlat Reading.enc 3 (fun _ => rfl) (fun x => by simp [Reading.enc, Value.oneCell'])
def okReading (x : Reading) : Prop := (x.Name.length ≤ lim) ∧ (IntKind.i64.min ≤ x.Num ∧ x.Num ≤ IntKind.i64.max) ∧ (IntKind.i64.min ≤ x.Den ∧ x.Den ≤ IntKind.i64.max)
structure Message where
 ID : Int
 Long : Bool
 Name : List UInt8
 Size : Int
 Chooser : Int
 Signals : List Signal
 deriving DecidableEq, Inhabited
def Message.rep (Z : Fz) (cs : List Value) (x : Message) : Prop := ∃ (ao0 : Option Addr) (cap0 : Nat), cs = [.int .i64 x.ID, .bool x.Long, str x.Name, .int .i64 x.Size, .int .i64 x.Chooser, .slice ao0 x.Signals.length cap0] ∧ SlR tySignal Z ao0 cap0 x.Signals
def tyMessage : Ty Message :=
 ⟨6, Message.rep, by rintro _ _ _ ⟨_, _, rfl, _⟩; rfl, by rintro _ _ _ _ hZ ⟨_, _, rfl, h0⟩; exact ⟨_, _, rfl, h0.mono hZ⟩, by rintro _ _ _ ⟨_, _, rfl, _⟩; simp [Value.oneCell']⟩
def okMessage (x : Message) : Prop := (IntKind.i64.min ≤ x.ID ∧ x.ID ≤ IntKind.i64.max) ∧ (True) ∧ (x.Name.length ≤ lim) ∧ (IntKind.i64.min ≤ x.Size ∧ x.Size ≤ IntKind.i64.max) ∧ (IntKind.i64.min ≤ x.Chooser ∧ x.Chooser ≤ IntKind.i64.max) ∧ ((∀ y0 ∈ x.Signals, okSignal y0) ∧ x.Signals.length * 72 ≤ lim)
structure Frame where
 ID : Int
 Long : Bool
 Fast : Bool
 Remote : Bool
 Size : Int
 Data : List Int
 deriving DecidableEq, Inhabited
def Frame.rep (Z : Fz) (cs : List Value) (x : Frame) : Prop := ∃ (ao0 : Option Addr) (cap0 : Nat), cs = [.int .i64 x.ID, .bool x.Long, .bool x.Fast, .bool x.Remote, .int .i64 x.Size, .slice ao0 x.Data.length cap0] ∧ SlR (tyInt .u8) Z ao0 cap0 x.Data
def sname_vc (u0 : List UInt8) (K : Bool → Prop) : Prop := ((((u0 == ([] : List UInt8)) || (decide ((u0.length : Int) > 16))) = true → (K false)) ∧ (((u0 == ([] : List UInt8)) || (decide ((u0.length : Int) > 16))) = false → (∃ inv34 : Int → Prop, ∃ mu34 : Int → Nat, inv34 0 ∧ (∀ (x15 : Int), inv34 x15 → (((decide (x15 < (u0.length : Int))) = true → ((0 ≤ x15 ∧ x15 < (u0.length : Int)) ∧ (∀ c64, u0[x15.toNat]? = some c64 → ((((!(((decide ((c64.toNat : Int) ≥ 97)) && (decide ((c64.toNat : Int) ≤ 122))) || ((decide ((c64.toNat : Int) ≥ 65)) && (decide ((c64.toNat : Int) ≤ 90))))) && (((x15 == 0) || (decide ((c64.toNat : Int) < 48))) || (decide ((c64.toNat : Int) > 57)))) = true → (K false)) ∧ (((!(((decide ((c64.toNat : Int) ≥ 97)) && (decide ((c64.toNat : Int) ≤ 122))) || ((decide ((c64.toNat : Int) ≥ 65)) && (decide ((c64.toNat : Int) ≤ 90))))) && (((x15 == 0) || (decide ((c64.toNat : Int) < 48))) || (decide ((c64.toNat : Int) > 57)))) = false → (inv34 (w64 (x15 + 1)) ∧ mu34 (w64 (x15 + 1)) < mu34 x15)))))) ∧ ((decide (x15 < (u0.length : Int))) = false → (K true)))))))
def sgcd_vc (u0 : Int) (u1 : Int) (K : Int → Prop) : Prop := (∃ inv5 : Int → Int → Prop, ∃ mu5 : Int → Int → Nat, inv5 u0 u1 ∧ (∀ (x0 : Int) (x1 : Int), inv5 x0 x1 → (((x1 != 0) = true → ((x1 ≠ 0) ∧ (inv5 x1 (x0.tmod x1) ∧ mu5 x1 (x0.tmod x1) < mu5 x0 x1))) ∧ ((x1 != 0) = false → (K (max x0 (w64 (0 - x0))))))))
theorem sgcd_mono {u0 : Int} {u1 : Int} {K K1 : Int → Prop} (hK : ∀ r, K r → K1 r) (h : sgcd_vc u0 u1 K) : sgcd_vc u0 u1 K1 :=
 (Exists.elim h fun i0 e0 => Exists.elim e0 fun m0 g0 => ⟨i0, m0, g0.1, fun x0 x1 z0 => ⟨fun c1 => ⟨((g0.2 x0 x1 z0).1 c1).1, ((g0.2 x0 x1 z0).1 c1).2⟩, fun c1 => hK _ ((g0.2 x0 x1 z0).2 c1)⟩⟩)
def imax_vc (u0 : List Int) (K : Int → Prop) : Prop := (u0.length ≤ 140737488355328 → (((decide ((u0.length : Int) < 1)) = true → False) ∧ ((decide ((u0.length : Int) < 1)) = false → ((0 ≤ (0 : Int) ∧ (0 : Int) < (u0.length : Int)) ∧ (∀ q26, u0[(0 : Int).toNat]? = some q26 → (∃ inv41 : Int → Int → Prop, ∃ mu41 : Int → Int → Nat, inv41 q26 1 ∧ (∀ (x3 : Int) (x4 : Int), inv41 x3 x4 → (((decide (x4 < (u0.length : Int))) = true → ((0 ≤ x4 ∧ x4 < (u0.length : Int)) ∧ (∀ q77, u0[x4.toNat]? = some q77 → (inv41 (max x3 q77) (w64 (x4 + 1)) ∧ mu41 (max x3 q77) (w64 (x4 + 1)) < mu41 x3 x4)))) ∧ ((decide (x4 < (u0.length : Int))) = false → (K x3))))))))))
def imin_vc (u0 : List Int) (K : Int → Prop) : Prop := (u0.length ≤ 140737488355328 → (((decide ((u0.length : Int) < 1)) = true → False) ∧ ((decide ((u0.length : Int) < 1)) = false → ((0 ≤ (0 : Int) ∧ (0 : Int) < (u0.length : Int)) ∧ (∀ q26, u0[(0 : Int).toNat]? = some q26 → (∃ inv41 : Int → Int → Prop, ∃ mu41 : Int → Int → Nat, inv41 q26 1 ∧ (∀ (x3 : Int) (x4 : Int), inv41 x3 x4 → (((decide (x4 < (u0.length : Int))) = true → ((0 ≤ x4 ∧ x4 < (u0.length : Int)) ∧ (∀ q77, u0[x4.toNat]? = some q77 → (inv41 (min x3 q77) (w64 (x4 + 1)) ∧ mu41 (min x3 q77) (w64 (x4 + 1)) < mu41 x3 x4)))) ∧ ((decide (x4 < (u0.length : Int))) = false → (K x3))))))))))
def bclone_vc (u0 : List Int) (K : (List Int) → Prop) : Prop := (u0.length ≤ 140737488355328 → (∀ nb11, (u0 ≠ [] → nb11 = false) → ((nb11 = true → (K ([] : List Int))) ∧ (nb11 = false → (((([] : List Int).length + u0.length) * 1 ≤ 140737488355328) ∧ (K (([] : List Int) ++ u0)))))))
def beq_vc (u0 : List Int) (u1 : List Int) (K : Bool → Prop) : Prop := (u0.length ≤ 140737488355328 → (u1.length ≤ 140737488355328 → ((((u0.length : Int) != (u1.length : Int)) = true → (K false)) ∧ (((u0.length : Int) != (u1.length : Int)) = false → (∃ inv37 : Int → Prop, ∃ mu37 : Int → Nat, inv37 0 ∧ (∀ (x13 : Int), inv37 x13 → (((decide (x13 < (u0.length : Int))) = true → ((0 ≤ x13 ∧ x13 < (u0.length : Int)) ∧ (∀ q74, u0[x13.toNat]? = some q74 → ((0 ≤ x13 ∧ x13 < (u1.length : Int)) ∧ (∀ q96, u1[x13.toNat]? = some q96 → (((q74 != q96) = true → (K false)) ∧ ((q74 != q96) = false → (inv37 (w64 (x13 + 1)) ∧ mu37 (w64 (x13 + 1)) < mu37 x13)))))))) ∧ ((decide (x13 < (u0.length : Int))) = false → (K true)))))))))
def sbounds_vc (u0 : Signal) (K : (Int × Int) → Prop) : Prop := ((u0.Signed = true → ((0 ≤ w64 (u0.Size - 1)) ∧ ((0 ≤ w64 (u0.Size - 1)) ∧ (K (bShl .i64 (-1) (w64 (u0.Size - 1)), w64 ((bShl .i64 1 (w64 (u0.Size - 1))) - 1)))))) ∧ (u0.Signed = false → ((0 ≤ u0.Size) ∧ (K (0, w64 ((bShl .i64 1 u0.Size) - 1))))))
def irev_vc (u0 : List Int) (K : (List Int) → Prop) : Prop := (u0.length ≤ 140737488355328 → (∃ inv16 : Int → Int → (List Int) → Prop, ∃ mu16 : Int → Int → (List Int) → Nat, inv16 0 (w64 ((u0.length : Int) - 1)) u0 ∧ (∀ (x2 : Int) (x3 : Int) (zao1 : List Int), inv16 x2 x3 zao1 → (((decide (x2 < x3)) = true → ((0 ≤ x3 ∧ x3 < (zao1.length : Int)) ∧ (∀ qd7_0, zao1[x3.toNat]? = some qd7_0 → ((0 ≤ x2 ∧ x2 < (zao1.length : Int)) ∧ (∀ qd11_0, zao1[x2.toNat]? = some qd11_0 → ((0 ≤ x2 ∧ x2 < (zao1.length : Int)) ∧ ((0 ≤ x3 ∧ x3 < (zao1.length : Int)) ∧ (inv16 (w64 (x2 + 1)) (w64 (x3 - 1)) ((zao1.set x2.toNat qd7_0).set x3.toNat qd11_0) ∧ mu16 (w64 (x2 + 1)) (w64 (x3 - 1)) ((zao1.set x2.toNat qd7_0).set x3.toNat qd11_0) < mu16 x2 x3 zao1)))))))) ∧ ((decide (x2 < x3)) = false → ((zao1.length = u0.length) ∧ (K zao1)))))))
def sb (d k v : Int) : Int := bOr .u8 (bAndNot .u8 d (bShl .u8 1 k)) (bShl .u8 v k)
theorem sb_all : ∀ (d : Fin 256) (k : Fin 8) (v : Fin 2), 0 ≤ sb d.val k.val v.val ∧ sb d.val k.val v.val ≤ 255 ∧ ∀ q : Fin 8, (sb d.val k.val v.val).toNat.testBit q.val = if q.val = k.val then decide (v.val = 1) else d.val.testBit q.val := by decide +kernel
theorem gb_all : ∀ (d : Fin 256) (k : Fin 8), bAnd .u8 (bShr .u8 (d.val : Int) k.val) 1 = if d.val.testBit k.val = true then 1 else 0 := by decide +kernel
def isBytes (d : List Int) : Prop := ∀ x ∈ d, 0 ≤ x ∧ x ≤ 255
def bitat (d : List Int) (j : Nat) : Bool := (d[j / 8]?.getD 0).toNat.testBit (j % 8)
def bv (v : Bool) : Int := if v = true then 1 else 0
def set1 (d : List Int) (p : Nat) (v : Bool) : List Int := d.set (p / 8) (sb (d[p / 8]?.getD 0) ((p % 8 : Nat) : Int) (bv v))
theorem byte_at {d : List Int} (h : isBytes d) (i : Nat) : ∃ n : Nat, d[i]?.getD 0 = (n : Int) ∧ n < 256 := by
 cases hc : d[i]? with
 | none => exact ⟨0, rfl, by omega⟩
 | some q => obtain ⟨h1, h2⟩ := h q (List.mem_of_getElem? hc); exact ⟨q.toNat, by show q = _; omega, by omega⟩
theorem sb_at {d : List Int} (h : isBytes d) (i p : Nat) (v : Bool) : (0 ≤ sb (d[i]?.getD 0) ((p % 8 : Nat) : Int) (bv v) ∧ sb (d[i]?.getD 0) ((p % 8 : Nat) : Int) (bv v) ≤ 255) ∧ ∀ q, q < 8 → (sb (d[i]?.getD 0) ((p % 8 : Nat) : Int) (bv v)).toNat.testBit q = if q = p % 8 then v else (d[i]?.getD 0).toNat.testBit q := by
 obtain ⟨n, hn, hb⟩ := byte_at h i
 rw [hn]
 have hv : bv v = (((if v = true then 1 else 0 : Nat)) : Int) := by cases v <;> rfl
 obtain ⟨a, b, c⟩ := sb_all ⟨n, hb⟩ ⟨p % 8, by omega⟩ ⟨if v = true then 1 else 0, by split <;> omega⟩
 rw [hv]
 refine ⟨⟨a, b⟩, fun q hq => ?_⟩
 rw [c ⟨q, hq⟩, Int.toNat_natCast]
 cases v <;> rfl
theorem set1_len (d : List Int) (p : Nat) (v : Bool) : (set1 d p v).length = d.length := List.length_set
theorem set1_bytes {d : List Int} (h : isBytes d) (p : Nat) (v : Bool) : isBytes (set1 d p v) := by
 intro x hx
 rcases List.mem_or_eq_of_mem_set hx with hx | rfl
 · exact h x hx
 · exact (sb_at h _ _ _).1
theorem set1_bit {d : List Int} (h : isBytes d) {p : Nat} (hp : p < 8 * d.length) (v : Bool) (j : Nat) : bitat (set1 d p v) j = if j = p then v else bitat d j := by
 unfold bitat set1
 rw [List.getElem?_set]
 by_cases hj : p / 8 = j / 8
 · rw [if_pos hj, if_pos (by omega), Option.getD_some, (sb_at h _ _ _).2 _ (by omega), ← hj]
   by_cases e : j = p
   · rw [if_pos e, if_pos (by rw [e])]
   · rw [if_neg e, if_neg (by omega)]
 · rw [if_neg hj, if_neg (by intro e; rw [e] at hj; exact hj rfl)]
theorem bytes_ext {a b : List Int} (ha : isBytes a) (hb : isBytes b) (hl : a.length = b.length) (h : ∀ j, bitat a j = bitat b j) : a = b := by
 apply List.ext_getElem?
 intro i
 by_cases hi : i < a.length
 · have h1 := List.getElem?_eq_getElem hi
   have h2 := List.getElem?_eq_getElem (l := b) (i := i) (by omega)
   obtain ⟨x, hx, hx2⟩ := byte_at ha i
   obtain ⟨y, hy, hy2⟩ := byte_at hb i
   rw [h1] at hx
   rw [h2] at hy
   have hx : a[i] = (x : Int) := hx
   have hy : b[i] = (y : Int) := hy
   have : x = y := by
    apply Nat.eq_of_testBit_eq
    intro q
    by_cases hq : q < 8
    · have h3 := h (8 * i + q)
      unfold bitat at h3
      have e1 : (8 * i + q) / 8 = i := by omega
      have e2 : (8 * i + q) % 8 = q := by omega
      rw [e1, e2, h1, h2] at h3
      simpa [hx, hy] using h3
    · rw [Nat.testBit_lt_two_pow (Nat.lt_of_lt_of_le hx2 (Nat.pow_le_pow_right (by decide : 0 < 2) (by omega : 8 ≤ q))), Nat.testBit_lt_two_pow (Nat.lt_of_lt_of_le hy2 (Nat.pow_le_pow_right (by decide : 0 < 2) (by omega : 8 ≤ q)))]
   rw [h1, h2, hx, hy, this]
 · rw [List.getElem?_eq_none (by omega), List.getElem?_eq_none (by omega)]
def nb (n : Int) (i : Nat) : Bool := decide ((n / 2 ^ i) % 2 = 1)
def putF (n : Int) : Nat → List Nat → List Int → List Int
 | _, [], d => d
 | i, p :: l, d => putF n (i + 1) l (set1 d p (nb n i))
theorem putF_len (n : Int) : ∀ (l : List Nat) (i : Nat) (d : List Int), (putF n i l d).length = d.length := by
 intro l
 induction l with
 | nil => intro i d; rfl
 | cons p l ih => intro i d; rw [putF, ih, set1_len]
theorem putF_bytes (n : Int) : ∀ (l : List Nat) (i : Nat) (d : List Int), isBytes d → isBytes (putF n i l d) := by
 intro l
 induction l with
 | nil => intro i d h; exact h
 | cons p l ih => intro i d h; rw [putF]; exact ih _ _ (set1_bytes h _ _)
theorem putF_out (n : Int) : ∀ (l : List Nat) (i : Nat) (d : List Int), isBytes d → (∀ p ∈ l, p < 8 * d.length) → ∀ j, j ∉ l → bitat (putF n i l d) j = bitat d j := by
 intro l
 induction l with
 | nil => intro i d h hp j hj; rfl
 | cons p l ih =>
  intro i d h hp j hj
  rw [List.mem_cons, not_or] at hj
  rw [putF, ih _ _ (set1_bytes h _ _) (fun q hq => by rw [set1_len]; exact hp q (List.mem_cons_of_mem _ hq)) j hj.2, set1_bit h (hp p List.mem_cons_self), if_neg hj.1]
theorem putF_in (n : Int) : ∀ (l : List Nat) (i : Nat) (d : List Int), isBytes d → (∀ p ∈ l, p < 8 * d.length) → l.Nodup → ∀ k j, l[k]? = some j → bitat (putF n i l d) j = nb n (i + k) := by
 intro l
 induction l with
 | nil => intro i d h hp hn k j hj; cases hj
 | cons p l ih =>
  intro i d h hp hn k j hj
  rw [List.nodup_cons] at hn
  have hp' : ∀ q ∈ l, q < 8 * (set1 d p (nb n i)).length := fun q hq => by rw [set1_len]; exact hp q (List.mem_cons_of_mem _ hq)
  rw [putF]
  cases k with
  | zero =>
   rw [List.getElem?_cons_zero] at hj
   have hj : p = j := Option.some.inj hj
   subst hj
   rw [putF_out n l _ _ (set1_bytes h _ _) hp' p hn.1, set1_bit h (hp p List.mem_cons_self), if_pos rfl, Nat.add_zero]
  | succ k =>
   rw [List.getElem?_cons_succ] at hj
   rw [ih _ _ (set1_bytes h _ _) hp' hn.2 k j hj]
   congr 1
   omega
def vb : List Bool → Nat
 | [] => 0
 | b :: r => (if b = true then 1 else 0) + 2 * vb r
theorem vb_lt : ∀ l : List Bool, vb l < 2 ^ l.length := by
 intro l
 induction l with
 | nil => exact Nat.one_pos
 | cons b r ih => rw [vb, List.length_cons, Nat.pow_succ]; split <;> omega
theorem vb_append : ∀ a b : List Bool, vb (a ++ b) = vb a + 2 ^ a.length * vb b := by
 intro a
 induction a with
 | nil => intro b; simp [vb]
 | cons x r ih => intro b; rw [List.cons_append, vb, vb, ih, List.length_cons, Nat.pow_succ, Nat.mul_add, Nat.mul_comm (2 ^ r.length) 2, Nat.mul_assoc]; omega
theorem vb_nb (n : Int) : ∀ m : Nat, ((vb ((List.range m).map (nb n)) : Nat) : Int) = n % 2 ^ m := by
 intro m
 induction m with
 | zero => simp [vb, Int.emod_one]
 | succ m ih =>
  rw [List.range_succ, List.map_append, vb_append, List.length_map, List.length_range]
  have e : vb ([m].map (nb n)) = if nb n m = true then 1 else 0 := by simp [vb]
  rw [e]
  have hd : n % 2 ^ (m + 1) = n % 2 ^ m + 2 ^ m * (n / 2 ^ m % 2) := by
   have hP : (0 : Int) < 2 ^ m := Int.pow_pos (by decide)
   rw [Int.pow_succ]
   generalize (2 : Int) ^ m = P at *
   have h1 := Int.mul_ediv_add_emod n P
   have h2 := Int.mul_ediv_add_emod (n / P) 2
   have h3 := Int.emod_nonneg n (by omega : P ≠ 0)
   have h4 := Int.emod_lt_of_pos n hP
   have e : n = (n % P + P * (n / P % 2)) + P * 2 * (n / P / 2) := by
    have : P * (n / P) = P * (2 * (n / P / 2) + n / P % 2) := by rw [h2]
    rw [Int.mul_add, ← Int.mul_assoc] at this
    omega
   have h5 : n / P % 2 = 0 ∨ n / P % 2 = 1 := by omega
   have hb : 0 ≤ n % P + P * (n / P % 2) ∧ n % P + P * (n / P % 2) < P * 2 := by
    rcases h5 with h5 | h5 <;> rw [h5] <;> constructor <;> omega
   calc n % (P * 2) = ((n % P + P * (n / P % 2)) + P * 2 * (n / P / 2)) % (P * 2) := congrArg (· % (P * 2)) e
    _ = (n % P + P * (n / P % 2)) % (P * 2) := Int.add_mul_emod_self_left ..
    _ = n % P + P * (n / P % 2) := Int.emod_eq_of_lt hb.1 hb.2
  rw [hd, ← ih]
  have h2 : n / 2 ^ m % 2 = 0 ∨ n / 2 ^ m % 2 = 1 := by omega
  unfold nb
  rcases h2 with h2 | h2 <;> rw [h2] <;> simp
def lin (a : Nat) : Nat := 8 * (a / 8) + (7 - a % 8)
theorem lin_lin (a : Nat) : lin (lin a) = a := by unfold lin; omega
theorem lin_inj {a b : Nat} (h : lin a = lin b) : a = b := by rw [← lin_lin a, h, lin_lin]
def fp (b : Bool) (st k : Nat) : Nat := if b = true then lin (lin st + k) else st + k
theorem fp_zero (b : Bool) (st : Nat) : fp b st 0 = st := by unfold fp; split; exact lin_lin st; rfl
theorem fp_up (st k : Nat) : fp false st (k + 1) = fp false st k + 1 := rfl
theorem fp_back (st k : Nat) : fp true st (k + 1) = if fp true st k % 8 = 0 then fp true st k + 15 else fp true st k - 1 := by
 unfold fp
 rw [if_pos rfl, if_pos rfl]
 unfold lin
 split <;> omega
theorem fp_inj {b : Bool} {st i j : Nat} (h : fp b st i = fp b st j) : i = j := by
 unfold fp at h
 split at h
 · have := lin_inj h; omega
 · omega
theorem fp_le (b : Bool) (st k : Nat) : fp b st k ≤ st + k + 14 := by
 unfold fp
 split
 · unfold lin; omega
 · omega
def plN (b : Bool) (st n : Nat) : List Nat := if b = true then ((List.range n).map (fp b st)).reverse else (List.range n).map (fp b st)
theorem plN_len (b : Bool) (st n : Nat) : (plN b st n).length = n := by
 unfold plN
 split <;> simp
theorem plN_nodup (b : Bool) (st n : Nat) : (plN b st n).Nodup := by
 have h : ((List.range n).map (fp b st)).Nodup := by
  rw [List.nodup_iff_pairwise_ne, List.pairwise_map]
  have := List.nodup_range (n := n)
  rw [List.nodup_iff_pairwise_ne] at this
  exact this.imp (fun hne e => hne (fp_inj e))
 unfold plN
 split
 · rw [List.nodup_iff_pairwise_ne, List.pairwise_reverse]
   rw [List.nodup_iff_pairwise_ne] at h
   exact h.imp (fun e f => e f.symm)
 · exact h
theorem get_put {n : Int} {l : List Nat} {d : List Int} (hd : isBytes d) (hp : ∀ p ∈ l, p < 8 * d.length) (hn : l.Nodup) : ((vb (l.map (bitat (putF n 0 l d))) : Nat) : Int) = n % 2 ^ l.length := by
 rw [← vb_nb n l.length]
 congr 2
 apply List.ext_getElem?
 intro k
 rw [List.getElem?_map, List.getElem?_map]
 by_cases hk : k < l.length
 · rw [List.getElem?_eq_getElem hk, List.getElem?_range hk, Option.map_some, Option.map_some, putF_in n l 0 d hd hp hn k _ (List.getElem?_eq_getElem hk), Nat.zero_add]
 · rw [List.getElem?_eq_none (by omega), List.getElem?_eq_none (by rw [List.length_range]; omega)]
   rfl
theorem get_away {n : Int} {l m : List Nat} {d : List Int} (hd : isBytes d) (hp : ∀ p ∈ l, p < 8 * d.length) (hm : ∀ j ∈ m, j ∉ l) : vb (m.map (bitat (putF n 0 l d))) = vb (m.map (bitat d)) := by
 congr 1
 apply List.map_congr_left
 intro j hj
 exact putF_out n l 0 d hd hp j (hm j hj)
theorem put_comm {n m : Int} {l k : List Nat} {d : List Int} (hd : isBytes d) (hl : ∀ p ∈ l, p < 8 * d.length) (hk : ∀ p ∈ k, p < 8 * d.length) (h1 : l.Nodup) (h2 : k.Nodup) (h : ∀ j ∈ k, j ∉ l) : putF m 0 k (putF n 0 l d) = putF n 0 l (putF m 0 k d) := by
 have b1 := putF_bytes n l 0 d hd
 have b2 := putF_bytes m k 0 d hd
 apply bytes_ext (putF_bytes _ _ _ _ b1) (putF_bytes _ _ _ _ b2)
 · rw [putF_len, putF_len, putF_len, putF_len]
 · intro j
   have hl' : ∀ p ∈ l, p < 8 * (putF m 0 k d).length := fun p q => by rw [putF_len]; exact hl p q
   have hk' : ∀ p ∈ k, p < 8 * (putF n 0 l d).length := fun p q => by rw [putF_len]; exact hk p q
   by_cases hj : j ∈ k
   · obtain ⟨i, hi⟩ := List.mem_iff_getElem?.1 hj
     rw [putF_in m k 0 _ b1 hk' h2 i j hi, putF_out n l 0 _ b2 hl' j (h j hj), putF_in m k 0 d hd hk h2 i j hi]
   · rw [putF_out m k 0 _ b1 hk' j hj]
     by_cases hj2 : j ∈ l
     · obtain ⟨i, hi⟩ := List.mem_iff_getElem?.1 hj2
       rw [putF_in n l 0 d hd hl h1 i j hi, putF_in n l 0 _ b2 hl' h1 i j hi]
     · rw [putF_out n l 0 d hd hl j hj2, putF_out n l 0 _ b2 hl' j hj2, putF_out m k 0 d hd hk j hj]
def sgn (s : Bool) (m : Nat) (v : Int) : Int := if s = true ∧ 2 ^ (m - 1) ≤ v then v - 2 ^ m else v
theorem sgn_back {s : Bool} {m : Nat} {n : Int} (hm : 1 ≤ m) (h : if s = true then -(2 : Int) ^ (m - 1) ≤ n ∧ n < 2 ^ (m - 1) else 0 ≤ n ∧ n < 2 ^ m) : sgn s m (n % 2 ^ m) = n := by
 obtain ⟨k, rfl⟩ : ∃ k, m = k + 1 := ⟨m - 1, by omega⟩
 have hP : (0 : Int) < 2 ^ k := Int.pow_pos (by decide)
 rw [Nat.add_sub_cancel, Int.pow_succ] at h
 unfold sgn
 rw [Nat.add_sub_cancel, Int.pow_succ]
 generalize (2 : Int) ^ k = P at *
 cases s with
 | false =>
  rw [if_neg (by simp)] at h
  rw [if_neg (by simp), Int.emod_eq_of_lt h.1 h.2]
 | true =>
  rw [if_pos rfl] at h
  by_cases hn : 0 ≤ n
  · rw [Int.emod_eq_of_lt hn (by omega), if_neg (by omega)]
  · have : n % (P * 2) = n + P * 2 := by
      rw [← Int.add_emod_right, Int.emod_eq_of_lt (by omega) (by omega)]
    rw [this, if_pos ⟨rfl, by omega⟩]
    omega
def ngcd (a b : Int) : Int := ((Int.gcd a b : Nat) : Int)
theorem ngcd_left (a b : Int) : ngcd a b ∣ a := Int.gcd_dvd_left ..
theorem ngcd_right (a b : Int) : ngcd a b ∣ b := Int.gcd_dvd_right ..
theorem ngcd_step (a b : Int) : ngcd b (a.tmod b) = ngcd a b := by
 unfold ngcd
 congr 1
 rw [Int.gcd_comm a b]
 show Nat.gcd b.natAbs (a.tmod b).natAbs = Nat.gcd b.natAbs a.natAbs
 rw [Int.natAbs_tmod, Nat.gcd_comm b.natAbs (a.natAbs % b.natAbs), ← Nat.gcd_rec, ]
theorem ngcd_zero (a : Int) : ngcd a 0 = (a.natAbs : Int) := by unfold ngcd; rw [Int.gcd_zero_right]
theorem ngcd_pos {a b : Int} (h : b ≠ 0) : 0 < ngcd a b := by
 have : 0 < Int.gcd a b := Int.gcd_pos_of_ne_zero_right a h
 unfold ngcd; omega
def rawN (mul div add num den : Int) : Int × Bool :=
 let up := num - add * den
 let g := ngcd div mul
 let a0 := div.tdiv g
 let b0 := mul.tdiv g
 let a := if b0 < 0 then -a0 else a0
 let b := if b0 < 0 then -b0 else b0
 let h := ngcd up den
 let up1 := up.tdiv h
 let den1 := den.tdiv h
 let h2 := ngcd a den1
 let a1 := a.tdiv h2
 let den2 := den1.tdiv h2
 let h3 := ngcd up1 b
 let up2 := up1.tdiv h3
 let b1 := b.tdiv h3
 (up2 * a1, den2 == 1 && b1 == 1)
theorem rawN_sound {mul div add num den : Int} (h : (rawN mul div add num den).2 = true) : (rawN mul div add num den).1 * mul * den = (num - add * den) * div := by
 unfold rawN at *
 dsimp only at *
 generalize num - add * den = up at *
 rw [Bool.and_eq_true, beq_iff_eq, beq_iff_eq] at h
 have g1 := Int.tdiv_mul_cancel (ngcd_left div mul)
 have g2 := Int.tdiv_mul_cancel (ngcd_right div mul)
 generalize ngcd div mul = g at *
 generalize div.tdiv g = a0 at *
 generalize mul.tdiv g = b0 at *
 obtain ⟨σ, hσ, ha, hb⟩ : ∃ σ : Int, σ * σ = 1 ∧ ((if b0 < 0 then -a0 else a0) = σ * a0 ∧ (if b0 < 0 then -b0 else b0) = σ * b0) := by
  split
  · exact ⟨-1, rfl, by omega, by omega⟩
  · exact ⟨1, rfl, by omega, by omega⟩
 rw [ha, hb] at h ⊢
 have h1 := Int.tdiv_mul_cancel (ngcd_left up den)
 have h2 := Int.tdiv_mul_cancel (ngcd_right up den)
 generalize ngcd up den = k at *
 generalize up.tdiv k = up1 at *
 generalize den.tdiv k = den1 at *
 have h3 := Int.tdiv_mul_cancel (ngcd_left (σ * a0) den1)
 have h4 := Int.tdiv_mul_cancel (ngcd_right (σ * a0) den1)
 generalize ngcd (σ * a0) den1 = k2 at *
 generalize (σ * a0).tdiv k2 = a1 at *
 rw [h.1, Int.one_mul] at h4
 have h5 := Int.tdiv_mul_cancel (ngcd_left up1 (σ * b0))
 have h6 := Int.tdiv_mul_cancel (ngcd_right up1 (σ * b0))
 generalize ngcd up1 (σ * b0) = k3 at *
 generalize up1.tdiv k3 = up2 at *
 rw [h.2, Int.one_mul] at h6
 have ea : a0 = σ * (a1 * k2) := by rw [h3, ← Int.mul_assoc, hσ, Int.one_mul]
 have eb : b0 = σ * k3 := by rw [h6, ← Int.mul_assoc, hσ, Int.one_mul]
 rw [← g1, ← g2, ← h1, ← h2, ← h4, ← h5, ea, eb]
 ac_rfl
theorem mean_whole {mul div add n m : Int} (hd : 0 < div) (h : n * mul = (m - add) * div) : n * mul + add * div = m * div ∧ ngcd (n * mul + add * div) div = div ∧ (n * mul + add * div).tdiv div = m ∧ div.tdiv div = 1 := by
 have e : n * mul + add * div = m * div := by rw [h, Int.sub_mul]; omega
 refine ⟨e, ?_, ?_, Int.tdiv_self (by omega)⟩
 · rw [e]
   unfold ngcd
   rw [Int.gcd_mul_left_left m div]
   omega
 · rw [e, Int.mul_tdiv_cancel _ (by omega)]
theorem raw_range {up a low high : Int} (hl : low ≤ 0) (hh : 0 ≤ high) (hc : (0 < up ∧ 0 < a ∧ high.tdiv a < up) ∨ (up < 0 ∧ 0 < a ∧ up < low.tdiv a) ∨ (0 < up ∧ a < 0 ∧ low.tdiv a < up) ∨ (up < 0 ∧ a < 0 ∧ up < high.tdiv a)) : ¬ (low ≤ up * a ∧ up * a ≤ high) := by
 obtain ⟨l, rfl⟩ : ∃ l : Int, low = -l := ⟨-low, by omega⟩
 have key : ∀ x c u : Int, 0 ≤ x → 0 < c → x.tdiv c < u → x < u * c := by
  intro x c u hx hc h
  rw [Int.tdiv_eq_ediv_of_nonneg hx] at h
  exact (Int.ediv_lt_iff_lt_mul hc).1 h
 rintro ⟨h1, h2⟩
 rcases hc with ⟨u, v, w⟩ | ⟨u, v, w⟩ | ⟨u, v, w⟩ | ⟨u, v, w⟩
 · have := key _ _ _ hh v w
   omega
 · rw [Int.neg_tdiv] at w
   have := key l a (-up) (by omega) v (by omega)
   rw [Int.neg_mul] at this
   omega
 · obtain ⟨c, rfl⟩ : ∃ c : Int, a = -c := ⟨-a, by omega⟩
   rw [Int.neg_tdiv, Int.tdiv_neg, Int.neg_neg] at w
   have := key l c up (by omega) (by omega) w
   rw [Int.mul_neg] at h1
   omega
 · obtain ⟨c, rfl⟩ : ∃ c : Int, a = -c := ⟨-a, by omega⟩
   rw [Int.tdiv_neg] at w
   have := key high c (-up) hh (by omega) (by omega)
   rw [Int.neg_mul] at this
   rw [Int.mul_neg] at h2
   omega
def plS (s : Signal) : List Nat := plN s.Back s.Start.toNat s.Size.toNat
def placesS (s : Signal) : List Int := (plS s).map (fun (k : Nat) => (k : Int))
def isLet (c : UInt8) : Bool := (97 ≤ c.toNat && c.toNat ≤ 122) || (65 ≤ c.toNat && c.toNat ≤ 90)
def isLD (c : UInt8) : Bool := isLet c || (48 ≤ c.toNat && c.toNat ≤ 57)
def nameS : List UInt8 → Bool
 | [] => false
 | c :: r => decide (r.length < 16) && isLet c && r.all isLD
def factS (s : Signal) : Prop := s.Mul ≠ 0 ∧ -1000000 ≤ s.Mul ∧ s.Mul ≤ 1000000 ∧ 1 ≤ s.Div ∧ s.Div ≤ 1000000 ∧ -1000000 ≤ s.Add ∧ s.Add ≤ 1000000
instance (s : Signal) : Decidable (factS s) := by unfold factS; infer_instance
def checkS (s : Signal) (size : Int) : Int :=
 if nameS s.Name = false then 1 else
 if size < 0 ∨ 64 < size ∨ s.Size < 1 ∨ 40 < s.Size then 3 else
 if ¬ factS s then 3 else
 if s.Key < -1 ∨ 255 < s.Key then 3 else
 if s.Start < 0 ∨ 8 * size ≤ s.Start then 7 else
 if (plS s).any (fun p => decide (8 * size ≤ (p : Int))) = true then 7 else 0
theorem check_zero {s : Signal} {size : Int} (h : checkS s size = 0) : (0 ≤ size ∧ size ≤ 64 ∧ 1 ≤ s.Size ∧ s.Size ≤ 40) ∧ factS s ∧ (0 ≤ s.Start ∧ s.Start < 8 * size) ∧ ∀ p ∈ plS s, p < 8 * size.toNat := by
 unfold checkS at h
 split at h
 · cases h
 split at h
 · cases h
 split at h
 · cases h
 rename_i h1 h2
 split at h
 · cases h
 split at h
 · cases h
 split at h
 · cases h
 rename_i h3 h4 h5
 refine ⟨by omega, Classical.not_not.1 h2, by omega, fun p hp => ?_⟩
 rcases Nat.lt_or_ge p (8 * size.toNat) with h6 | h6
 · exact h6
 · exact absurd (List.any_eq_true.2 ⟨p, hp, by rw [decide_eq_true_eq]; omega⟩) h5
theorem check_up {s : Signal} {size : Int} (h : checkS s size = 0) : checkS s 64 = 0 := by
 obtain ⟨h1, h2, h3, h4⟩ := check_zero h
 unfold checkS at h ⊢
 split at h
 · cases h
 rename_i h0
 split at h
 · cases h
 split at h
 · cases h
 split at h
 · cases h
 rename_i k1 k2 k3
 rw [if_neg h0, if_neg (by omega), if_neg (fun hx => hx h2), if_neg k2, if_neg (by omega), if_neg]
 intro h6
 obtain ⟨p, hp, h7⟩ := List.any_eq_true.1 h6
 have := h4 p hp
 rw [decide_eq_true_eq] at h7
 omega
def getS (s : Signal) (d : List Int) : Int := sgn s.Signed s.Size.toNat (vb ((plS s).map (bitat d)) : Nat)
def putS (s : Signal) (d : List Int) (n : Int) : List Int := putF n 0 (plS s) d
def lowS (s : Signal) : Int := if s.Signed = true then -2 ^ (s.Size.toNat - 1) else 0
def highS (s : Signal) : Int := if s.Signed = true then 2 ^ (s.Size.toNat - 1) - 1 else 2 ^ s.Size.toNat - 1
def meanS (s : Signal) (n : Int) : Reading :=
 ⟨s.Name, (n * s.Mul + s.Add * s.Div).tdiv (ngcd (n * s.Mul + s.Add * s.Div) s.Div), s.Div.tdiv (ngcd (n * s.Mul + s.Add * s.Div) s.Div)⟩
def rawS (s : Signal) (num den : Int) : Int × Int :=
 if checkS s 64 ≠ 0 then (0, checkS s 64) else
 if den < 1 ∨ 1000000 < den ∨ 1099511627776 < num ∨ num < -1099511627776 then (0, 3) else
 if (rawN s.Mul s.Div s.Add num den).2 = false then (0, 4) else
 if (rawN s.Mul s.Div s.Add num den).1 < lowS s ∨ highS s < (rawN s.Mul s.Div s.Add num den).1 then (0, 3) else
 ((rawN s.Mul s.Div s.Add num den).1, 0)
def sreadS (s : Signal) (d : List Int) : Int × Reading × Int :=
 if checkS s d.length ≠ 0 then (0, ⟨[], 0, 0⟩, checkS s d.length) else (getS s d, meanS s (getS s d), 0)
def swriteS (s : Signal) (d : List Int) (num den : Int) : List Int × Int :=
 if checkS s d.length ≠ 0 then ([], checkS s d.length) else
 if (rawS s num den).2 ≠ 0 then ([], (rawS s num den).2) else (putS s d (rawS s num den).1, 0)
def overS (s t : Signal) : Bool := if checkS s 64 ≠ 0 ∨ checkS t 64 ≠ 0 then false else (plS s).any (fun p => (plS t).contains p)
theorem plS_nodup (s : Signal) : (plS s).Nodup := plN_nodup _ _ _
theorem plS_len (s : Signal) : (plS s).length = s.Size.toNat := plN_len _ _ _
theorem raw_good {s : Signal} {num den : Int} (h : (rawS s num den).2 = 0) : (rawS s num den).1 * s.Mul * den = (num - s.Add * den) * s.Div ∧ lowS s ≤ (rawS s num den).1 ∧ (rawS s num den).1 ≤ highS s := by
 unfold rawS at *
 split at h
 · rename_i hc; exact absurd h hc
 rename_i hc
 split at h
 · cases h
 rename_i hd
 split at h
 · cases h
 rename_i hb
 split at h
 · cases h
 rename_i hr
 rw [if_neg hc, if_neg hd, if_neg hb, if_neg hr]
 exact ⟨rawN_sound (by cases hx : (rawN s.Mul s.Div s.Add num den).2 with | true => rfl | false => exact absurd hx hb), by dsimp only; omega, by dsimp only; omega⟩
theorem get_back {s : Signal} {d : List Int} {n : Int} (hd : isBytes d) (hp : ∀ p ∈ plS s, p < 8 * d.length) (h1 : 1 ≤ s.Size) (hl : lowS s ≤ n) (hh : n ≤ highS s) : getS s (putS s d n) = n := by
 unfold getS putS
 rw [get_put hd hp (plS_nodup s), plS_len]
 refine sgn_back (by omega) ?_
 unfold lowS at hl
 unfold highS at hh
 split <;> rename_i hs
 · rw [if_pos hs] at hl hh; omega
 · rw [if_neg hs] at hl hh; omega
theorem apart {s t : Signal} {d : List Int} {n m : Int} (hd : isBytes d) (ho : overS s t = false) (ha : (swriteS s d n 1).2 = 0) (hb : (swriteS t d m 1).2 = 0) : (swriteS t (swriteS s d n 1).1 m 1).2 = 0 ∧ (swriteS s (swriteS t d m 1).1 n 1).2 = 0 ∧ (sreadS s (swriteS t (swriteS s d n 1).1 m 1).1).2.2 = 0 ∧ (sreadS t (swriteS t (swriteS s d n 1).1 m 1).1).2.2 = 0 ∧ (swriteS t (swriteS s d n 1).1 m 1).1 = (swriteS s (swriteS t d m 1).1 n 1).1 ∧ (sreadS s (swriteS t (swriteS s d n 1).1 m 1).1).2.1.Num = n ∧ (sreadS s (swriteS t (swriteS s d n 1).1 m 1).1).2.1.Den = 1 ∧ (sreadS t (swriteS t (swriteS s d n 1).1 m 1).1).2.1.Num = m ∧ (sreadS t (swriteS t (swriteS s d n 1).1 m 1).1).2.1.Den = 1 := by
 have good : ∀ (s : Signal) (d : List Int) (n : Int), (swriteS s d n 1).2 = 0 → checkS s d.length = 0 ∧ (rawS s n 1).2 = 0 ∧ ∀ e : List Int, e.length = d.length → swriteS s e n 1 = (putS s e (rawS s n 1).1, 0) := by
  intro s d n h
  unfold swriteS at h
  split at h
  · rename_i hc; exact absurd h hc
  rename_i hc
  split at h
  · rename_i hr; exact absurd h hr
  rename_i hr
  refine ⟨Classical.not_not.1 hc, Classical.not_not.1 hr, fun e he => ?_⟩
  unfold swriteS
  rw [he, if_neg hc, if_neg hr]
 obtain ⟨s1, s2, s3⟩ := good s d n ha
 obtain ⟨t1, t2, t3⟩ := good t d m hb
 obtain ⟨a1, a2, a3, a4⟩ := check_zero s1
 obtain ⟨b1, b2, b3, b4⟩ := check_zero t1
 have a4 : ∀ p ∈ plS s, p < 8 * d.length := fun p hp => by have := a4 p hp; omega
 have b4 : ∀ p ∈ plS t, p < 8 * d.length := fun p hp => by have := b4 p hp; omega
 have hdis : ∀ j ∈ plS t, j ∉ plS s := by
  intro j hj hs
  unfold overS at ho
  rw [if_neg (by rw [check_up s1, check_up t1]; simp)] at ho
  have : (plS s).any (fun p => (plS t).contains p) = true := List.any_eq_true.2 ⟨j, hs, by simpa using hj⟩
  rw [this] at ho
  cases ho
 obtain ⟨r1, r2, r3⟩ := raw_good s2
 obtain ⟨q1, q2, q3⟩ := raw_good t2
 generalize (rawS s n 1).1 = x at *
 generalize (rawS t m 1).1 = y at *
 have hps : (putS s d x).length = d.length := putF_len _ _ _ _
 have hpt : (putS t d y).length = d.length := putF_len _ _ _ _
 rw [s3 d rfl, t3 d rfl]
 dsimp only
 rw [t3 _ hps, s3 _ hpt]
 have hbs := putF_bytes x (plS s) 0 d hd
 have hlx : (putS t (putS s d x) y).length = d.length := by unfold putS; rw [putF_len, putF_len]
 have g1 : getS s (putS t (putS s d x) y) = x := by
  have : getS s (putS t (putS s d x) y) = getS s (putS s d x) := by
   unfold getS
   congr 2
   exact get_away hbs (fun p hp => by rw [hps]; exact b4 p hp) (fun j hj hj2 => hdis j hj2 hj)
  rw [this]
  exact get_back hd a4 a1.2.2.1 r2 r3
 have g2 : getS t (putS t (putS s d x) y) = y := get_back hbs (fun p hp => by rw [hps]; exact b4 p hp) b1.2.2.1 q2 q3
 have k1 : sreadS s (putS t (putS s d x) y) = (x, meanS s x, 0) := by unfold sreadS; rw [hlx, if_neg (by rw [s1]; simp), g1]
 have k2 : sreadS t (putS t (putS s d x) y) = (y, meanS t y, 0) := by unfold sreadS; rw [hlx, if_neg (by rw [t1]; simp), g2]
 dsimp only
 rw [k1, k2]
 rw [Int.mul_one, Int.mul_one] at r1 q1
 obtain ⟨_, m2, m3, m4⟩ := mean_whole (by have := a2.2.2.2.1; omega) r1
 obtain ⟨_, w2, w3, w4⟩ := mean_whole (by have := b2.2.2.2.1; omega) q1
 refine ⟨rfl, rfl, rfl, rfl, put_comm hd a4 b4 (plS_nodup s) (plS_nodup t) hdis, ?_, ?_, ?_, ?_⟩
 · unfold meanS; dsimp only; rw [m2, m3]
 · unfold meanS; dsimp only; rw [m2, m4]
 · unfold meanS; dsimp only; rw [w2, w3]
 · unfold meanS; dsimp only; rw [w2, w4]
theorem w64_nat (k : Nat) (h : k < 4611686018427387904) : w64 ((k : Int) + 1) = ((k + 1 : Nat) : Int) := by rw [w64_eq _ (by omega)]; omega
theorem letter_eq (c : UInt8) : (((decide ((c.toNat : Int) ≥ 97)) && (decide ((c.toNat : Int) ≤ 122))) || ((decide ((c.toNat : Int) ≥ 65)) && (decide ((c.toNat : Int) ≤ 90)))) = isLet c := by
 unfold isLet
 rw [Bool.eq_iff_iff]
 simp only [Bool.or_eq_true, Bool.and_eq_true, decide_eq_true_eq]
 omega
theorem sname_ok (u : List UInt8) : sname_vc u (fun r => r = nameS u) := by
 refine ⟨fun h => ?_, fun h => ?_⟩
 · rw [Bool.or_eq_true, beq_iff_eq, decide_eq_true_eq] at h
   cases u with
   | nil => rfl
   | cons c r =>
    rcases h with h | h
    · cases h
    · rw [List.length_cons] at h
      show false = (decide (r.length < 16) && isLet c && r.all isLD)
      rw [decide_eq_false (by omega)]
      rfl
 · rw [Bool.or_eq_false_iff, decide_eq_false_iff_not] at h
   cases u with
   | nil => simp at h
   | cons c r =>
    have hl : r.length < 16 := by have := h.2; rw [List.length_cons] at this; omega
    have e : nameS (c :: r) = (isLet c && r.all isLD) := by show (decide (r.length < 16) && isLet c && r.all isLD) = _; rw [decide_eq_true hl, Bool.true_and]
    rw [e]
    refine ⟨fun x => ∃ k : Nat, x = k ∧ k ≤ r.length + 1 ∧ (0 < k → isLet c = true) ∧ (r.take (k - 1)).all isLD = true, fun x => r.length + 1 - x.toNat, ⟨0, rfl, by omega, fun hk => absurd hk (by decide), rfl⟩, ?_⟩
    rintro _ ⟨k, rfl, hk, h1, h2⟩
    refine ⟨fun h3 => ?_, fun h3 => ?_⟩
    · have h3 := of_decide_eq_true h3
      rw [List.length_cons] at h3
      refine ⟨by rw [List.length_cons]; omega, fun q hq => ?_⟩
      rw [Int.toNat_natCast] at hq
      rw [letter_eq, w64_nat k (by omega)]
      cases k with
      | zero =>
       have hq : c = q := by simpa using hq
       subst hq
       refine ⟨fun h4 => ?_, fun h4 => ?_⟩
       · have : isLet c = false := by
           rw [Bool.and_eq_true, Bool.not_eq_true'] at h4
           exact h4.1
         rw [this]; rfl
       · have : isLet c = true := by
           cases hc : isLet c with
           | true => rfl
           | false => rw [hc] at h4; simp at h4
         exact ⟨⟨1, rfl, by omega, fun _ => this, rfl⟩, by simp⟩
      | succ k =>
       rw [List.getElem?_cons_succ] at hq
       have hz : ((((k + 1 : Nat) : Int) == 0)) = false := by rw [beq_eq_false_iff_ne]; omega
       have hld : ((!(isLet q)) && (((((k + 1 : Nat) : Int) == 0) || (decide ((q.toNat : Int) < 48))) || (decide ((q.toNat : Int) > 57)))) = !(isLD q) := by
        rw [hz]
        unfold isLD
        rw [Bool.false_or, Bool.not_or]
        congr 1
        rw [Bool.eq_iff_iff]
        simp only [Bool.or_eq_true, Bool.not_eq_true', Bool.and_eq_false_iff, decide_eq_true_eq, decide_eq_false_iff_not]
        omega
       rw [hld]
       have hk' : k < r.length := (List.getElem?_eq_some_iff.1 hq).1
       refine ⟨fun h4 => ?_, fun h4 => ?_⟩
       · have h4 : isLD q = false := by simpa using h4
         have : r.all isLD = false := by
          rw [List.all_eq_false]
          exact ⟨q, List.mem_of_getElem? hq, by rw [h4]; decide⟩
         rw [this, Bool.and_false]
       · have h4 : isLD q = true := by simpa using h4
         refine ⟨⟨k + 2, rfl, by omega, fun _ => h1 (by omega), ?_⟩, by (try dsimp only); omega⟩
         show (r.take (k + 1)).all isLD = true
         rw [List.take_add_one, hq, List.all_append]
         have h2 : (r.take k).all isLD = true := h2
         rw [h2]
         simpa using h4
    · have h3 := of_decide_eq_false h3
      rw [List.length_cons] at h3
      have hk2 : k = r.length + 1 := by omega
      subst hk2
      rw [Nat.add_sub_cancel, List.take_length] at h2
      rw [h1 (by omega), h2]
      rfl
theorem sgcd_ok (a b : Int) (h : (-4611686018427387904 ≤ a ∧ a ≤ 4611686018427387904) ∧ -4611686018427387904 ≤ b ∧ b ≤ 4611686018427387904) : sgcd_vc a b (fun r => r = ngcd a b) := by
 refine ⟨fun x y => ((-4611686018427387904 ≤ x ∧ x ≤ 4611686018427387904) ∧ -4611686018427387904 ≤ y ∧ y ≤ 4611686018427387904) ∧ ngcd x y = ngcd a b, fun _ y => y.natAbs, ⟨h, rfl⟩, ?_⟩
 rintro x y ⟨⟨hx, hy⟩, hg⟩
 refine ⟨fun h1 => ?_, fun h1 => ?_⟩
 · have h1 : y ≠ 0 := by simpa using h1
   have ha : (x.tmod y).natAbs < y.natAbs := by
    rw [Int.natAbs_tmod]
    exact Nat.mod_lt _ (by omega)
   exact ⟨h1, ⟨⟨⟨hy, by omega⟩, by rw [ngcd_step, hg]⟩, ha⟩⟩
 · have h1 : y = 0 := by simpa using h1
   subst h1
   rw [← hg, ngcd_zero, w64_eq _ (by omega)]
   omega
def maxL : List Int → Int
 | [] => 0
 | a :: r => r.foldl max a
def minL : List Int → Int
 | [] => 0
 | a :: r => r.foldl min a
theorem imax_ok (l : List Int) (h : 0 < l.length) : imax_vc l (fun r => r = maxL l) := by
 intro hl
 refine ⟨fun h1 => ?_, fun _ => ⟨by omega, fun q hq => ?_⟩⟩
 · have h1 := of_decide_eq_true h1
   omega
 · cases l with
   | nil => cases h
   | cons a r =>
    have hq : a = q := by simpa using hq
    subst hq
    refine ⟨fun x i => ∃ k : Nat, i = ((k + 1 : Nat) : Int) ∧ k ≤ r.length ∧ x = (r.take k).foldl max a, fun _ i => r.length + 1 - i.toNat, ⟨0, rfl, by omega, rfl⟩, ?_⟩
    rintro _ _ ⟨k, rfl, hk, rfl⟩
    refine ⟨fun h1 => ?_, fun h1 => ?_⟩
    · have h1 := of_decide_eq_true h1
      rw [List.length_cons] at h1 hl
      refine ⟨by rw [List.length_cons]; omega, fun y hy => ?_⟩
      rw [Int.toNat_natCast, List.getElem?_cons_succ] at hy
      rw [w64_nat (k + 1) (by omega)]
      refine ⟨⟨k + 1, rfl, by omega, ?_⟩, by (try dsimp only); omega⟩
      rw [List.take_add_one, hy, List.foldl_append]
      rfl
    · have h1 := of_decide_eq_false h1
      rw [List.length_cons] at h1
      have : k = r.length := by omega
      subst this
      rw [List.take_length]
      rfl
theorem imin_ok (l : List Int) (h : 0 < l.length) : imin_vc l (fun r => r = minL l) := by
 intro hl
 refine ⟨fun h1 => ?_, fun _ => ⟨by omega, fun q hq => ?_⟩⟩
 · have h1 := of_decide_eq_true h1
   omega
 · cases l with
   | nil => cases h
   | cons a r =>
    have hq : a = q := by simpa using hq
    subst hq
    refine ⟨fun x i => ∃ k : Nat, i = ((k + 1 : Nat) : Int) ∧ k ≤ r.length ∧ x = (r.take k).foldl min a, fun _ i => r.length + 1 - i.toNat, ⟨0, rfl, by omega, rfl⟩, ?_⟩
    rintro _ _ ⟨k, rfl, hk, rfl⟩
    refine ⟨fun h1 => ?_, fun h1 => ?_⟩
    · have h1 := of_decide_eq_true h1
      rw [List.length_cons] at h1 hl
      refine ⟨by rw [List.length_cons]; omega, fun y hy => ?_⟩
      rw [Int.toNat_natCast, List.getElem?_cons_succ] at hy
      rw [w64_nat (k + 1) (by omega)]
      refine ⟨⟨k + 1, rfl, by omega, ?_⟩, by (try dsimp only); omega⟩
      rw [List.take_add_one, hy, List.foldl_append]
      rfl
    · have h1 := of_decide_eq_false h1
      rw [List.length_cons] at h1
      have : k = r.length := by omega
      subst this
      rw [List.take_length]
      rfl
theorem foldl_max_ge (c : Int) : ∀ (r : List Int) (a : Int), c ≤ r.foldl max a ↔ c ≤ a ∨ ∃ x ∈ r, c ≤ x := by
 intro r
 induction r with
 | nil => intro a; simp
 | cons y r ih =>
  intro a
  rw [List.foldl_cons, ih]
  constructor
  · rintro (h | ⟨x, hx, h⟩)
    · by_cases hh : c ≤ a
      · exact .inl hh
      · exact .inr ⟨y, List.mem_cons_self, by omega⟩
    · exact .inr ⟨x, List.mem_cons_of_mem _ hx, h⟩
  · rintro (h | ⟨x, hx, h⟩)
    · exact .inl (by omega)
    · rw [List.mem_cons] at hx
      rcases hx with rfl | hx
      · exact .inl (by omega)
      · exact .inr ⟨x, hx, h⟩
theorem foldl_min_ge (c : Int) : ∀ (r : List Int) (a : Int), c ≤ a → (∀ x ∈ r, c ≤ x) → c ≤ r.foldl min a := by
 intro r
 induction r with
 | nil => intro a h _; exact h
 | cons y r ih =>
  intro a h h2
  rw [List.foldl_cons]
  exact ih _ (by have := h2 y List.mem_cons_self; omega) (fun x hx => h2 x (List.mem_cons_of_mem _ hx))
theorem places_max (s : Signal) (h : 0 < (plS s).length) (c : Int) : decide (c ≤ maxL (placesS s)) = (plS s).any (fun p => decide (c ≤ (p : Int))) := by
 unfold placesS
 rw [Bool.eq_iff_iff, decide_eq_true_eq, List.any_eq_true]
 cases hp : plS s with
 | nil => rw [hp] at h; cases h
 | cons a r =>
  rw [List.map_cons]
  show c ≤ (r.map _).foldl max _ ↔ _
  rw [foldl_max_ge]
  constructor
  · rintro (h | ⟨x, hx, h⟩)
    · exact ⟨a, List.mem_cons_self, by rw [decide_eq_true_eq]; exact h⟩
    · obtain ⟨k, hk, rfl⟩ := List.mem_map.1 hx
      exact ⟨k, List.mem_cons_of_mem _ hk, by rw [decide_eq_true_eq]; exact h⟩
  · rintro ⟨x, hx, h⟩
    rw [decide_eq_true_eq] at h
    rw [List.mem_cons] at hx
    rcases hx with rfl | hx
    · exact .inl h
    · exact .inr ⟨x, List.mem_map.2 ⟨x, hx, rfl⟩, h⟩
theorem places_min (s : Signal) : 0 ≤ minL (placesS s) := by
 unfold placesS
 cases plS s with
 | nil => exact Int.le_refl _
 | cons a r => exact foldl_min_ge 0 _ _ (Int.natCast_nonneg a) (fun x hx => by obtain ⟨k, _, rfl⟩ := List.mem_map.1 hx; exact Int.natCast_nonneg k)
theorem places_len (s : Signal) : (placesS s).length = s.Size.toNat := by unfold placesS; rw [List.length_map, plS_len]
theorem shl_one (k : Nat) (h : k ≤ 62) : bShl .i64 1 (k : Int) = ((2 ^ k : Nat) : Int) := by
 have hp : 2 ^ k ≤ 2 ^ 62 := Nat.pow_le_pow_right (by omega) h
 have p62 : (2 : Nat) ^ 62 = 4611686018427387904 := rfl
 unfold bShl
 have e : min (k : Int).toNat IntKind.i64.bits = k := by show min (k : Int).toNat 64 = k; omega
 rw [e]
 have : (1 : Int) * 2 ^ k = ((2 ^ k : Nat) : Int) := by rw [Int.one_mul]; norm_cast
 rw [this]
 generalize (2 : Nat) ^ k = m at hp ⊢
 exact w64_eq _ (by omega)
theorem shl_minus (k : Nat) (h : k ≤ 62) : bShl .i64 (-1) (k : Int) = -((2 ^ k : Nat) : Int) := by
 have hp : 2 ^ k ≤ 2 ^ 62 := Nat.pow_le_pow_right (by omega) h
 have p62 : (2 : Nat) ^ 62 = 4611686018427387904 := rfl
 unfold bShl
 have e : min (k : Int).toNat IntKind.i64.bits = k := by show min (k : Int).toNat 64 = k; omega
 rw [e]
 have : (-1 : Int) * 2 ^ k = -((2 ^ k : Nat) : Int) := by rw [Int.neg_mul, Int.one_mul]; norm_cast
 rw [this]
 generalize (2 : Nat) ^ k = m at hp ⊢
 exact w64_eq _ (by omega)
theorem sbounds_ok (s : Signal) (h : 1 ≤ s.Size ∧ s.Size ≤ 40) : sbounds_vc s (fun r => r = (lowS s, highS s)) := by
 have e1 : w64 (s.Size - 1) = ((s.Size.toNat - 1 : Nat) : Int) := by rw [w64_eq _ (by omega)]; omega
 have e2 : s.Size = ((s.Size.toNat : Nat) : Int) := by omega
 have c : ∀ k : Nat, ((2 ^ k : Nat) : Int) = (2 : Int) ^ k := fun k => by norm_cast
 have b : ∀ k : Nat, k ≤ 40 → 1 ≤ 2 ^ k ∧ 2 ^ k ≤ 1099511627776 := fun k hk => ⟨Nat.one_le_two_pow, Nat.pow_le_pow_right (by omega : 0 < 2) hk⟩
 refine ⟨fun h1 => ⟨by omega, by omega, ?_⟩, fun h1 => ⟨by omega, ?_⟩⟩
 · have := b (s.Size.toNat - 1) (by omega)
   unfold lowS highS
   rw [if_pos h1, if_pos h1, e1, shl_minus _ (by omega), shl_one _ (by omega), w64_eq _ (by omega), c]
 · have := b s.Size.toNat (by omega)
   unfold lowS highS
   rw [if_neg (by rw [h1]; decide), if_neg (by rw [h1]; decide), e2, shl_one _ (by omega), w64_eq _ (by omega), c, ← e2]
def boundsS (s : Signal) : Int × Int := (lowS s, highS s)
theorem mul_abs {a b A B : Int} (ha : -A ≤ a ∧ a ≤ A) (hb : -B ≤ b ∧ b ≤ B) : -(A * B) ≤ a * b ∧ a * b ≤ A * B := by
 have h1 : (a * b).natAbs ≤ A.toNat * B.toNat := by rw [Int.natAbs_mul]; exact Nat.mul_le_mul (by omega) (by omega)
 have h2 : ((A.toNat * B.toNat : Nat) : Int) = A * B := by rw [Int.natCast_mul, Int.toNat_of_nonneg (by omega), Int.toNat_of_nonneg (by omega)]
 rw [← h2]
 omega
theorem tdiv_abs (a b : Int) : (a.tdiv b).natAbs ≤ a.natAbs := by
 rw [Int.natAbs_tdiv]
 exact Nat.div_le_self _ _
def bcloneS (l : List Int) : List Int := l
theorem bclone_ok (l : List Int) (h : l.length ≤ 140737488355328) : bclone_vc l (fun r => r = bcloneS l) := by
 intro _ nb hnb
 refine ⟨fun h1 => ?_, fun _ => ⟨by simp; omega, by simp [bcloneS]⟩⟩
 by_cases e : l = []
 · rw [e]; rfl
 · rw [hnb e] at h1; cases h1
def Rev {α : Type} (u : List α) (k : Nat) (z : List α) : Prop := z.length = u.length ∧ ∀ j, j < u.length → z[j]? = if j < k ∨ u.length ≤ j + k then u[u.length - 1 - j]? else u[j]?
theorem Rev.start {α : Type} (u : List α) : Rev u 0 u := ⟨rfl, fun j hj => by rw [if_neg (by omega)]⟩
theorem Rev.step {α : Type} {u z : List α} {k : Nat} {x y : α} (h : Rev u k z) (hk : 2 * k + 1 < u.length) (hx : z[u.length - 1 - k]? = some x) (hy : z[k]? = some y) : Rev u (k + 1) ((z.set k x).set (u.length - 1 - k) y) := by
 obtain ⟨h1, h2⟩ := h
 refine ⟨by simp [h1], fun j hj => ?_⟩
 have ex := h2 (u.length - 1 - k) (by omega)
 have ey := h2 k (by omega)
 rw [if_neg (by omega)] at ex ey
 rw [hx] at ex
 rw [hy] at ey
 rw [List.getElem?_set, List.getElem?_set]
 by_cases e1 : u.length - 1 - k = j
 · subst e1
   rw [if_pos rfl, if_pos (by rw [List.length_set]; omega), if_pos (by omega), ey]
   congr 1
   omega
 · rw [if_neg e1]
   by_cases e2 : k = j
   · subst e2
     rw [if_pos rfl, if_pos (by omega), if_pos (by omega), ex]
   · rw [if_neg e2, h2 j hj]
     have : (j < k + 1 ∨ u.length ≤ j + (k + 1)) ↔ (j < k ∨ u.length ≤ j + k) := by omega
     simp only [this]
theorem Rev.done {α : Type} {u z : List α} {k : Nat} (h : Rev u k z) (hk : u.length ≤ 2 * k + 1) : z = u.reverse := by
 obtain ⟨h1, h2⟩ := h
 apply List.ext_getElem?
 intro j
 rcases Nat.lt_or_ge j u.length with hj | hj
 · rw [h2 j hj, List.getElem?_reverse hj]
   split
   · rfl
   · congr 1
     omega
 · rw [List.getElem?_eq_none (by omega), List.getElem?_eq_none (by rw [List.length_reverse]; omega)]
def irevS (l : List Int) : List Int := l.reverse
theorem irev_ok (l : List Int) : irev_vc l (fun r => r = irevS l) := by
 intro hl
 refine ⟨fun x y z => ∃ k : Nat, x = k ∧ y = (l.length : Int) - 1 - k ∧ 2 * k ≤ l.length + 1 ∧ Rev l k z, fun x _ _ => l.length - x.toNat, ⟨0, rfl, by rw [w64_eq _ (by omega)]; omega, by omega, Rev.start l⟩, ?_⟩
 rintro _ _ z ⟨k, rfl, rfl, hk, hR⟩
 refine ⟨fun h1 => ?_, fun h1 => ?_⟩
 · have h1 := of_decide_eq_true h1
   have e1 : (((l.length : Int) - 1 - (k : Int))).toNat = l.length - 1 - k := by omega
   have hz := hR.1
   rw [e1, Int.toNat_natCast]
   refine ⟨by omega, fun x hx => ⟨by omega, fun y hy => ⟨by omega, by omega, ?_, ?_⟩⟩⟩
   · rw [w64_succ k (by omega), w64_eq _ (by omega)]
     exact ⟨k + 1, rfl, by omega, by omega, hR.step (by omega) hx hy⟩
   · rw [w64_succ k (by omega)]
     (try dsimp only)
     omega
 · have h1 := of_decide_eq_false h1
   exact ⟨hR.1, hR.done (by omega)⟩
def beqS (a b : List Int) : Bool := decide (a = b)
theorem list_eq_at {α : Type} {a b : List α} (hl : a.length = b.length) (h : ∀ (k : Nat) (x y : α), a[k]? = some x → b[k]? = some y → x = y) : a = b := by
 apply List.ext_getElem? 
 intro k
 rcases Nat.lt_or_ge k a.length with hk | hk
 · have h1 := List.getElem?_eq_getElem hk
   have h2 := List.getElem?_eq_getElem (l := b) (show k < b.length by omega)
   rw [h1, h2, h k _ _ h1 h2]
 · rw [List.getElem?_eq_none hk, List.getElem?_eq_none (by omega)]
theorem beq_ok (a b : List Int) : beq_vc a b (fun r => r = beqS a b) := by
 intro ha hb
 refine ⟨fun h => ?_, fun h => ?_⟩
 · have h : ¬ (a.length : Int) = (b.length : Int) := by simpa using h
   unfold beqS
   rw [decide_eq_false]
   intro e
   rw [e] at h
   exact h rfl
 · have h : a.length = b.length := by
     have h : (a.length : Int) = (b.length : Int) := by simpa only [bne_eq_false_iff_eq] using h
     omega
   refine ⟨fun i => ∃ k : Nat, i = k ∧ k ≤ a.length ∧ ∀ (j : Nat) (x y : Int), j < k → a[j]? = some x → b[j]? = some y → x = y, fun i => a.length - i.toNat, ⟨0, rfl, by omega, fun j _ _ hj => absurd hj (Nat.not_lt_zero _)⟩, ?_⟩
   rintro _ ⟨k, rfl, hk, hj⟩
   refine ⟨fun h1 => ?_, fun h1 => ?_⟩
   · have hk : k < a.length := by have := of_decide_eq_true h1; omega
     rw [w64_succ k (by omega)]
     refine ⟨by omega, fun q hq => ⟨by omega, fun p hp => ⟨fun h2 => ?_, fun h2 => ?_⟩⟩⟩
     · unfold beqS
       rw [decide_eq_false]
       rintro rfl
       rw [hq] at hp
       cases hp
       simp at h2
     · have h2 : q = p := by simpa using h2
       rw [Int.toNat_natCast] at hq hp
       refine ⟨⟨k + 1, rfl, by omega, fun j x y hj1 hx hy => ?_⟩, by (try dsimp only); omega⟩
       rcases Nat.lt_or_ge j k with hc | hc
       · exact hj j x y hc hx hy
       · have : j = k := by omega
         subst this
         rw [hq] at hx
         rw [hp] at hy
         cases hx; cases hy; exact h2
   · have : k = a.length := by have := of_decide_eq_false h1; omega
     subst this
     unfold beqS
     rw [decide_eq_true]
     exact list_eq_at h fun k x y hx hy => hj k x y (List.getElem?_eq_some_iff.1 hx).1 hx hy
end Go.Proofs.YtdndfbamhnchfaaGreatDoor
set_option linter.unusedVariables false
set_option linter.unusedSimpArgs false
namespace Go.Proofs.YtdndfbamhnchfaaGreatDoor
open Go.Sy Go.RowKit
def splaces_vc (u0 : Signal) (K : (List Int) → Prop) : Prop := (∃ inv27 : (List Int) → Int → Int → Prop, ∃ mu27 : (List Int) → Int → Int → Nat, inv27 ([] : List Int) u0.Start 0 ∧ (∀ (x3 : List Int) (x4 : Int) (x9 : Int), inv27 x3 x4 x9 → (((decide (x9 < u0.Size)) = true → (((x3.length + 1) * 8 ≤ 140737488355328) ∧ (((!u0.Back) = true → (inv27 (x3 ++ [x4]) (w64 (x4 + 1)) (w64 (x9 + 1)) ∧ mu27 (x3 ++ [x4]) (w64 (x4 + 1)) (w64 (x9 + 1)) < mu27 x3 x4 x9)) ∧ ((!u0.Back) = false → ((((x4.tmod 8) == 0) = true → (inv27 (x3 ++ [x4]) (w64 (x4 + 15)) (w64 (x9 + 1)) ∧ mu27 (x3 ++ [x4]) (w64 (x4 + 15)) (w64 (x9 + 1)) < mu27 x3 x4 x9)) ∧ (((x4.tmod 8) == 0) = false → (inv27 (x3 ++ [x4]) (w64 (x4 - 1)) (w64 (x9 + 1)) ∧ mu27 (x3 ++ [x4]) (w64 (x4 - 1)) (w64 (x9 + 1)) < mu27 x3 x4 x9))))))) ∧ ((decide (x9 < u0.Size)) = false → ((u0.Back = true → ((irevS x3).length ≤ 140737488355328 → (K (irevS x3)))) ∧ (u0.Back = false → (K x3)))))))
def smean_vc (u0 : Signal) (u1 : Int) (K : Reading → Prop) : Prop := (((-4611686018427387904 ≤ (w64 ((w64 (u1 * u0.Mul)) + (w64 (u0.Add * u0.Div)))) ∧ (w64 ((w64 (u1 * u0.Mul)) + (w64 (u0.Add * u0.Div)))) ≤ 4611686018427387904) ∧ -4611686018427387904 ≤ u0.Div ∧ u0.Div ≤ 4611686018427387904) ∧ (((ngcd (w64 ((w64 (u1 * u0.Mul)) + (w64 (u0.Add * u0.Div)))) u0.Div) ≠ 0) ∧ (((ngcd (w64 ((w64 (u1 * u0.Mul)) + (w64 (u0.Add * u0.Div)))) u0.Div) ≠ 0) ∧ (K (⟨u0.Name, w64 ((w64 ((w64 (u1 * u0.Mul)) + (w64 (u0.Add * u0.Div)))).tdiv (ngcd (w64 ((w64 (u1 * u0.Mul)) + (w64 (u0.Add * u0.Div)))) u0.Div)), w64 (u0.Div.tdiv (ngcd (w64 ((w64 (u1 * u0.Mul)) + (w64 (u0.Add * u0.Div)))) u0.Div))⟩ : Reading)))))
theorem splaces_ok (s : Signal) (h : (0 ≤ s.Start ∧ s.Start ≤ 512) ∧ 1 ≤ s.Size ∧ s.Size ≤ 40) : splaces_vc s (fun r => r = placesS s) := by
 obtain ⟨⟨h1, h2⟩, h3, h4⟩ := h
 obtain ⟨st, hst⟩ : ∃ st : Nat, s.Start = st := ⟨s.Start.toNat, by omega⟩
 obtain ⟨n, hn⟩ : ∃ n : Nat, s.Size = n := ⟨s.Size.toNat, by omega⟩
 rw [hst] at h1 h2
 rw [hn] at h3 h4
 have hP : placesS s = (plN s.Back st n).map (fun (k : Nat) => (k : Int)) := by unfold placesS plS; rw [hst, hn, Int.toNat_natCast, Int.toNat_natCast]
 rw [hP]
 refine ⟨fun x a i => ∃ k : Nat, i = k ∧ k ≤ n ∧ x = (List.range k).map (fun j => (fp s.Back st j : Int)) ∧ a = (fp s.Back st k : Int), fun _ _ i => n - i.toNat, ⟨0, rfl, by omega, rfl, by rw [fp_zero, hst]⟩, ?_⟩
 rintro _ _ _ ⟨k, rfl, hk, rfl, rfl⟩
 have hb := fp_le s.Back st k
 have happ : (List.range k).map (fun j => (fp s.Back st j : Int)) ++ [(fp s.Back st k : Int)] = (List.range (k + 1)).map (fun j => (fp s.Back st j : Int)) := by rw [List.range_succ, List.map_append]; rfl
 refine ⟨fun hc => ?_, fun hc => ?_⟩
 · have hc := of_decide_eq_true hc
   rw [hn] at hc
   rw [happ, w64_succ k (by omega)]
   refine ⟨by rw [List.length_map, List.length_range]; omega, fun hB => ?_, fun hB => ?_⟩
   · have hB : s.Back = false := by simpa using hB
     refine ⟨⟨k + 1, rfl, by omega, rfl, ?_⟩, by (try dsimp only); omega⟩
     rw [w64_succ _ (by omega), hB, fp_up]
   · have hB : s.Back = true := by simpa using hB
     have hm : (((fp s.Back st k : Nat) : Int).tmod 8 == 0) = decide (fp s.Back st k % 8 = 0) := by
      rw [Int.tmod_eq_emod_of_nonneg (by omega), Bool.eq_iff_iff, beq_iff_eq, decide_eq_true_eq]
      omega
     rw [hm]
     refine ⟨fun h5 => ?_, fun h5 => ?_⟩
     · have h5 := of_decide_eq_true h5
       refine ⟨⟨k + 1, rfl, by omega, rfl, ?_⟩, by (try dsimp only); omega⟩
       rw [w64_eq _ (by omega)]
       rw [hB] at h5 ⊢
       rw [fp_back, if_pos h5]
       omega
     · have h5 := of_decide_eq_false h5
       refine ⟨⟨k + 1, rfl, by omega, rfl, ?_⟩, by (try dsimp only); omega⟩
       rw [w64_eq _ (by omega)]
       rw [hB] at h5 ⊢
       rw [fp_back, if_neg h5]
       omega
 · have hc := of_decide_eq_false hc
   rw [hn] at hc
   have : k = n := by omega
   subst this
   refine ⟨fun hB => ?_, fun hB => ?_⟩
   · intro _
     unfold irevS plN
     rw [if_pos hB, List.map_reverse, List.map_map]
     rfl
   · unfold plN
     rw [if_neg (by rw [hB]; decide), List.map_map]
     rfl
theorem mean_bound {s : Signal} {n : Int} (h : factS s ∧ -1099511627776 ≤ n ∧ n ≤ 1099511627776) : (-(1099511627776 * 1000000) ≤ n * s.Mul ∧ n * s.Mul ≤ 1099511627776 * 1000000) ∧ -(1000000 * 1000000) ≤ s.Add * s.Div ∧ s.Add * s.Div ≤ 1000000 * 1000000 := by
 obtain ⟨⟨h1, h2, h3, h4, h5, h6, h7⟩, h8⟩ := h
 exact ⟨mul_abs h8 ⟨h2, h3⟩, mul_abs ⟨h6, h7⟩ ⟨by omega, h5⟩⟩
theorem smean_ok (s : Signal) (n : Int) (h : factS s ∧ -1099511627776 ≤ n ∧ n ≤ 1099511627776) : smean_vc s n (fun r => r = meanS s n) := by
 obtain ⟨hb1, hb2⟩ := mean_bound h
 obtain ⟨⟨h1, h2, h3, h4, h5, h6, h7⟩, h8⟩ := h
 unfold smean_vc meanS
 rw [w64_eq (n * s.Mul) (by omega), w64_eq (s.Add * s.Div) (by omega), w64_eq (n * s.Mul + s.Add * s.Div) (by omega)]
 have hg := ngcd_pos (a := n * s.Mul + s.Add * s.Div) (b := s.Div) (by omega)
 have t1 := tdiv_abs (n * s.Mul + s.Add * s.Div) (ngcd (n * s.Mul + s.Add * s.Div) s.Div)
 have t2 := tdiv_abs s.Div (ngcd (n * s.Mul + s.Add * s.Div) s.Div)
 rw [w64_eq ((n * s.Mul + s.Add * s.Div).tdiv _) (by omega), w64_eq (s.Div.tdiv _) (by omega)]
 exact ⟨by omega, by omega, by omega, rfl⟩
end Go.Proofs.YtdndfbamhnchfaaGreatDoor
set_option linter.unusedVariables false
set_option linter.unusedSimpArgs false
namespace Go.Proofs.YtdndfbamhnchfaaGreatDoor
open Go.Sy Go.RowKit
def scheck_vc (u0 : Signal) (u1 : Int) (K : Int → Prop) : Prop := (((!(nameS u0.Name)) = true → (K 1)) ∧ ((!(nameS u0.Name)) = false → ((((((decide (u1 < 0)) || (decide (u1 > 64))) || (decide (u0.Size < 1))) || (decide (u0.Size > 40))) = true → (K 3)) ∧ (((((decide (u1 < 0)) || (decide (u1 > 64))) || (decide (u0.Size < 1))) || (decide (u0.Size > 40))) = false → (((((((((u0.Mul == 0) || (decide ((max u0.Mul (w64 (0 - u0.Mul))) > 1000000))) || (decide (u0.Mul < (-1000000)))) || (decide (u0.Div < 1))) || (decide (u0.Div > 1000000))) || (decide (u0.Add > 1000000))) || (decide (u0.Add < (-1000000)))) = true → (K 3)) ∧ ((((((((u0.Mul == 0) || (decide ((max u0.Mul (w64 (0 - u0.Mul))) > 1000000))) || (decide (u0.Mul < (-1000000)))) || (decide (u0.Div < 1))) || (decide (u0.Div > 1000000))) || (decide (u0.Add > 1000000))) || (decide (u0.Add < (-1000000)))) = false → ((((decide (u0.Key < (-1))) || (decide (u0.Key > 255))) = true → (K 3)) ∧ (((decide (u0.Key < (-1))) || (decide (u0.Key > 255))) = false → ((((decide (u0.Start < 0)) || (decide (u0.Start ≥ (w64 (8 * u1))))) = true → (K 7)) ∧ (((decide (u0.Start < 0)) || (decide (u0.Start ≥ (w64 (8 * u1))))) = false → (((0 ≤ u0.Start ∧ u0.Start ≤ 512) ∧ 1 ≤ u0.Size ∧ u0.Size ≤ 40) ∧ ((placesS u0).length ≤ 140737488355328 → ((0 < (placesS u0).length) ∧ (((decide ((maxL (placesS u0)) ≥ (w64 (8 * u1)))) = true → (K 7)) ∧ ((decide ((maxL (placesS u0)) ≥ (w64 (8 * u1)))) = false → ((0 < (placesS u0).length) ∧ (((decide ((minL (placesS u0)) < 0)) = true → (K 7)) ∧ ((decide ((minL (placesS u0)) < 0)) = false → (K 0)))))))))))))))))))
def sget_vc (u0 : Signal) (u1 : List Int) (K : Int → Prop) : Prop := (u1.length ≤ 140737488355328 → (((0 ≤ u0.Start ∧ u0.Start ≤ 512) ∧ 1 ≤ u0.Size ∧ u0.Size ≤ 40) ∧ ((placesS u0).length ≤ 140737488355328 → (∃ inv36 : Int → Int → Prop, ∃ mu36 : Int → Int → Nat, inv36 0 0 ∧ (∀ (x5 : Int) (x11 : Int), inv36 x5 x11 → (((decide (x11 < ((placesS u0).length : Int))) = true → ((0 ≤ x11 ∧ x11 < ((placesS u0).length : Int)) ∧ (∀ q67, (placesS u0)[x11.toNat]? = some q67 → ((0 ≤ w64 (q67.tdiv 8) ∧ w64 (q67.tdiv 8) < (u1.length : Int)) ∧ (∀ q94, u1[(w64 (q67.tdiv 8)).toNat]? = some q94 → ((0 ≤ q67.tmod 8) ∧ ((0 ≤ x11) ∧ (inv36 (bOr .i64 x5 (bShl .i64 (w64 (bAnd .u8 (bShr .u8 q94 (q67.tmod 8)) 1)) x11)) (w64 (x11 + 1)) ∧ mu36 (bOr .i64 x5 (bShl .i64 (w64 (bAnd .u8 (bShr .u8 q94 (q67.tmod 8)) 1)) x11)) (w64 (x11 + 1)) < mu36 x5 x11)))))))) ∧ ((decide (x11 < ((placesS u0).length : Int))) = false → ((u0.Signed = true → ((0 ≤ w64 (u0.Size - 1)) ∧ ((((bShr .i64 x5 (w64 (u0.Size - 1))) == 1) = true → ((0 ≤ u0.Size) ∧ (K (w64 (x5 - (bShl .i64 1 u0.Size)))))) ∧ (((bShr .i64 x5 (w64 (u0.Size - 1))) == 1) = false → (K x5))))) ∧ (u0.Signed = false → (K x5))))))))))
def sputd_vc (u0 : Signal) (u1 : List Int) (u2 : Int) (K : (List Int) → Prop) : Prop := (u1.length ≤ 140737488355328 → (((0 ≤ u0.Start ∧ u0.Start ≤ 512) ∧ 1 ≤ u0.Size ∧ u0.Size ≤ 40) ∧ ((placesS u0).length ≤ 140737488355328 → (∃ inv30 : Int → (List Int) → Prop, ∃ mu30 : Int → (List Int) → Nat, inv30 0 u1 ∧ (∀ (x11 : Int) (zao1 : List Int), inv30 x11 zao1 → (((decide (x11 < ((placesS u0).length : Int))) = true → ((0 ≤ x11 ∧ x11 < ((placesS u0).length : Int)) ∧ (∀ q61, (placesS u0)[x11.toNat]? = some q61 → ((0 ≤ w64 (q61.tdiv 8) ∧ w64 (q61.tdiv 8) < (zao1.length : Int)) ∧ (∀ q109, zao1[(w64 (q61.tdiv 8)).toNat]? = some q109 → ((0 ≤ q61.tmod 8) ∧ ((0 ≤ x11) ∧ ((0 ≤ q61.tmod 8) ∧ ((0 ≤ w64 (q61.tdiv 8) ∧ w64 (q61.tdiv 8) < (zao1.length : Int)) ∧ (inv30 (w64 (x11 + 1)) (zao1.set (w64 (q61.tdiv 8)).toNat (bOr .u8 (bAndNot .u8 q109 (bShl .u8 1 (q61.tmod 8))) (bShl .u8 (w8 (bAnd .i64 (bShr .i64 u2 x11) 1)) (q61.tmod 8)))) ∧ mu30 (w64 (x11 + 1)) (zao1.set (w64 (q61.tdiv 8)).toNat (bOr .u8 (bAndNot .u8 q109 (bShl .u8 1 (q61.tmod 8))) (bShl .u8 (w8 (bAnd .i64 (bShr .i64 u2 x11) 1)) (q61.tmod 8)))) < mu30 x11 zao1)))))))))) ∧ ((decide (x11 < ((placesS u0).length : Int))) = false → ((zao1.length = u1.length) ∧ (K zao1)))))))))
theorem shr_any (n : Int) (s : Nat) (hs : s ≤ 63) : bShr .i64 n (s : Int) = n / 2 ^ s := by
 unfold bShr
 have : min (s : Int).toNat IntKind.i64.bits = s := by simp [IntKind.bits]; omega
 rw [this, Int.fdiv_eq_ediv_of_nonneg _ (Int.le_of_lt (Int.pow_pos (by decide)))]
theorem and_one (m : Int) : bAnd .i64 m 1 = m % 2 := by
 unfold bAnd
 have e : (BitVec.ofInt IntKind.i64.bits m &&& BitVec.ofInt IntKind.i64.bits 1).toNat = (m % 2).toNat := by
  rw [BitVec.toNat_and]
  show (BitVec.ofInt 64 m).toNat &&& 1 = _
  rw [Nat.and_one_is_mod, BitVec.toNat_ofInt]
  omega
 rw [e]
 have := Int.emod_nonneg m (by decide : (2 : Int) ≠ 0)
 have := Int.emod_lt_of_pos m (by decide : (0 : Int) < 2)
 rw [Int.toNat_of_nonneg (by omega)]
 exact w64_eq _ (by omega)
theorem fact_eq (s : Signal) : (((((((s.Mul == 0) || (decide ((max s.Mul (w64 (0 - s.Mul))) > 1000000))) || (decide (s.Mul < (-1000000)))) || (decide (s.Div < 1))) || (decide (s.Div > 1000000))) || (decide (s.Add > 1000000))) || (decide (s.Add < (-1000000)))) = !decide (factS s) := by
 rw [Bool.eq_iff_iff]
 simp only [Bool.or_eq_true, beq_iff_eq, decide_eq_true_eq, Bool.not_eq_true', decide_eq_false_iff_not]
 unfold factS
 by_cases h : -1000000 ≤ s.Mul ∧ s.Mul ≤ 1000000
 · rw [w64_eq (0 - s.Mul) (by omega)]
   omega
 · constructor
   · intro _
     omega
   · intro _
     omega
theorem scheck_ok (s : Signal) (n : Int) : scheck_vc s n (fun r => r = checkS s n) := by
 unfold scheck_vc
 rw [fact_eq]
 unfold checkS
 refine ⟨fun h => ?_, fun h => ?_⟩
 · rw [if_pos (by simpa using h)]
 rw [if_neg (by simpa using h)]
 refine ⟨fun h1 => ?_, fun h1 => ?_⟩
 · rw [if_pos (by simpa [or_assoc] using h1)]
 have h1 : ¬ (n < 0 ∨ 64 < n ∨ s.Size < 1 ∨ 40 < s.Size) := by simp only [Bool.or_eq_false_iff, decide_eq_false_iff_not] at h1; omega
 rw [if_neg h1]
 refine ⟨fun h2 => ?_, fun h2 => ?_⟩
 · rw [if_pos (by simpa using h2)]
 have h2 : factS s := by simpa using h2
 rw [if_neg (fun hh => hh h2)]
 refine ⟨fun h3 => ?_, fun h3 => ?_⟩
 · rw [if_pos (by simpa using h3)]
 rw [if_neg (by simp only [Bool.or_eq_false_iff, decide_eq_false_iff_not] at h3; omega), w64_eq _ (by omega)]
 refine ⟨fun h4 => ?_, fun h4 => ?_⟩
 · rw [if_pos (by simpa using h4)]
 have h4 : ¬ (s.Start < 0 ∨ 8 * n ≤ s.Start) := by simp only [Bool.or_eq_false_iff, decide_eq_false_iff_not] at h4; omega
 have hl : 0 < (placesS s).length := by rw [places_len]; omega
 have hm := places_max s (by rw [plS_len]; omega) (8 * n)
 rw [if_neg h4]
 refine ⟨by omega, fun _ => ⟨hl, fun h5 => ?_, fun h5 => ⟨hl, fun h6 => ?_, fun _ => ?_⟩⟩⟩
 · have h5 : decide (8 * n ≤ maxL (placesS s)) = true := h5
   rw [hm] at h5
   rw [if_pos h5]
 · have := of_decide_eq_true h6
   have := places_min s
   omega
 · have h5 : decide (8 * n ≤ maxL (placesS s)) = false := h5
   rw [hm] at h5
   rw [if_neg (by rw [h5]; decide)]
def inD (s : Signal) (d : List Int) : Prop := ((0 ≤ s.Start ∧ s.Start ≤ 512) ∧ 1 ≤ s.Size ∧ s.Size ≤ 40) ∧ isBytes d ∧ ∀ p ∈ plS s, p < 8 * d.length
theorem place_at {s : Signal} {k : Nat} {q : Int} (h : (placesS s)[k]? = some q) : ∃ p : Nat, (plS s)[k]? = some p ∧ q = p ∧ p ∈ plS s := by
 unfold placesS at h
 rw [List.getElem?_map, Option.map_eq_some_iff] at h
 obtain ⟨p, hp, rfl⟩ := h
 exact ⟨p, hp, rfl, List.mem_of_getElem? hp⟩
theorem div8 (p : Nat) (h : p < 1000000) : w64 ((p : Int).tdiv 8) = ((p / 8 : Nat) : Int) ∧ (p : Int).tmod 8 = ((p % 8 : Nat) : Int) := by
 rw [Int.tdiv_eq_ediv_of_nonneg (by omega), Int.tmod_eq_emod_of_nonneg (by omega), w64_eq _ (by omega)]
 omega
theorem got_bit {d : List Int} (h : isBytes d) {p : Nat} {q : Int} (hq : d[p / 8]? = some q) : bAnd .u8 (bShr .u8 q ((p % 8 : Nat) : Int)) 1 = bv (bitat d p) := by
 obtain ⟨n, hn, hb⟩ := byte_at h (p / 8)
 rw [hq] at hn
 have hn : q = (n : Int) := hn
 have := gb_all ⟨n, hb⟩ ⟨p % 8, by omega⟩
 dsimp only at this
 rw [hn, this]
 unfold bv bitat
 rw [hq, Option.getD_some, hn, Int.toNat_natCast]
theorem or_bit (v k : Nat) (b : Bool) (hv : v < 2 ^ k) (hk : k ≤ 40) : bOr .i64 (v : Int) (bShl .i64 (w64 (bv b)) (k : Int)) = ((v + 2 ^ k * vb [b] : Nat) : Int) := by
 have hp : 2 ^ k ≤ 1099511627776 := Nat.pow_le_pow_right (by omega : 0 < 2) hk
 have h0 : 1 ≤ 2 ^ k := Nat.one_le_two_pow
 cases b with
 | false =>
  have e : bShl .i64 (w64 (bv false)) (k : Int) = ((0 : Nat) : Int) := by
   unfold bShl bv
   rw [if_neg (by decide)]
   have : w64 0 * 2 ^ min (k : Int).toNat IntKind.i64.bits = 0 := by rw [w64_eq _ (by omega), Int.zero_mul]
   rw [this]; rfl
  rw [e, bOr_nat _ _ (by omega) (by omega), Nat.or_zero]
  simp [vb]
 | true =>
  have e : w64 (bv true) = 1 := by unfold bv; rw [if_pos rfl]; exact w64_eq _ (by omega)
  rw [e, shl_one k (by omega), bOr_nat _ _ (by omega) (by omega)]
  have := Nat.two_pow_add_eq_or_of_lt (i := k) (b := v) hv 1
  rw [Nat.mul_one] at this
  rw [Nat.or_comm, ← this]
  simp [vb]
  omega
theorem sget_ok (s : Signal) (d : List Int) (h : inD s d) : sget_vc s d (fun r => r = getS s d) := by
 obtain ⟨⟨h1, h2, h3⟩, hd, hp⟩ := h
 have hl := places_len s
 have hpl := plS_len s
 intro _
 refine ⟨⟨h1, h2, h3⟩, fun _ => ⟨fun x i => ∃ k : Nat, i = k ∧ k ≤ s.Size.toNat ∧ x = ((vb (((plS s).take k).map (bitat d)) : Nat) : Int), fun _ i => s.Size.toNat - i.toNat, ⟨0, rfl, by omega, rfl⟩, ?_⟩⟩
 rintro _ _ ⟨k, rfl, hk, rfl⟩
 have hv := vb_lt (((plS s).take k).map (bitat d))
 rw [List.length_map, List.length_take, hpl, Nat.min_eq_left hk] at hv
 refine ⟨fun hc => ?_, fun hc => ?_⟩
 · have hc := of_decide_eq_true hc
   refine ⟨by omega, fun q hq => ?_⟩
   rw [Int.toNat_natCast] at hq
   obtain ⟨p, hp1, rfl, hp2⟩ := place_at hq
   have hlt := hp p hp2
   have hfp : p < 1000000 := by
    have : p < 8 * d.length := hlt
    unfold plS plN at hp2
    have hb : ∀ j, j ∈ (List.range s.Size.toNat).map (fp s.Back s.Start.toNat) → j < 1000000 := by
     intro j hj
     obtain ⟨i, hi, rfl⟩ := List.mem_map.1 hj
     have := List.mem_range.1 hi
     have := fp_le s.Back s.Start.toNat i
     omega
    split at hp2
    · exact hb p (List.mem_reverse.1 hp2)
    · exact hb p hp2
   obtain ⟨d1, d2⟩ := div8 p hfp
   rw [d1, d2, Int.toNat_natCast]
   refine ⟨by omega, fun q hq2 => ?_⟩
   rw [got_bit hd hq2, or_bit _ _ _ hv (by omega), w64_succ k (by omega)]
   refine ⟨by omega, by omega, ⟨k + 1, rfl, by omega, ?_⟩, by (try dsimp only); omega⟩
   rw [List.take_add_one, hp1, List.map_append, vb_append, List.length_map, List.length_take, hpl, Nat.min_eq_left hk]
   rfl
 · have hc := of_decide_eq_false hc
   have hkk : k = s.Size.toNat := by omega
   subst hkk
   have e : ((plS s).take s.Size.toNat) = plS s := by rw [← hpl, List.take_length]
   rw [e] at hv ⊢
   have hg : getS s d = sgn s.Signed s.Size.toNat ((vb ((plS s).map (bitat d)) : Nat) : Int) := rfl
   rw [hg]
   generalize vb ((plS s).map (bitat d)) = v at *
   obtain ⟨m, hm⟩ : ∃ m, s.Size.toNat = m + 1 := ⟨s.Size.toNat - 1, by omega⟩
   have e1 : w64 (s.Size - 1) = (m : Int) := by rw [w64_eq _ (by omega)]; omega
   have hb : 1 ≤ 2 ^ m ∧ 2 ^ m ≤ 549755813888 := ⟨Nat.one_le_two_pow, Nat.pow_le_pow_right (by omega : 0 < 2) (by omega : m ≤ 39)⟩
   rw [hm, Nat.pow_succ] at hv
   have c : ((2 ^ m : Nat) : Int) = (2 : Int) ^ m := by norm_cast
   refine ⟨fun hS => ⟨by omega, ?_⟩, fun hS => ?_⟩
   · rw [e1, shr_any _ _ (by omega), ← c]
     have hq : (((v : Int) / ((2 ^ m : Nat) : Int)) == 1) = decide (2 ^ m ≤ v) := by
      rw [Bool.eq_iff_iff, beq_iff_eq, decide_eq_true_eq, ← Int.natCast_ediv]
      have hdm := Nat.div_add_mod v (2 ^ m)
      have hml := Nat.mod_lt v (show 2 ^ m > 0 by omega)
      constructor
      · intro h5
        have h5 : v / 2 ^ m = 1 := by omega
        rw [h5] at hdm
        omega
      · intro h5
        have h6 : v / 2 ^ m < 2 := Nat.div_lt_of_lt_mul hv
        have h7 : 1 ≤ v / 2 ^ m := (Nat.one_le_div_iff (by omega)).2 h5
        omega
     rw [hq]
     refine ⟨fun h5 => ⟨by omega, ?_⟩, fun h5 => ?_⟩
     · have h5 := of_decide_eq_true h5
       have e2 : s.Size = ((m + 1 : Nat) : Int) := by omega
       have c2 : ((2 ^ (m + 1) : Nat) : Int) = (2 : Int) ^ (m + 1) := by norm_cast
       have hs : sgn s.Signed s.Size.toNat (v : Int) = (v : Int) - ((2 ^ (m + 1) : Nat) : Int) := by
        unfold sgn
        rw [hm, Nat.add_sub_cancel, if_pos ⟨hS, by rw [← c]; omega⟩, ← c2]
       rw [hs, e2, shl_one _ (by omega), w64_eq _ (by rw [Nat.pow_succ]; omega)]
     · have h5 := of_decide_eq_false h5
       unfold sgn
       rw [hm, Nat.add_sub_cancel, if_neg (by rintro ⟨_, h6⟩; rw [← c] at h6; omega)]
   · unfold sgn
     rw [if_neg (by rintro ⟨h6, _⟩; rw [hS] at h6; cases h6)]
theorem putF_snoc (n : Int) : ∀ (l : List Nat) (i p : Nat) (d : List Int), putF n i (l ++ [p]) d = set1 (putF n i l d) p (nb n (i + l.length)) := by
 intro l
 induction l with
 | nil => intro i p d; rfl
 | cons a l ih => intro i p d; rw [List.cons_append, putF, putF, ih, List.length_cons]; congr 2; omega
theorem sputd_ok (s : Signal) (d : List Int) (n : Int) (h : inD s d) : sputd_vc s d n (fun r => r = putS s d n) := by
 obtain ⟨⟨h1, h2, h3⟩, hd, hp⟩ := h
 have hl := places_len s
 have hpl := plS_len s
 intro hdl
 refine ⟨⟨h1, h2, h3⟩, fun _ => ⟨fun i x => ∃ k : Nat, i = k ∧ k ≤ s.Size.toNat ∧ x = putF n 0 ((plS s).take k) d, fun i _ => s.Size.toNat - i.toNat, ⟨0, rfl, by omega, rfl⟩, ?_⟩⟩
 rintro _ _ ⟨k, rfl, hk, rfl⟩
 have hlen := putF_len n ((plS s).take k) 0 d
 refine ⟨fun hc => ?_, fun hc => ?_⟩
 · have hc := of_decide_eq_true hc
   refine ⟨by omega, fun q hq => ?_⟩
   rw [Int.toNat_natCast] at hq
   obtain ⟨p, hp1, rfl, hp2⟩ := place_at hq
   have hlt := hp p hp2
   have hfp : p < 1000000 := by
    unfold plS plN at hp2
    have hb : ∀ j, j ∈ (List.range s.Size.toNat).map (fp s.Back s.Start.toNat) → j < 1000000 := by
     intro j hj
     obtain ⟨i, hi, rfl⟩ := List.mem_map.1 hj
     have := List.mem_range.1 hi
     have := fp_le s.Back s.Start.toNat i
     omega
    split at hp2
    · exact hb p (List.mem_reverse.1 hp2)
    · exact hb p hp2
   obtain ⟨d1, d2⟩ := div8 p hfp
   rw [d1, d2, Int.toNat_natCast]
   refine ⟨by omega, fun q hq2 => ⟨by omega, by omega, by omega, by omega, ⟨k + 1, by rw [w64_succ k (by omega)], by omega, ?_⟩, by rw [w64_succ k (by omega)]; (try dsimp only); omega⟩⟩
   rw [List.take_add_one, hp1]
   show _ = putF n 0 (List.take k (plS s) ++ [p]) d
   rw [putF_snoc, List.length_take, hpl, Nat.min_eq_left hk, Nat.zero_add]
   unfold set1 sb
   rw [hq2, Option.getD_some]
   congr 2
   rw [shr_any _ _ (by omega), and_one]
   unfold bv nb
   have : n / 2 ^ k % 2 = 0 ∨ n / 2 ^ k % 2 = 1 := by omega
   rcases this with e | e <;> rw [e] <;> rfl
 · have hc := of_decide_eq_false hc
   have hkk : k = s.Size.toNat := by omega
   subst hkk
   refine ⟨hlen, ?_⟩
   unfold putS
   rw [← hpl, List.take_length]
end Go.Proofs.YtdndfbamhnchfaaGreatDoor
set_option linter.unusedVariables false
set_option linter.unusedSimpArgs false
namespace Go.Proofs.YtdndfbamhnchfaaGreatDoor
open Go.Sy Go.RowKit
def sraw_vc (u0 : Signal) (u1 : Int) (u2 : Int) (K : (Int × Int) → Prop) : Prop := ((((checkS u0 64) != 0) = true → (K (0, (checkS u0 64)))) ∧ (((checkS u0 64) != 0) = false → ((((((decide (u2 < 1)) || (decide (u2 > 1000000))) || (decide (u1 > 1099511627776))) || (decide (u1 < (-1099511627776)))) = true → (K (0, 3))) ∧ (((((decide (u2 < 1)) || (decide (u2 > 1000000))) || (decide (u1 > 1099511627776))) || (decide (u1 < (-1099511627776)))) = false → (sgcd_vc u0.Div u0.Mul fun r99 => ((r99 ≠ 0) ∧ ((r99 ≠ 0) ∧ (∃ inv151 : Int → Int → Prop, (((decide ((w64 (u0.Mul.tdiv r99)) < 0)) = true → (inv151 (w64 (0 - (w64 (u0.Div.tdiv r99)))) (w64 (0 - (w64 (u0.Mul.tdiv r99)))))) ∧ ((decide ((w64 (u0.Mul.tdiv r99)) < 0)) = false → (inv151 (w64 (u0.Div.tdiv r99)) (w64 (u0.Mul.tdiv r99))))) ∧ (∀ (x11 : Int) (x12 : Int), inv151 x11 x12 → (sgcd_vc (w64 (u1 - (w64 (u0.Add * u2)))) u2 fun r169 => ((r169 ≠ 0) ∧ ((r169 ≠ 0) ∧ (sgcd_vc x11 (w64 (u2.tdiv r169)) fun r214 => ((r214 ≠ 0) ∧ ((r214 ≠ 0) ∧ (sgcd_vc (w64 ((w64 (u1 - (w64 (u0.Add * u2)))).tdiv r169)) x12 fun r259 => ((r259 ≠ 0) ∧ ((r259 ≠ 0) ∧ (((((w64 ((w64 (u2.tdiv r169)).tdiv r214)) != 1) || ((w64 (x12.tdiv r259)) != 1)) = true → (K (0, 4))) ∧ ((((w64 ((w64 (u2.tdiv r169)).tdiv r214)) != 1) || ((w64 (x12.tdiv r259)) != 1)) = false → ((1 ≤ u0.Size ∧ u0.Size ≤ 40) ∧ (((((decide ((w64 ((w64 ((w64 (u1 - (w64 (u0.Add * u2)))).tdiv r169)).tdiv r259)) > 0)) && (decide ((w64 (x11.tdiv r214)) > 0))) == true) = true → w64 (x11.tdiv r214) ≠ 0) ∧ (((((decide ((w64 ((w64 ((w64 (u1 - (w64 (u0.Add * u2)))).tdiv r169)).tdiv r259)) < 0)) && (decide ((w64 (x11.tdiv r214)) > 0))) == true) = true → ((((decide ((w64 ((w64 ((w64 (u1 - (w64 (u0.Add * u2)))).tdiv r169)).tdiv r259)) > 0)) && (decide ((w64 (x11.tdiv r214)) > 0))) && (decide ((w64 ((w64 ((w64 (u1 - (w64 (u0.Add * u2)))).tdiv r169)).tdiv r259)) > (w64 ((boundsS u0).2.tdiv (w64 (x11.tdiv r214))))))) == false) = true → w64 (x11.tdiv r214) ≠ 0) ∧ (((((decide ((w64 ((w64 ((w64 (u1 - (w64 (u0.Add * u2)))).tdiv r169)).tdiv r259)) > 0)) && (decide ((w64 (x11.tdiv r214)) < 0))) == true) = true → (((((decide ((w64 ((w64 ((w64 (u1 - (w64 (u0.Add * u2)))).tdiv r169)).tdiv r259)) > 0)) && (decide ((w64 (x11.tdiv r214)) > 0))) && (decide ((w64 ((w64 ((w64 (u1 - (w64 (u0.Add * u2)))).tdiv r169)).tdiv r259)) > (w64 ((boundsS u0).2.tdiv (w64 (x11.tdiv r214))))))) || (((decide ((w64 ((w64 ((w64 (u1 - (w64 (u0.Add * u2)))).tdiv r169)).tdiv r259)) < 0)) && (decide ((w64 (x11.tdiv r214)) > 0))) && (decide ((w64 ((w64 ((w64 (u1 - (w64 (u0.Add * u2)))).tdiv r169)).tdiv r259)) < (w64 ((boundsS u0).1.tdiv (w64 (x11.tdiv r214)))))))) == false) = true → w64 (x11.tdiv r214) ≠ 0) ∧ (((((decide ((w64 ((w64 ((w64 (u1 - (w64 (u0.Add * u2)))).tdiv r169)).tdiv r259)) < 0)) && (decide ((w64 (x11.tdiv r214)) < 0))) == true) = true → ((((((decide ((w64 ((w64 ((w64 (u1 - (w64 (u0.Add * u2)))).tdiv r169)).tdiv r259)) > 0)) && (decide ((w64 (x11.tdiv r214)) > 0))) && (decide ((w64 ((w64 ((w64 (u1 - (w64 (u0.Add * u2)))).tdiv r169)).tdiv r259)) > (w64 ((boundsS u0).2.tdiv (w64 (x11.tdiv r214))))))) || (((decide ((w64 ((w64 ((w64 (u1 - (w64 (u0.Add * u2)))).tdiv r169)).tdiv r259)) < 0)) && (decide ((w64 (x11.tdiv r214)) > 0))) && (decide ((w64 ((w64 ((w64 (u1 - (w64 (u0.Add * u2)))).tdiv r169)).tdiv r259)) < (w64 ((boundsS u0).1.tdiv (w64 (x11.tdiv r214)))))))) || (((decide ((w64 ((w64 ((w64 (u1 - (w64 (u0.Add * u2)))).tdiv r169)).tdiv r259)) > 0)) && (decide ((w64 (x11.tdiv r214)) < 0))) && (decide ((w64 ((w64 ((w64 (u1 - (w64 (u0.Add * u2)))).tdiv r169)).tdiv r259)) > (w64 ((boundsS u0).1.tdiv (w64 (x11.tdiv r214)))))))) == false) = true → w64 (x11.tdiv r214) ≠ 0) ∧ ((((((((decide ((w64 ((w64 ((w64 (u1 - (w64 (u0.Add * u2)))).tdiv r169)).tdiv r259)) > 0)) && (decide ((w64 (x11.tdiv r214)) > 0))) && (decide ((w64 ((w64 ((w64 (u1 - (w64 (u0.Add * u2)))).tdiv r169)).tdiv r259)) > (w64 ((boundsS u0).2.tdiv (w64 (x11.tdiv r214))))))) || (((decide ((w64 ((w64 ((w64 (u1 - (w64 (u0.Add * u2)))).tdiv r169)).tdiv r259)) < 0)) && (decide ((w64 (x11.tdiv r214)) > 0))) && (decide ((w64 ((w64 ((w64 (u1 - (w64 (u0.Add * u2)))).tdiv r169)).tdiv r259)) < (w64 ((boundsS u0).1.tdiv (w64 (x11.tdiv r214)))))))) || (((decide ((w64 ((w64 ((w64 (u1 - (w64 (u0.Add * u2)))).tdiv r169)).tdiv r259)) > 0)) && (decide ((w64 (x11.tdiv r214)) < 0))) && (decide ((w64 ((w64 ((w64 (u1 - (w64 (u0.Add * u2)))).tdiv r169)).tdiv r259)) > (w64 ((boundsS u0).1.tdiv (w64 (x11.tdiv r214)))))))) || (((decide ((w64 ((w64 ((w64 (u1 - (w64 (u0.Add * u2)))).tdiv r169)).tdiv r259)) < 0)) && (decide ((w64 (x11.tdiv r214)) < 0))) && (decide ((w64 ((w64 ((w64 (u1 - (w64 (u0.Add * u2)))).tdiv r169)).tdiv r259)) < (w64 ((boundsS u0).2.tdiv (w64 (x11.tdiv r214)))))))) = true → (K (0, 3))) ∧ (((((((decide ((w64 ((w64 ((w64 (u1 - (w64 (u0.Add * u2)))).tdiv r169)).tdiv r259)) > 0)) && (decide ((w64 (x11.tdiv r214)) > 0))) && (decide ((w64 ((w64 ((w64 (u1 - (w64 (u0.Add * u2)))).tdiv r169)).tdiv r259)) > (w64 ((boundsS u0).2.tdiv (w64 (x11.tdiv r214))))))) || (((decide ((w64 ((w64 ((w64 (u1 - (w64 (u0.Add * u2)))).tdiv r169)).tdiv r259)) < 0)) && (decide ((w64 (x11.tdiv r214)) > 0))) && (decide ((w64 ((w64 ((w64 (u1 - (w64 (u0.Add * u2)))).tdiv r169)).tdiv r259)) < (w64 ((boundsS u0).1.tdiv (w64 (x11.tdiv r214)))))))) || (((decide ((w64 ((w64 ((w64 (u1 - (w64 (u0.Add * u2)))).tdiv r169)).tdiv r259)) > 0)) && (decide ((w64 (x11.tdiv r214)) < 0))) && (decide ((w64 ((w64 ((w64 (u1 - (w64 (u0.Add * u2)))).tdiv r169)).tdiv r259)) > (w64 ((boundsS u0).1.tdiv (w64 (x11.tdiv r214)))))))) || (((decide ((w64 ((w64 ((w64 (u1 - (w64 (u0.Add * u2)))).tdiv r169)).tdiv r259)) < 0)) && (decide ((w64 (x11.tdiv r214)) < 0))) && (decide ((w64 ((w64 ((w64 (u1 - (w64 (u0.Add * u2)))).tdiv r169)).tdiv r259)) < (w64 ((boundsS u0).2.tdiv (w64 (x11.tdiv r214)))))))) = false → ((((decide ((w64 ((w64 ((w64 ((w64 (u1 - (w64 (u0.Add * u2)))).tdiv r169)).tdiv r259)) * (w64 (x11.tdiv r214)))) < (boundsS u0).1)) || (decide ((w64 ((w64 ((w64 ((w64 (u1 - (w64 (u0.Add * u2)))).tdiv r169)).tdiv r259)) * (w64 (x11.tdiv r214)))) > (boundsS u0).2))) = true → (K (0, 3))) ∧ (((decide ((w64 ((w64 ((w64 ((w64 (u1 - (w64 (u0.Add * u2)))).tdiv r169)).tdiv r259)) * (w64 (x11.tdiv r214)))) < (boundsS u0).1)) || (decide ((w64 ((w64 ((w64 ((w64 (u1 - (w64 (u0.Add * u2)))).tdiv r169)).tdiv r259)) * (w64 (x11.tdiv r214)))) > (boundsS u0).2))) = false → (K (w64 ((w64 ((w64 ((w64 (u1 - (w64 (u0.Add * u2)))).tdiv r169)).tdiv r259)) * (w64 (x11.tdiv r214))), 0)))))))))))))))))))))))))))))))
theorem bounds_small (s : Signal) (h : 1 ≤ s.Size ∧ s.Size ≤ 40) : (-1099511627776 ≤ lowS s ∧ lowS s ≤ 0) ∧ 0 ≤ highS s ∧ highS s ≤ 1099511627776 := by
 have b : ∀ k : Nat, k ≤ 40 → 1 ≤ (2 : Int) ^ k ∧ (2 : Int) ^ k ≤ 1099511627776 := fun k hk => by
  have h1 : 1 ≤ 2 ^ k ∧ 2 ^ k ≤ 1099511627776 := ⟨Nat.one_le_two_pow, Nat.pow_le_pow_right (by omega : 0 < 2) hk⟩
  have c : ((2 ^ k : Nat) : Int) = (2 : Int) ^ k := by norm_cast
  rw [← c]
  omega
 have b1 := b (s.Size.toNat - 1) (by omega)
 have b2 := b s.Size.toNat (by omega)
 unfold lowS highS
 split <;> omega
theorem nzpp {v a : Int} (c : ((decide (v > 0)) && (decide (a > 0))) = true) : a ≠ 0 := by rw [Bool.and_eq_true, decide_eq_true_eq, decide_eq_true_eq] at c; omega
theorem nznp {v a : Int} (c : ((decide (v < 0)) && (decide (a > 0))) = true) : a ≠ 0 := by rw [Bool.and_eq_true, decide_eq_true_eq, decide_eq_true_eq] at c; omega
theorem nzpn {v a : Int} (c : ((decide (v > 0)) && (decide (a < 0))) = true) : a ≠ 0 := by rw [Bool.and_eq_true, decide_eq_true_eq, decide_eq_true_eq] at c; omega
theorem nznn {v a : Int} (c : ((decide (v < 0)) && (decide (a < 0))) = true) : a ≠ 0 := by rw [Bool.and_eq_true, decide_eq_true_eq, decide_eq_true_eq] at c; omega
theorem tdiv_nz {a g : Int} (ha : a ≠ 0) (hd : g ∣ a) : a.tdiv g ≠ 0 := by
 intro h
 have := Int.tdiv_mul_cancel hd
 rw [h, Int.zero_mul] at this
 exact ha this.symm
set_option maxHeartbeats 4000000 in
theorem sraw_ok (s : Signal) (num den : Int) : sraw_vc s num den (fun r => r = rawS s num den) := by
 refine ⟨fun h => ?_, fun h => ⟨fun h1 => ?_, fun h1 => ?_⟩⟩
 · have h : checkS s 64 ≠ 0 := by simpa using h
   unfold rawS
   rw [if_pos h]
 all_goals
  have h : checkS s 64 = 0 := by simpa using h
 · unfold rawS
   rw [if_neg (by rw [h]; decide), if_pos (by simpa [or_assoc] using h1)]
 have h1 : ¬ (den < 1 ∨ 1000000 < den ∨ 1099511627776 < num ∨ num < -1099511627776) := by simp only [Bool.or_eq_false_iff, decide_eq_false_iff_not] at h1; omega
 have hR : ∀ (x : Int) (ok : Bool), rawN s.Mul s.Div s.Add num den = (x, ok) → rawS s num den = if ok = false then (0, 4) else if x < lowS s ∨ highS s < x then (0, 3) else (x, 0) := by
  intro x ok hx
  unfold rawS
  rw [if_neg (by rw [h]; decide), if_neg h1, hx]
 have hN : rawN s.Mul s.Div s.Add num den = rawN s.Mul s.Div s.Add num den := rfl
 conv at hN => rhs; unfold rawN
 dsimp only at hN
 obtain ⟨⟨_, _, hs1, hs2⟩, ⟨f1, f2, f3, f4, f5, f6, f7⟩, _, _⟩ := check_zero h
 obtain ⟨⟨lo1, lo2⟩, hi1, hi2⟩ := bounds_small s ⟨hs1, hs2⟩
 have hA := mul_abs (a := s.Add) (b := den) (A := 1000000) (B := 1000000) ⟨f6, f7⟩ ⟨by omega, by omega⟩
 have e1 : w64 (s.Add * den) = s.Add * den := w64_eq _ (by omega)
 have e2 : w64 (num - s.Add * den) = num - s.Add * den := w64_eq _ (by omega)
 rw [e1, e2]
 have hup : -2200000000000 ≤ num - s.Add * den ∧ num - s.Add * den ≤ 2200000000000 := by omega
 generalize num - s.Add * den = up at *
 refine sgcd_mono (fun g hg => ?_) (sgcd_ok s.Div s.Mul ⟨by omega, by omega⟩)
 rw [← hg] at hN
 have g0 : g ≠ 0 := by have := ngcd_pos (a := s.Div) f1; omega
 have gm : g ∣ s.Mul := by rw [hg]; exact ngcd_right _ _
 have t1 := tdiv_abs s.Div g
 have t2 := tdiv_abs s.Mul g
 have n2 := tdiv_nz f1 gm
 rw [w64_eq (s.Div.tdiv g) (by omega), w64_eq (s.Mul.tdiv g) (by omega), w64_eq (0 - s.Div.tdiv g) (by omega), w64_eq (0 - s.Mul.tdiv g) (by omega), Int.zero_sub, Int.zero_sub]
 refine ⟨g0, g0, fun x y => x = (if s.Mul.tdiv g < 0 then -(s.Div.tdiv g) else s.Div.tdiv g) ∧ y = (if s.Mul.tdiv g < 0 then -(s.Mul.tdiv g) else s.Mul.tdiv g), ⟨fun c => ?_, fun c => ?_⟩, ?_⟩
 · have c := of_decide_eq_true c
   rw [if_pos c, if_pos c]
   exact ⟨rfl, rfl⟩
 · have c := of_decide_eq_false c
   rw [if_neg c, if_neg c]
   exact ⟨rfl, rfl⟩
 rintro x y ⟨hx, hy⟩
 rw [← hx, ← hy] at hN
 have bx : -1000000 ≤ x ∧ x ≤ 1000000 := by rw [hx]; split <;> omega
 have by2 : -1000000 ≤ y ∧ y ≤ 1000000 := by rw [hy]; split <;> omega
 have y0 : y ≠ 0 := by rw [hy]; split <;> omega
 clear hx hy
 refine sgcd_mono (fun k hk => ?_) (sgcd_ok up den ⟨by omega, by omega⟩)
 rw [← hk] at hN
 have k0 : k ≠ 0 := by have := ngcd_pos (a := up) (b := den) (by omega); omega
 have kd : k ∣ den := by rw [hk]; exact ngcd_right _ _
 have t3 := tdiv_abs up k
 have t4 := tdiv_abs den k
 have n4 := tdiv_nz (by omega : den ≠ 0) kd
 rw [w64_eq (up.tdiv k) (by omega), w64_eq (den.tdiv k) (by omega)]
 clear hk
 generalize up.tdiv k = up1 at *
 generalize den.tdiv k = den1 at *
 refine ⟨k0, k0, ?_⟩
 refine sgcd_mono (fun l hl => ?_) (sgcd_ok x den1 ⟨by omega, by omega⟩)
 rw [← hl] at hN
 have l0 : l ≠ 0 := by have := ngcd_pos (a := x) n4; omega
 refine ⟨l0, l0, ?_⟩
 refine sgcd_mono (fun m hm => ?_) (sgcd_ok up1 y ⟨by omega, by omega⟩)
 rw [← hm] at hN
 have m0 : m ≠ 0 := by have := ngcd_pos (a := up1) y0; omega
 refine ⟨m0, m0, ?_⟩
 have t5 := tdiv_abs den1 l
 have t6 := tdiv_abs up1 m
 have t7 := tdiv_abs x l
 have t8 := tdiv_abs y m
 rw [w64_eq (den1.tdiv l) (by omega), w64_eq (up1.tdiv m) (by omega), w64_eq (x.tdiv l) (by omega), w64_eq (y.tdiv m) (by omega)]
 have bv2 : -2200000000000 ≤ up1.tdiv m ∧ up1.tdiv m ≤ 2200000000000 := by omega
 have ba2 : -1000000 ≤ x.tdiv l ∧ x.tdiv l ≤ 1000000 := by omega
 clear t3 t4 t5 t6 t7 t8 hl hm
 generalize den1.tdiv l = den2 at *
 generalize y.tdiv m = b1 at *
 generalize up1.tdiv m = v at *
 generalize x.tdiv l = a at *
 replace hR := hR _ _ hN
 clear hN
 refine ⟨fun c => ?_, fun c => ⟨⟨hs1, hs2⟩, ?_⟩⟩
 · rw [hR, if_pos]
   rw [Bool.or_eq_true, bne_iff_ne, bne_iff_ne] at c
   rw [Bool.and_eq_false_iff, beq_eq_false_iff_ne, beq_eq_false_iff_ne]
   exact c
 rw [if_neg (by rw [Bool.or_eq_false_iff, bne_eq_false_iff_eq, bne_eq_false_iff_eq] at c; rw [c.1, c.2]; decide)] at hR
 have hva := mul_abs bv2 ba2
 have eva : w64 (v * a) = v * a := w64_eq _ (by omega)
 have q1 := tdiv_abs (highS s) a
 have q2 := tdiv_abs (lowS s) a
 have eh : w64 ((boundsS s).2.tdiv a) = (highS s).tdiv a := w64_eq _ (by show _ ≤ (highS s).tdiv a ∧ (highS s).tdiv a ≤ _; omega)
 have el : w64 ((boundsS s).1.tdiv a) = (lowS s).tdiv a := w64_eq _ (by show _ ≤ (lowS s).tdiv a ∧ (lowS s).tdiv a ≤ _; omega)
 rw [eva, eh, el]
 have hout : ∀ hc : (0 < v ∧ 0 < a ∧ (highS s).tdiv a < v) ∨ (v < 0 ∧ 0 < a ∧ v < (lowS s).tdiv a) ∨ (0 < v ∧ a < 0 ∧ (lowS s).tdiv a < v) ∨ (v < 0 ∧ a < 0 ∧ v < (highS s).tdiv a), ((0 : Int), (3 : Int)) = rawS s num den := by
  intro hc
  have := raw_range lo2 hi1 hc
  rw [hR, if_pos (by omega)]
 have o1 : ((decide (v > 0)) && (decide (a > 0))) = true → (decide (v > (highS s).tdiv a)) = true → ((0 : Int), (3 : Int)) = rawS s num den := by
  intro c d
  rw [Bool.and_eq_true, decide_eq_true_eq, decide_eq_true_eq] at c
  exact hout (.inl ⟨c.1, c.2, of_decide_eq_true d⟩)
 have o2 : ((decide (v < 0)) && (decide (a > 0))) = true → (decide (v < (lowS s).tdiv a)) = true → ((0 : Int), (3 : Int)) = rawS s num den := by
  intro c d
  rw [Bool.and_eq_true, decide_eq_true_eq, decide_eq_true_eq] at c
  exact hout (.inr (.inl ⟨c.1, c.2, of_decide_eq_true d⟩))
 have o3 : ((decide (v > 0)) && (decide (a < 0))) = true → (decide (v > (lowS s).tdiv a)) = true → ((0 : Int), (3 : Int)) = rawS s num den := by
  intro c d
  rw [Bool.and_eq_true, decide_eq_true_eq, decide_eq_true_eq] at c
  exact hout (.inr (.inr (.inl ⟨c.1, c.2, of_decide_eq_true d⟩)))
 have o4 : ((decide (v < 0)) && (decide (a < 0))) = true → (decide (v < (highS s).tdiv a)) = true → ((0 : Int), (3 : Int)) = rawS s num den := by
  intro c d
  rw [Bool.and_eq_true, decide_eq_true_eq, decide_eq_true_eq] at c
  exact hout (.inr (.inr (.inr ⟨c.1, c.2, of_decide_eq_true d⟩)))
 have hfin : ((((decide (v * a < (boundsS s).1)) || (decide (v * a > (boundsS s).2))) = true → ((0 : Int), (3 : Int)) = rawS s num den) ∧ (((decide (v * a < (boundsS s).1)) || (decide (v * a > (boundsS s).2))) = false → (v * a, (0 : Int)) = rawS s num den)) := by
  refine ⟨fun c => ?_, fun c => ?_⟩
  · rw [Bool.or_eq_true, decide_eq_true_eq, decide_eq_true_eq] at c
    have c : v * a < lowS s ∨ highS s < v * a := c
    rw [hR, if_pos c]
  · rw [Bool.or_eq_false_iff, decide_eq_false_iff_not, decide_eq_false_iff_not] at c
    have c1 : ¬ v * a < lowS s := c.1
    have c2 : ¬ highS s < v * a := c.2
    rw [hR, if_neg (by rintro (hh | hh); exact c1 hh; exact c2 hh)]
 refine ⟨fun c => nzpp (eq_of_beq c), fun c _ => nznp (eq_of_beq c), fun c _ => nzpn (eq_of_beq c), fun c _ => nznn (eq_of_beq c), fun c => ?_, fun _ => hfin⟩
 rw [Bool.or_eq_true, Bool.or_eq_true, Bool.or_eq_true] at c
 rcases c with ((c | c) | c) | c
 · exact o1 (Bool.and_eq_true_iff.1 c).1 (Bool.and_eq_true_iff.1 c).2
 · exact o2 (Bool.and_eq_true_iff.1 c).1 (Bool.and_eq_true_iff.1 c).2
 · exact o3 (Bool.and_eq_true_iff.1 c).1 (Bool.and_eq_true_iff.1 c).2
 · exact o4 (Bool.and_eq_true_iff.1 c).1 (Bool.and_eq_true_iff.1 c).2
end Go.Proofs.YtdndfbamhnchfaaGreatDoor
set_option linter.unusedVariables false
set_option linter.unusedSimpArgs false
namespace Go.Proofs.YtdndfbamhnchfaaGreatDoor
open Go.Sy Go.RowKit
def iisnan_vc (u0 : Int) (K : Bool → Prop) : Prop := (K (u0 != u0))
def iisnan (u0 : Int) : Bool :=
 u0 != u0
theorem iisnan_ok (u0 : Int) : iisnan_vc u0 (fun r => r = iisnan u0) := (by rfl)
theorem get_bound {s : Signal} {d : List Int} (h : 1 ≤ s.Size ∧ s.Size ≤ 40) : -1099511627776 ≤ getS s d ∧ getS s d ≤ 1099511627776 := by
 have hv := vb_lt ((plS s).map (bitat d))
 rw [List.length_map, plS_len] at hv
 have hb : 2 ^ s.Size.toNat ≤ 1099511627776 := Nat.pow_le_pow_right (by omega : 0 < 2) (by omega : s.Size.toNat ≤ 40)
 have c : ((2 ^ s.Size.toNat : Nat) : Int) = (2 : Int) ^ s.Size.toNat := by norm_cast
 unfold getS sgn
 rw [← c]
 split <;> omega
end Go.Proofs.YtdndfbamhnchfaaGreatDoor
set_option linter.unusedVariables false
set_option linter.unusedSimpArgs false
namespace Go.Proofs.YtdndfbamhnchfaaGreatDoor
open Go.Sy Go.RowKit
def icmp_vc (u0 : Int) (u1 : Int) (K : Int → Prop) : Prop := (((iisnan u0) = true → (((iisnan u1) = true → (K 0)) ∧ ((iisnan u1) = false → (K (-1))))) ∧ ((iisnan u0) = false → (((iisnan u1) = true → (K 1)) ∧ ((iisnan u1) = false → (((decide (u0 < u1)) = true → (K (-1))) ∧ ((decide (u0 < u1)) = false → (((decide (u0 > u1)) = true → (K 1)) ∧ ((decide (u0 > u1)) = false → (K 0)))))))))
def isortS (l : List Int) : List Int := l.mergeSort fun x y => decide (x ≤ y)
theorem isort_len (l : List Int) : (isortS l).length = l.length := List.length_mergeSort l
def icmpS (a b : Int) : Int := if a < b then -1 else if a > b then 1 else 0
theorem icmp_ok (a b : Int) : icmp_vc a b (fun r => r = icmpS a b) := by
 have hn : ∀ x : Int, iisnan x = false := fun x => by unfold iisnan; simp
 unfold icmp_vc icmpS
 rw [hn, hn]
 refine ⟨fun h => (by cases h), fun _ => ⟨fun h => (by cases h), fun _ => ⟨fun h => ?_, fun h => ⟨fun h2 => ?_, fun h2 => ?_⟩⟩⟩⟩
 · rw [if_pos (of_decide_eq_true h)]
 · rw [if_neg (of_decide_eq_false h), if_pos (of_decide_eq_true h2)]
 · rw [if_neg (of_decide_eq_false h), if_neg (of_decide_eq_false h2)]
end Go.Proofs.YtdndfbamhnchfaaGreatDoor
set_option linter.unusedVariables false
set_option linter.unusedSimpArgs false
namespace Go.Proofs.YtdndfbamhnchfaaGreatDoor
open Go.Sy Go.RowKit
def sover_vc (u0 : Signal) (u1 : Signal) (K : Bool → Prop) : Prop := (((((checkS u0 64) != 0) || ((checkS u1 64) != 0)) = true → (K false)) ∧ ((((checkS u0 64) != 0) || ((checkS u1 64) != 0)) = false → (((0 ≤ u0.Start ∧ u0.Start ≤ 512) ∧ 1 ≤ u0.Size ∧ u0.Size ≤ 40) ∧ (((0 ≤ u1.Start ∧ u1.Start ≤ 512) ∧ 1 ≤ u1.Size ∧ u1.Size ≤ 40) ∧ ((isortS (placesS u0)).length ≤ 140737488355328 → ((isortS (placesS u1)).length ≤ 140737488355328 → (∃ inv107 : (List Int) → (List Int) → Prop, ∃ mu107 : (List Int) → (List Int) → Nat, inv107 (isortS (placesS u0)) (isortS (placesS u1)) ∧ (∀ (x5 : List Int) (x6 : List Int), inv107 x5 x6 → ((((decide ((x5.length : Int) > 0)) && (decide ((x6.length : Int) > 0))) = true → ((0 ≤ (0 : Int) ∧ (0 : Int) < (x5.length : Int)) ∧ (∀ q163, x5[(0 : Int).toNat]? = some q163 → ((0 ≤ (0 : Int) ∧ (0 : Int) < (x6.length : Int)) ∧ (∀ q182, x6[(0 : Int).toNat]? = some q182 → ((((icmpS q163 q182) == 0) = true → (K true)) ∧ (((icmpS q163 q182) == 0) = false → (((decide ((icmpS q163 q182) < 0)) = true → ((0 ≤ (1 : Int) ∧ (1 : Int) ≤ (x5.length : Int)) ∧ (inv107 (x5.drop (1 : Int).toNat) x6 ∧ mu107 (x5.drop (1 : Int).toNat) x6 < mu107 x5 x6))) ∧ ((decide ((icmpS q163 q182) < 0)) = false → ((0 ≤ (1 : Int) ∧ (1 : Int) ≤ (x6.length : Int)) ∧ (inv107 x5 (x6.drop (1 : Int).toNat) ∧ mu107 x5 (x6.drop (1 : Int).toNat) < mu107 x5 x6))))))))))) ∧ (((decide ((x5.length : Int) > 0)) && (decide ((x6.length : Int) > 0))) = false → (K false)))))))))))
def Common (x y : List Int) : Prop := ∃ p, p ∈ x ∧ p ∈ y
theorem isort_up (l : List Int) : (isortS l).Pairwise (· ≤ ·) := by
 have h := List.pairwise_mergeSort (le := fun x y : Int => decide (x ≤ y)) (fun a b c h1 h2 => by rw [decide_eq_true_eq] at *; omega) (fun a b => by rw [Bool.or_eq_true, decide_eq_true_eq, decide_eq_true_eq]; omega) l
 exact h.imp (fun hh => of_decide_eq_true hh)
theorem isort_mem (l : List Int) (p : Int) : p ∈ isortS l ↔ p ∈ l := List.mem_mergeSort
theorem over_common {s t : Signal} (h1 : checkS s 64 = 0) (h2 : checkS t 64 = 0) : overS s t = true ↔ Common (placesS s) (placesS t) := by
 unfold overS
 rw [if_neg (by rw [h1, h2]; simp), List.any_eq_true]
 unfold Common placesS
 constructor
 · rintro ⟨p, hp, hq⟩
   exact ⟨p, List.mem_map.2 ⟨p, hp, rfl⟩, List.mem_map.2 ⟨p, by simpa using hq, rfl⟩⟩
 · rintro ⟨q, hp, hq⟩
   obtain ⟨a, ha, rfl⟩ := List.mem_map.1 hp
   obtain ⟨b, hb, e⟩ := List.mem_map.1 hq
   have e : b = a := by have e : (b : Int) = (a : Int) := e; omega
   subst e
   exact ⟨b, ha, by simpa using hb⟩
theorem sover_ok (s t : Signal) : sover_vc s t (fun r => r = overS s t) := by
 refine ⟨fun h => ?_, fun h => ?_⟩
 · unfold overS
   rw [if_pos (by simpa using h)]
 · have h1 : checkS s 64 = 0 ∧ checkS t 64 = 0 := by simpa using h
   obtain ⟨a1, a2, a3, a4⟩ := check_zero h1.1
   obtain ⟨b1, b2, b3, b4⟩ := check_zero h1.2
   have hov := over_common h1.1 h1.2
   refine ⟨⟨⟨a3.1, by omega⟩, a1.2.2⟩, ⟨⟨b3.1, by omega⟩, b1.2.2⟩, fun _ _ => ⟨fun x y => x.Pairwise (· ≤ ·) ∧ y.Pairwise (· ≤ ·) ∧ (overS s t = true ↔ Common x y), fun x y => x.length + y.length, ⟨isort_up _, isort_up _, ?_⟩, ?_⟩⟩
   · rw [hov]
     unfold Common
     simp only [isort_mem]
   rintro x y ⟨hx, hy, hc⟩
   refine ⟨fun h2 => ?_, fun h2 => ?_⟩
   · rw [Bool.and_eq_true, decide_eq_true_eq, decide_eq_true_eq] at h2
     cases x with
     | nil => simp at h2
     | cons a r =>
      cases y with
      | nil => simp at h2
      | cons b q =>
       rw [List.pairwise_cons] at hx hy
       refine ⟨by simp only [List.length_cons]; omega, fun u hu => ⟨by simp only [List.length_cons]; omega, fun v hv => ?_⟩⟩
       have hu : a = u := by simpa using hu
       have hv : b = v := by simpa using hv
       subst hu hv
       unfold icmpS
       refine ⟨fun h3 => ?_, fun h3 => ⟨fun h4 => ?_, fun h4 => ?_⟩⟩
       · have e : a = b := by
           rw [beq_iff_eq] at h3
           split at h3
           · omega
           · split at h3 <;> omega
         exact (hc.2 ⟨a, List.mem_cons_self, by rw [e]; exact List.mem_cons_self⟩).symm
       · have hab : a < b := by
           have h4 := of_decide_eq_true h4
           split at h4
           · assumption
           · split at h4 <;> omega
         refine ⟨by simp only [List.length_cons]; omega, ⟨hx.2, List.pairwise_cons.2 hy, hc.trans ⟨?_, ?_⟩⟩, by (try dsimp only); simp only [List.length_cons, List.length_drop]; omega⟩
         · rintro ⟨p, hp, hq⟩
           rw [List.mem_cons] at hp
           rcases hp with rfl | hp
           · exfalso
             rw [List.mem_cons] at hq
             rcases hq with rfl | hq
             · omega
             · have := hy.1 _ hq; omega
           · exact ⟨p, hp, hq⟩
         · rintro ⟨p, hp, hq⟩
           exact ⟨p, List.mem_cons_of_mem _ hp, hq⟩
       · have hab : b < a := by
           have h4 := of_decide_eq_false h4
           rw [beq_eq_false_iff_ne] at h3
           split at h3
           · rename_i h5; rw [if_pos h5] at h4; omega
           · split at h3
             · assumption
             · omega
         refine ⟨by simp only [List.length_cons]; omega, ⟨List.pairwise_cons.2 hx, hy.2, hc.trans ⟨?_, ?_⟩⟩, by (try dsimp only); simp only [List.length_cons, List.length_drop]; omega⟩
         · rintro ⟨p, hp, hq⟩
           rw [List.mem_cons] at hq
           rcases hq with rfl | hq
           · exfalso
             rw [List.mem_cons] at hp
             rcases hp with rfl | hp
             · omega
             · have := hx.1 _ hp; omega
           · exact ⟨p, hp, hq⟩
         · rintro ⟨p, hp, hq⟩
           exact ⟨p, hp, List.mem_cons_of_mem _ hq⟩
   · cases ho : overS s t with
     | false => rfl
     | true =>
      obtain ⟨p, hp, hq⟩ := hc.1 ho
      rw [Bool.and_eq_false_iff, decide_eq_false_iff_not, decide_eq_false_iff_not] at h2
      rcases h2 with h2 | h2
      · cases x with
        | nil => cases hp
        | cons a r => simp only [List.length_cons] at h2; omega
      · cases y with
        | nil => cases hq
        | cons a r => simp only [List.length_cons] at h2; omega
end Go.Proofs.YtdndfbamhnchfaaGreatDoor
set_option linter.unusedVariables false
set_option linter.unusedSimpArgs false
namespace Go.Proofs.YtdndfbamhnchfaaGreatDoor
open Go.Sy Go.RowKit
end Go.Proofs.YtdndfbamhnchfaaGreatDoor
set_option linter.unusedVariables false
set_option linter.unusedSimpArgs false
namespace Go.Proofs.YtdndfbamhnchfaaGreatDoor
open Go.Sy Go.RowKit
def fsizes_vc  (K : (List Int) → Prop) : Prop := (K ([0, 1, 2, 3, 4, 5, 6, 7, 8, 12, 16, 20, 24, 32, 48, 64] : List Int))
def fsizes  : (List Int) :=
 ([0, 1, 2, 3, 4, 5, 6, 7, 8, 12, 16, 20, 24, 32, 48, 64] : List Int)
theorem fsizes_ok  : fsizes_vc  (fun r => r = fsizes ) := (by rfl)
def sindex_vc (u0 : List Int) (u1 : Int) (K : Int → Prop) : Prop := (u0.length ≤ 140737488355328 → (∃ inv16 : Int → Prop, ∃ mu16 : Int → Nat, inv16 0 ∧ (∀ (x8 : Int), inv16 x8 → (((decide (x8 < (u0.length : Int))) = true → ((0 ≤ x8 ∧ x8 < (u0.length : Int)) ∧ (∀ q51, u0[x8.toNat]? = some q51 → (((u1 == q51) = true → (K x8)) ∧ ((u1 == q51) = false → (inv16 (w64 (x8 + 1)) ∧ mu16 (w64 (x8 + 1)) < mu16 x8)))))) ∧ ((decide (x8 < (u0.length : Int))) = false → (K (-1)))))))
theorem sindex_mono {u0 : List Int} {u1 : Int} {K K1 : Int → Prop} (hK : ∀ r, K r → K1 r) (h : sindex_vc u0 u1 K) : sindex_vc u0 u1 K1 :=
 fun z0 => (Exists.elim (h z0) fun i1 e1 => Exists.elim e1 fun m1 g1 => ⟨i1, m1, g1.1, fun x8 z1 => ⟨fun c2 => ⟨((g1.2 x8 z1).1 c2).1, fun y4 z4 => ⟨fun c5 => hK _ ((((g1.2 x8 z1).1 c2).2 y4 z4).1 c5), fun c5 => ((((g1.2 x8 z1).1 c2).2 y4 z4).2 c5)⟩⟩, fun c2 => hK _ ((g1.2 x8 z1).2 c2)⟩⟩)
def scontains_vc (u0 : List Int) (u1 : Int) (K : Bool → Prop) : Prop := (u0.length ≤ 140737488355328 → (sindex_vc u0 u1 fun r13 => (K (decide (r13 ≥ 0)))))
def sidx {α : Type} (p : α → Bool) (l : List α) : Int := match l.findIdx? p with | some i => (i : Int) | none => -1
theorem sidx_at {α : Type} (p : α → Bool) (l : List α) (k : Nat) (q : α) (hq : l[k]? = some q) (hp : p q = true) (hb : ∀ j x, j < k → l[j]? = some x → p x = false) : sidx p l = k := by
 unfold sidx
 have : l.findIdx? p = some k := by
  rw [List.findIdx?_eq_some_iff_getElem]
  obtain ⟨h1, h2⟩ := List.getElem?_eq_some_iff.1 hq
  exact ⟨h1, by rw [h2]; exact hp, fun j hj => by rw [hb j _ hj (List.getElem?_eq_getElem (by omega))]; simp⟩
 rw [this]
theorem sidx_none {α : Type} (p : α → Bool) (l : List α) (hb : ∀ (j : Nat) x, l[j]? = some x → p x = false) : sidx p l = -1 := by
 unfold sidx
 have : l.findIdx? p = none := by
  rw [List.findIdx?_eq_none_iff]
  intro x hx
  obtain ⟨j, hj⟩ := List.mem_iff_getElem?.1 hx
  exact hb j x hj
 rw [this]
theorem sidx_ge {α : Type} (p : α → Bool) (l : List α) : decide (sidx p l ≥ 0) = l.any p := by
 unfold sidx
 cases h : l.findIdx? p with
 | none =>
  have : l.any p = false := by
   rw [List.findIdx?_eq_none_iff] at h
   rw [List.any_eq_false]
   intro x hx
   simp [h x hx]
  rw [this]
  rfl
 | some i =>
  have : l.any p = true := by
   rw [List.findIdx?_eq_some_iff_getElem] at h
   obtain ⟨h1, h2, _⟩ := h
   exact List.any_eq_true.2 ⟨_, List.getElem_mem h1, h2⟩
  rw [this]
  simp
theorem sindex_ok (l : List Int) (x : Int) : sindex_vc l x (fun r => r = sidx (fun q => x == q) l) := by
 intro hl
 refine rg0 hl (fun k => ∀ j y, j < k → l[j]? = some y → (x == y) = false) (fun j y h => absurd h (Nat.not_lt_zero _)) ?_ ?_
 · intro k q hk hq hj inv mu hn
   refine ⟨fun h => (sidx_at _ l k q hq h hj).symm, fun h => hn fun j y hj1 hy => ?_⟩
   rcases Nat.lt_or_ge j k with h1 | h1
   · exact hj j y h1 hy
   · have : j = k := by omega
     subst this
     rw [hq] at hy
     cases hy
     exact h
 · intro hj
   refine (sidx_none _ l fun j y hy => hj j y (List.getElem?_eq_some_iff.1 hy).1 hy).symm
def scontainsS (l : List Int) (x : Int) : Bool := l.any fun q => x == q
theorem scontains_ok (l : List Int) (x : Int) : scontains_vc l x (fun r => r = scontainsS l x) := fun _ => sindex_mono (fun r h => by subst h; exact sidx_ge _ l) (sindex_ok l x)
end Go.Proofs.YtdndfbamhnchfaaGreatDoor
set_option linter.unusedVariables false
set_option linter.unusedSimpArgs false
namespace Go.Proofs.YtdndfbamhnchfaaGreatDoor
open Go.Sy Go.RowKit
def fcheckfr_vc (u0 : Frame) (K : Int → Prop) : Prop := (u0.Data.length ≤ 140737488355328 → (((((decide (u0.ID < 0)) || ((!u0.Long) && (decide (u0.ID > 2047)))) || (decide (u0.ID > 536870911))) = true → (K 3)) ∧ ((((decide (u0.ID < 0)) || ((!u0.Long) && (decide (u0.ID > 2047)))) || (decide (u0.ID > 536870911))) = false → (((u0.Remote && (u0.Fast || (decide ((u0.Data.length : Int) > 0)))) = true → (K 4)) ∧ ((u0.Remote && (u0.Fast || (decide ((u0.Data.length : Int) > 0)))) = false → (((((decide (u0.Size < 0)) || (decide (u0.Size > 8))) || ((!u0.Remote) && (u0.Size != 0))) = true → (K 3)) ∧ ((((decide (u0.Size < 0)) || (decide (u0.Size > 8))) || ((!u0.Remote) && (u0.Size != 0))) = false → ((((decide ((u0.Data.length : Int) > 64)) || ((!u0.Fast) && (decide ((u0.Data.length : Int) > 8)))) = true → (K 2)) ∧ (((decide ((u0.Data.length : Int) > 64)) || ((!u0.Fast) && (decide ((u0.Data.length : Int) > 8)))) = false → (((!(scontainsS fsizes (u0.Data.length : Int))) = true → (K 4)) ∧ ((!(scontainsS fsizes (u0.Data.length : Int))) = false → (K 0))))))))))))
def fcheckfr (u0 : Frame) : Int :=
 bif ((decide (u0.ID < 0)) || ((!u0.Long) && (decide (u0.ID > 2047)))) || (decide (u0.ID > 536870911)) then 3
  else bif u0.Remote && (u0.Fast || (decide ((u0.Data.length : Int) > 0))) then 4
  else bif ((decide (u0.Size < 0)) || (decide (u0.Size > 8))) || ((!u0.Remote) && (u0.Size != 0)) then 3
  else bif (decide ((u0.Data.length : Int) > 64)) || ((!u0.Fast) && (decide ((u0.Data.length : Int) > 8))) then 2
  else bif !(scontainsS fsizes (u0.Data.length : Int)) then 4
  else 0
theorem fcheckfr_ok (u0 : Frame) : fcheckfr_vc u0 (fun r => r = fcheckfr u0) := (fun _ => ⟨fun h0 => (by simp only [fcheckfr, h0, cond_true, cond_false]), fun h0 => ⟨fun h1 => (by simp only [fcheckfr, h0, h1, cond_true, cond_false]), fun h1 => ⟨fun h2 => (by simp only [fcheckfr, h0, h1, h2, cond_true, cond_false]), fun h2 => ⟨fun h3 => (by simp only [fcheckfr, h0, h1, h2, h3, cond_true, cond_false]), fun h3 => ⟨fun h4 => (by simp only [fcheckfr, h0, h1, h2, h3, h4, cond_true, cond_false]), fun h4 => (by simp only [fcheckfr, h0, h1, h2, h3, h4, cond_true, cond_false])⟩⟩⟩⟩⟩)
def mthere_vc (u0 : Message) (u1 : Signal) (u2 : List Int) (K : Bool → Prop) : Prop := (u0.Signals.length ≤ 140737488355328 → (u2.length ≤ 140737488355328 → (((decide (u1.Key < 0)) = true → (K true)) ∧ ((decide (u1.Key < 0)) = false → ((0 ≤ u0.Chooser ∧ u0.Chooser < (u0.Signals.length : Int)) ∧ (∀ q104, u0.Signals[u0.Chooser.toNat]? = some q104 → ((inD q104 u2) ∧ (K ((getS q104 u2) == u1.Key)))))))))
theorem take_next {α : Type} (l : List α) (k : Nat) (q : α) (hq : l[k]? = some q) : l.take (k + 1) = l.take k ++ [q] := by rw [List.take_add_one, hq]; rfl
theorem drop_this {α : Type} (l : List α) (k : Nat) (q : α) (hq : l[k]? = some q) : l.drop k = q :: l.drop (k + 1) := by
 obtain ⟨hl, he⟩ := List.getElem?_eq_some_iff.1 hq
 rw [List.drop_eq_getElem_cons hl, he]
def therepre (m : Message) (s : Signal) (d : List Int) : Prop := s.Key < 0 ∨ ((0 ≤ m.Chooser ∧ m.Chooser < (m.Signals.length : Int)) ∧ ∀ q, m.Signals[m.Chooser.toNat]? = some q → inD q d)
def chooserOf (m : Message) : Signal := m.Signals[m.Chooser.toNat]?.getD default
def mthereS (m : Message) (s : Signal) (d : List Int) : Bool := decide (s.Key < 0) || (getS (chooserOf m) d == s.Key)
theorem mthere_ok (m : Message) (s : Signal) (d : List Int) (h : therepre m s d) : mthere_vc m s d (fun r => r = mthereS m s d) := by
 intro _ _
 refine ⟨fun h1 => ?_, fun h1 => ?_⟩
 · unfold mthereS
   rw [h1]
   rfl
 · have h2 := of_decide_eq_false h1
   rcases h with h | ⟨h3, h4⟩
   · exact absurd h h2
   · refine ⟨h3, fun q hq => ⟨h4 q hq, ?_⟩⟩
     unfold mthereS chooserOf
     rw [h1, hq]
     rfl
end Go.Proofs.YtdndfbamhnchfaaGreatDoor
set_option linter.unusedVariables false
set_option linter.unusedSimpArgs false
namespace Go.Proofs.YtdndfbamhnchfaaGreatDoor
open Go.Sy Go.RowKit
def mcheck_vc (u0 : Message) (K : Int → Prop) : Prop := (u0.Signals.length ≤ 140737488355328 → (((!(nameS u0.Name)) = true → (K 1)) ∧ ((!(nameS u0.Name)) = false → ((((fcheckfr (⟨u0.ID, u0.Long, false, false, 0, []⟩ : Frame)) != 0) = true → (K (fcheckfr (⟨u0.ID, u0.Long, false, false, 0, []⟩ : Frame)))) ∧ (((fcheckfr (⟨u0.ID, u0.Long, false, false, 0, []⟩ : Frame)) != 0) = false → ((((decide (u0.Size < 0)) || (decide (u0.Size > 8))) = true → (K 3)) ∧ (((decide (u0.Size < 0)) || (decide (u0.Size > 8))) = false → (((decide ((u0.Signals.length : Int) > 16)) = true → (K 2)) ∧ ((decide ((u0.Signals.length : Int) > 16)) = false → (∃ inv109 : Int → Prop, ∃ mu109 : Int → Nat, inv109 0 ∧ (∀ (x41 : Int), inv109 x41 → (((decide (x41 < (u0.Signals.length : Int))) = true → (∃ inv128 : Prop, ((0 ≤ x41 ∧ x41 < (u0.Signals.length : Int)) ∧ (∀ q154, u0.Signals[x41.toNat]? = some q154 → ((((checkS q154 u0.Size) != 0) = true → (K (checkS q154 u0.Size))) ∧ (((checkS q154 u0.Size) != 0) = false → ((0 ≤ x41 ∧ x41 ≤ (u0.Signals.length : Int)) ∧ (∃ inv219 : Int → Prop, ∃ mu219 : Int → Nat, inv219 0 ∧ (∀ (x58 : Int), inv219 x58 → (((decide (x58 < ((u0.Signals.take x41.toNat).length : Int))) = true → ((0 ≤ x58 ∧ x58 < ((u0.Signals.take x41.toNat).length : Int)) ∧ (∀ q243, (u0.Signals.take x41.toNat)[x58.toNat]? = some q243 → (((q243.Name == q154.Name) = true → (K 9)) ∧ ((q243.Name == q154.Name) = false → ((((!(((decide (q243.Key ≥ 0)) && (decide (q154.Key ≥ 0))) && (q243.Key != q154.Key))) && (overS q243 q154)) = true → (K 10)) ∧ (((!(((decide (q243.Key ≥ 0)) && (decide (q154.Key ≥ 0))) && (q243.Key != q154.Key))) && (overS q243 q154)) = false → (inv219 (w64 (x58 + 1)) ∧ mu219 (w64 (x58 + 1)) < mu219 x58)))))))) ∧ ((decide (x58 < ((u0.Signals.take x41.toNat).length : Int))) = false → inv128))))))))) ∧ (inv128 → (inv109 (w64 (x41 + 1)) ∧ mu109 (w64 (x41 + 1)) < mu109 x41)))) ∧ ((decide (x41 < (u0.Signals.length : Int))) = false → ((((decide (u0.Chooser < (-1))) || (decide (u0.Chooser ≥ (u0.Signals.length : Int)))) = true → (K 8)) ∧ (((decide (u0.Chooser < (-1))) || (decide (u0.Chooser ≥ (u0.Signals.length : Int)))) = false → (((decide (u0.Chooser ≥ 0)) = true → ((0 ≤ u0.Chooser ∧ u0.Chooser < (u0.Signals.length : Int)) ∧ (∀ q398, u0.Signals[u0.Chooser.toNat]? = some q398 → ((((q398.Signed || (decide (q398.Key ≥ 0))) || (decide (q398.Size > 8))) = true → (K 4)) ∧ (((q398.Signed || (decide (q398.Key ≥ 0))) || (decide (q398.Size > 8))) = false → (∃ inv458 : Int → Prop, ∃ mu458 : Int → Nat, inv458 0 ∧ (∀ (x126 : Int), inv458 x126 → (((decide (x126 < (u0.Signals.length : Int))) = true → (∃ inv477 : Prop, ((0 ≤ x126 ∧ x126 < (u0.Signals.length : Int)) ∧ (∀ q501, u0.Signals[x126.toNat]? = some q501 → (((decide (q501.Key ≥ 0)) = true → (((decide (u0.Chooser < 0)) = true → (K 4)) ∧ ((decide (u0.Chooser < 0)) = false → ((0 ≤ u0.Chooser ∧ u0.Chooser < (u0.Signals.length : Int)) ∧ (∀ q616, u0.Signals[u0.Chooser.toNat]? = some q616 → ((0 ≤ q616.Size) ∧ ((((bShr .i64 q501.Key q616.Size) != 0) = true → (K 4)) ∧ (((bShr .i64 q501.Key q616.Size) != 0) = false → inv477)))))))) ∧ ((decide (q501.Key ≥ 0)) = false → inv477)))) ∧ (inv477 → (inv458 (w64 (x126 + 1)) ∧ mu458 (w64 (x126 + 1)) < mu458 x126)))) ∧ ((decide (x126 < (u0.Signals.length : Int))) = false → (K 0)))))))))) ∧ ((decide (u0.Chooser ≥ 0)) = false → (∃ inv696 : Int → Prop, ∃ mu696 : Int → Nat, inv696 0 ∧ (∀ (x126 : Int), inv696 x126 → (((decide (x126 < (u0.Signals.length : Int))) = true → (∃ inv715 : Prop, ((0 ≤ x126 ∧ x126 < (u0.Signals.length : Int)) ∧ (∀ q739, u0.Signals[x126.toNat]? = some q739 → (((decide (q739.Key ≥ 0)) = true → (((decide (u0.Chooser < 0)) = true → (K 4)) ∧ ((decide (u0.Chooser < 0)) = false → ((0 ≤ u0.Chooser ∧ u0.Chooser < (u0.Signals.length : Int)) ∧ (∀ q854, u0.Signals[u0.Chooser.toNat]? = some q854 → ((0 ≤ q854.Size) ∧ ((((bShr .i64 q739.Key q854.Size) != 0) = true → (K 4)) ∧ (((bShr .i64 q739.Key q854.Size) != 0) = false → inv715)))))))) ∧ ((decide (q739.Key ≥ 0)) = false → inv715)))) ∧ (inv715 → (inv696 (w64 (x126 + 1)) ∧ mu696 (w64 (x126 + 1)) < mu696 x126)))) ∧ ((decide (x126 < (u0.Signals.length : Int))) = false → (K 0))))))))))))))))))))))
def inner (s : Signal) : List Signal → Int
 | [] => 0
 | o :: r => if o.Name = s.Name then 9 else if ((!(((decide (o.Key ≥ 0)) && (decide (s.Key ≥ 0))) && (o.Key != s.Key))) && (overS o s)) = true then 10 else inner s r
def outer (size : Int) : List Signal → List Signal → Int
 | _, [] => 0
 | p, s :: r => if checkS s size ≠ 0 then checkS s size else if inner s p ≠ 0 then inner s p else outer size (p ++ [s]) r
def keyBad (m : Message) (q : Signal) : Bool := decide (q.Key ≥ 0) && (decide (m.Chooser < 0) || (bShr .i64 q.Key (chooserOf m).Size != 0))
def chBad (m : Message) : Bool := decide (m.Chooser ≥ 0) && (((chooserOf m).Signed || decide ((chooserOf m).Key ≥ 0)) || decide ((chooserOf m).Size > 8))
def mcheckS (m : Message) : Int :=
 if nameS m.Name = false then 1 else
 if fcheckfr (⟨m.ID, m.Long, false, false, 0, []⟩ : Frame) ≠ 0 then fcheckfr (⟨m.ID, m.Long, false, false, 0, []⟩ : Frame) else
 if m.Size < 0 ∨ 8 < m.Size then 3 else
 if 16 < m.Signals.length then 2 else
 if outer m.Size [] m.Signals ≠ 0 then outer m.Size [] m.Signals else
 if m.Chooser < -1 ∨ (m.Signals.length : Int) ≤ m.Chooser then 8 else
 if chBad m = true then 4 else
 if m.Signals.any (keyBad m) = true then 4 else 0
theorem inner_zero {s : Signal} : ∀ {p : List Signal}, inner s p = 0 → ∀ o ∈ p, o.Name ≠ s.Name ∧ ((!(((decide (o.Key ≥ 0)) && (decide (s.Key ≥ 0))) && (o.Key != s.Key))) && (overS o s)) = false := by
 intro p
 induction p with
 | nil => intro _ o ho; simp at ho
 | cons x r ih =>
  intro h o ho
  rw [inner] at h
  split at h
  · cases h
  · split at h
    · cases h
    · rename_i h1 h2
      rcases List.mem_cons.1 ho with rfl | ho
      · exact ⟨h1, by simpa using h2⟩
      · exact ih h o ho
theorem outer_zero {size : Int} : ∀ {r p : List Signal}, outer size p r = 0 → (∀ s ∈ r, checkS s size = 0) ∧ ∀ (i : Nat) s, r[i]? = some s → inner s (p ++ r.take i) = 0 := by
 intro r
 induction r with
 | nil => intro p _; exact ⟨by simp, by simp⟩
 | cons x r ih =>
  intro p h
  rw [outer] at h
  split at h
  · rename_i h1; exact absurd h h1
  · rename_i h1
    split at h
    · rename_i h2; exact absurd h h2
    · rename_i h2
      obtain ⟨a1, a2⟩ := ih h
      refine ⟨fun s hs => ?_, fun i s hs => ?_⟩
      · rcases List.mem_cons.1 hs with rfl | hs
        · exact Classical.not_not.1 h1
        · exact a1 s hs
      · cases i with
        | zero =>
         have hs : x = s := by simpa using hs
         subst hs
         rw [List.take_zero, List.append_nil]
         exact Classical.not_not.1 h2
        | succ i =>
         have := a2 i s (by simpa using hs)
         rw [List.take_succ_cons, List.append_cons]
         exact this
theorem key_loop (m : Message) (hl : m.Signals.length ≤ 16) (hall : ∀ s ∈ m.Signals, checkS s m.Size = 0) (hch : m.Chooser < (m.Signals.length : Int)) {A : Int → Prop} (h4 : m.Signals.any (keyBad m) = true → A 4) (h0 : ¬ m.Signals.any (keyBad m) = true → A 0) : (∃ inv458 : Int → Prop, ∃ mu458 : Int → Nat, inv458 0 ∧ (∀ (x126 : Int), inv458 x126 → (((decide (x126 < (m.Signals.length : Int))) = true → (∃ inv477 : Prop, ((0 ≤ x126 ∧ x126 < (m.Signals.length : Int)) ∧ (∀ q501, m.Signals[x126.toNat]? = some q501 → (((decide (q501.Key ≥ 0)) = true → (((decide (m.Chooser < 0)) = true → (A 4)) ∧ ((decide (m.Chooser < 0)) = false → ((0 ≤ m.Chooser ∧ m.Chooser < (m.Signals.length : Int)) ∧ (∀ q616, m.Signals[m.Chooser.toNat]? = some q616 → ((0 ≤ q616.Size) ∧ ((((bShr .i64 q501.Key q616.Size) != 0) = true → (A 4)) ∧ (((bShr .i64 q501.Key q616.Size) != 0) = false → inv477)))))))) ∧ ((decide (q501.Key ≥ 0)) = false → inv477)))) ∧ (inv477 → (inv458 (w64 (x126 + 1)) ∧ mu458 (w64 (x126 + 1)) < mu458 x126)))) ∧ ((decide (x126 < (m.Signals.length : Int))) = false → (A 0))))) := by
 refine ⟨fun i => ∃ k : Nat, i = k ∧ k ≤ m.Signals.length ∧ ∀ (j : Nat) q, j < k → m.Signals[j]? = some q → keyBad m q = false, fun i => m.Signals.length - i.toNat, ⟨0, rfl, by omega, fun j _ hj => absurd hj (Nat.not_lt_zero _)⟩, ?_⟩
 rintro _ ⟨k, rfl, hk, hj⟩
 refine ⟨fun h1 => ?_, fun h1 => ?_⟩
 · have hkl : k < m.Signals.length := by have := of_decide_eq_true h1; omega
   refine ⟨∀ q, m.Signals[k]? = some q → keyBad m q = false, ⟨by omega, fun q hq => ?_⟩, fun h2 => ?_⟩
   · rw [Int.toNat_natCast] at hq
     have hmem := List.mem_of_getElem? hq
     have bad : keyBad m q = true → A 4 := fun hb => h4 (List.any_eq_true.2 ⟨q, hmem, hb⟩)
     have good : keyBad m q = false → ∀ q', m.Signals[k]? = some q' → keyBad m q' = false := fun hb q' hq' => by rw [hq] at hq'; cases hq'; exact hb
     refine ⟨fun h2 => ⟨fun h3 => bad ?_, fun h3 => ⟨⟨by have := of_decide_eq_false h3; omega, hch⟩, fun c hc => ⟨?_, fun h5 => bad ?_, fun h5 => good ?_⟩⟩⟩, fun h2 => good ?_⟩
     · unfold keyBad; rw [h2, h3]; rfl
     · have := (check_zero (hall c (List.mem_of_getElem? hc))).1
       omega
     · unfold keyBad chooserOf; rw [h2, h3, hc, Option.getD_some, h5]; rfl
     · unfold keyBad chooserOf; rw [h2, h3, hc, Option.getD_some, h5]; rfl
     · unfold keyBad; rw [h2]; rfl
   · rw [w64_succ k (by omega)]
     refine ⟨⟨k + 1, rfl, by omega, fun j q hjk hq => ?_⟩, by (try dsimp only); omega⟩
     rcases Nat.lt_or_ge j k with hc | hc
     · exact hj j q hc hq
     · have : j = k := by omega
       subst this
       exact h2 q hq
 · have hkl : k = m.Signals.length := by have := of_decide_eq_false h1; omega
   subst hkl
   refine h0 fun hc => ?_
   obtain ⟨q, hq, hb⟩ := List.any_eq_true.1 hc
   obtain ⟨j, hj2, rfl⟩ := List.mem_iff_getElem.1 hq
   rw [hj j _ hj2 (List.getElem?_eq_getElem hj2)] at hb
   cases hb
theorem mcheck_ok (m : Message) : mcheck_vc m (fun r => r = mcheckS m) := by
 intro hl
 refine ⟨fun h1 => ?_, fun h1 => ⟨fun h2 => ?_, fun h2 => ⟨fun h3 => ?_, fun h3 => ⟨fun h4 => ?_, fun h4 => ?_⟩⟩⟩⟩
 · unfold mcheckS
   rw [if_pos (by simpa using h1)]
 all_goals have h1 : ¬ nameS m.Name = false := by simpa using h1
 · have h2 : fcheckfr (⟨m.ID, m.Long, false, false, 0, []⟩ : Frame) ≠ 0 := by simpa using h2
   unfold mcheckS
   rw [if_neg h1, if_pos h2]
 all_goals have h2 : ¬ fcheckfr (⟨m.ID, m.Long, false, false, 0, []⟩ : Frame) ≠ 0 := by simpa using h2
 · have h3 : m.Size < 0 ∨ 8 < m.Size := by simpa using h3
   unfold mcheckS
   rw [if_neg h1, if_neg h2, if_pos h3]
 all_goals have h3 : ¬ (m.Size < 0 ∨ 8 < m.Size) := by simpa using h3
 · have h4 : 16 < m.Signals.length := by have := of_decide_eq_true h4; omega
   unfold mcheckS
   rw [if_neg h1, if_neg h2, if_neg h3, if_pos h4]
 have h4 : ¬ 16 < m.Signals.length := by have := of_decide_eq_false h4; omega
 have hS : mcheckS m = if outer m.Size [] m.Signals ≠ 0 then outer m.Size [] m.Signals else
   if m.Chooser < -1 ∨ (m.Signals.length : Int) ≤ m.Chooser then 8 else
   if chBad m = true then 4 else
   if m.Signals.any (keyBad m) = true then 4 else 0 := by
  unfold mcheckS
  rw [if_neg h1, if_neg h2, if_neg h3, if_neg h4]
 rw [hS]
 generalize hE : outer m.Size [] m.Signals = E
 refine ⟨fun i => ∃ k : Nat, i = k ∧ k ≤ m.Signals.length ∧ outer m.Size (m.Signals.take k) (m.Signals.drop k) = E, fun i => m.Signals.length - i.toNat, ⟨0, rfl, by omega, by rw [List.take_zero, List.drop_zero]; exact hE⟩, ?_⟩
 rintro _ ⟨k, rfl, hk, hj⟩
 refine ⟨fun h5 => ?_, fun h5 => ?_⟩
 · have hkl : k < m.Signals.length := by have := of_decide_eq_true h5; omega
   refine ⟨outer m.Size (m.Signals.take (k + 1)) (m.Signals.drop (k + 1)) = E, ⟨by omega, fun s hs => ?_⟩, fun h6 => ?_⟩
   · rw [Int.toNat_natCast] at hs ⊢
     rw [drop_this _ _ _ hs, outer] at hj
     refine ⟨fun h6 => ?_, fun h6 => ⟨by omega, ?_⟩⟩
     · have h6 : checkS s m.Size ≠ 0 := by simpa using h6
       rw [if_pos h6] at hj
       rw [← hj, if_pos h6]
     · have h6 : ¬ checkS s m.Size ≠ 0 := by simpa using h6
       rw [if_neg h6] at hj
       have htl : (m.Signals.take k).length = k := by rw [List.length_take]; omega
       refine rg0 (by omega) (fun i => inner s ((m.Signals.take k).drop i) = inner s (m.Signals.take k)) rfl ?_ ?_
       · intro i o hi ho hij inv mu hn
         rw [drop_this _ _ _ ho, inner] at hij
         refine ⟨fun h7 => ?_, fun h7 => ⟨fun h8 => ?_, fun h8 => hn ?_⟩⟩
         · have h7 : o.Name = s.Name := by simpa using h7
           rw [if_pos h7] at hij
           rw [← hij, if_pos (by decide)] at hj
           rw [← hj]
           rfl
         · have h7 : ¬ o.Name = s.Name := by simpa using h7
           rw [if_neg h7, if_pos h8] at hij
           rw [← hij, if_pos (by decide)] at hj
           rw [← hj]
           rfl
         · have h7 : ¬ o.Name = s.Name := by simpa using h7
           rw [if_neg h7, if_neg (by rw [h8]; simp)] at hij
           exact hij
       · intro hij
         rw [List.drop_length, inner] at hij
         rw [← hij, if_neg (by simp)] at hj
         rw [take_next _ _ _ hs]
         exact hj
   · rw [w64_succ k (by omega)]
     exact ⟨⟨k + 1, rfl, by omega, h6⟩, by (try dsimp only); omega⟩
 · have hkl : k = m.Signals.length := by have := of_decide_eq_false h5; omega
   subst hkl
   rw [List.drop_length, outer] at hj
   subst hj
   obtain ⟨hall, _⟩ := outer_zero hE
   rw [if_neg (by simp)]
   refine ⟨fun h6 => ?_, fun h6 => ?_⟩
   · rw [if_pos (by simpa using h6)]
   · have h6 : ¬ (m.Chooser < -1 ∨ (m.Signals.length : Int) ≤ m.Chooser) := by simpa using h6
     rw [if_neg h6]
     refine ⟨fun h7 => ⟨by have := of_decide_eq_true h7; omega, fun c hc => ⟨fun h8 => ?_, fun h8 => ?_⟩⟩, fun h7 => ?_⟩
     · have : chBad m = true := by unfold chBad chooserOf; rw [h7, hc, Option.getD_some, h8]; rfl
       rw [if_pos this]
     · have : ¬ chBad m = true := by unfold chBad chooserOf; rw [h7, hc, Option.getD_some, h8]; simp
       rw [if_neg this]
       exact key_loop (A := fun r => r = if m.Signals.any (keyBad m) = true then 4 else 0) m (by omega) hall (by omega) (fun h9 => by rw [if_pos h9]) (fun h9 => by rw [if_neg h9])
     · have : ¬ chBad m = true := by unfold chBad; rw [h7]; simp
       rw [if_neg this]
       exact key_loop (A := fun r => r = if m.Signals.any (keyBad m) = true then 4 else 0) m (by omega) hall (by omega) (fun h9 => by rw [if_pos h9]) (fun h9 => by rw [if_neg h9])
structure MOk (m : Message) : Prop where
 name : nameS m.Name = true
 num : fcheckfr (⟨m.ID, m.Long, false, false, 0, []⟩ : Frame) = 0
 size : 0 ≤ m.Size ∧ m.Size ≤ 8
 few : m.Signals.length ≤ 16
 sigs : ∀ s ∈ m.Signals, checkS s m.Size = 0
 apart : ∀ (i : Nat) s, m.Signals[i]? = some s → inner s (m.Signals.take i) = 0
 ch : -1 ≤ m.Chooser ∧ m.Chooser < (m.Signals.length : Int)
 chooser : chBad m = false
 keys : ∀ s ∈ m.Signals, keyBad m s = false
theorem mcheck_zero {m : Message} (h : mcheckS m = 0) : MOk m := by
 unfold mcheckS at h
 split at h
 · cases h
 rename_i h1
 split at h
 · rename_i h2; exact absurd h h2
 rename_i h2
 split at h
 · cases h
 rename_i h3
 split at h
 · cases h
 rename_i h4
 split at h
 · rename_i h5; exact absurd h h5
 rename_i h5
 split at h
 · cases h
 rename_i h6
 split at h
 · cases h
 rename_i h7
 split at h
 · cases h
 rename_i h8
 obtain ⟨a1, a2⟩ := outer_zero (Classical.not_not.1 h5)
 refine ⟨by simpa using h1, Classical.not_not.1 h2, by omega, by omega, a1, fun i s hs => ?_, by omega, by simpa using h7, fun s hs => ?_⟩
 · have := a2 i s hs
   rwa [List.nil_append] at this
 · cases hb : keyBad m s with
   | false => rfl
   | true => exact absurd (List.any_eq_true.2 ⟨s, hs, hb⟩) h8
theorem inD_le {s : Signal} {size : Int} {d : List Int} (h : checkS s size = 0) (hd : isBytes d) (hl : size ≤ (d.length : Int)) : inD s d := by
 obtain ⟨⟨a1, a2, a3, a4⟩, _, ⟨a5, a6⟩, a7⟩ := check_zero h
 exact ⟨⟨⟨a5, by omega⟩, a3, a4⟩, hd, fun p hp => by have := a7 p hp; omega⟩
theorem there_pre {m : Message} (h : MOk m) {s : Signal} (hs : s ∈ m.Signals) {d : List Int} (hd : isBytes d) (hl : m.Size ≤ (d.length : Int)) : therepre m s d := by
 rcases Int.lt_or_le s.Key 0 with hk | hk
 · exact .inl hk
 · have := h.keys s hs
   unfold keyBad at this
   rw [decide_eq_true hk] at this
   have h2 : ¬ m.Chooser < 0 := by
    intro hc
    rw [decide_eq_true hc] at this
    cases this
   exact .inr ⟨⟨by omega, h.ch.2⟩, fun q hq => inD_le (h.sigs q (List.mem_of_getElem? hq)) hd hl⟩
end Go.Proofs.YtdndfbamhnchfaaGreatDoor
set_option linter.unusedVariables false
set_option linter.unusedSimpArgs false
namespace Go.Proofs.YtdndfbamhnchfaaGreatDoor
open Go.Sy Go.RowKit
def mread_vc (u0 : Message) (u1 : Frame) (K : ((List Reading) × Int) → Prop) : Prop := (u0.Signals.length ≤ 140737488355328 → (u1.Data.length ≤ 140737488355328 → ((((mcheckS u0) != 0) = true → (K (([] : List Reading), (mcheckS u0)))) ∧ (((mcheckS u0) != 0) = false → ((((fcheckfr u1) != 0) = true → (K (([] : List Reading), (fcheckfr u1)))) ∧ (((fcheckfr u1) != 0) = false → (((((u1.ID != u0.ID) || (u1.Long != u0.Long)) || u1.Remote) = true → (K (([] : List Reading), 8))) ∧ ((((u1.ID != u0.ID) || (u1.Long != u0.Long)) || u1.Remote) = false → (((decide ((u1.Data.length : Int) < u0.Size)) = true → (K (([] : List Reading), 7))) ∧ ((decide ((u1.Data.length : Int) < u0.Size)) = false → (∃ inv153 : (List Reading) → Int → Prop, ∃ mu153 : (List Reading) → Int → Nat, inv153 ([] : List Reading) 0 ∧ (∀ (x8 : List Reading) (x46 : Int), inv153 x8 x46 → (((decide (x46 < (u0.Signals.length : Int))) = true → ((0 ≤ x46 ∧ x46 < (u0.Signals.length : Int)) ∧ (∀ q178, u0.Signals[x46.toNat]? = some q178 → ((therepre u0 q178 u1.Data) ∧ (((mthereS u0 q178 u1.Data) = true → ((inD q178 u1.Data) ∧ ((factS q178 ∧ -1099511627776 ≤ (getS q178 u1.Data) ∧ (getS q178 u1.Data) ≤ 1099511627776) ∧ (((x8.length + 1) * 32 ≤ 140737488355328) ∧ (inv153 (x8 ++ [(meanS q178 (getS q178 u1.Data))]) (w64 (x46 + 1)) ∧ mu153 (x8 ++ [(meanS q178 (getS q178 u1.Data))]) (w64 (x46 + 1)) < mu153 x8 x46))))) ∧ ((mthereS u0 q178 u1.Data) = false → (inv153 x8 (w64 (x46 + 1)) ∧ mu153 x8 (w64 (x46 + 1)) < mu153 x8 x46))))))) ∧ ((decide (x46 < (u0.Signals.length : Int))) = false → (K (x8, 0))))))))))))))))
def mwrite_vc (u0 : Message) (u1 : List Reading) (K : (Frame × Int) → Prop) : Prop := (u0.Signals.length ≤ 140737488355328 → (u1.length ≤ 140737488355328 → ((((mcheckS u0) != 0) = true → (K ((⟨0, false, false, false, 0, []⟩ : Frame), (mcheckS u0)))) ∧ (((mcheckS u0) != 0) = false → ((0 ≤ u0.Size ∧ u0.Size ≤ u0.Size ∧ u0.Size * 1 ≤ 140737488355328) ∧ (∃ inv134 : (List (List UInt8 × Reading)) → Prop, (∃ inv764 : Int → (List (List UInt8 × Reading)) → Prop, ∃ mu764 : Int → (List (List UInt8 × Reading)) → Nat, inv764 0 ([] : List (List UInt8 × Reading)) ∧ (∀ (x35 : Int) (mb112v : List (List UInt8 × Reading)), inv764 x35 mb112v → (((decide (x35 < (u1.length : Int))) = true → ((0 ≤ x35 ∧ x35 < (u1.length : Int)) ∧ (∀ q788, u1[x35.toNat]? = some q788 → (((mget mb112v q788.Name).isSome = true → (K ((⟨0, false, false, false, 0, []⟩ : Frame), 9))) ∧ ((mget mb112v q788.Name).isSome = false → (inv764 (w64 (x35 + 1)) (mput mb112v q788.Name q788) ∧ mu764 (w64 (x35 + 1)) (mput mb112v q788.Name q788) < mu764 x35 mb112v)))))) ∧ ((decide (x35 < (u1.length : Int))) = false → (inv134 mb112v))))) ∧ (∀ (mb112 : List (List UInt8 × Reading)), inv134 mb112 → (∃ inv160 : (List (List UInt8 × Reading)) → (List Int) → Prop, (((decide (u0.Chooser ≥ 0)) = true → ((0 ≤ u0.Chooser ∧ u0.Chooser < (u0.Signals.length : Int)) ∧ (∀ q572, u0.Signals[u0.Chooser.toNat]? = some q572 → (((!(mget mb112 q572.Name).isSome) = true → (K ((⟨0, false, false, false, 0, []⟩ : Frame), 14))) ∧ ((!(mget mb112 q572.Name).isSome) = false → (∃ inv689 : (List Int) → Prop, ((((rawS q572 ((mget mb112 q572.Name).getD ((⟨[], 0, 0⟩ : Reading) : Reading)).Num ((mget mb112 q572.Name).getD ((⟨[], 0, 0⟩ : Reading) : Reading)).Den).2 == 0) = true → ((inD q572 (List.replicate u0.Size.toNat (0 : Int))) ∧ ((putS q572 (List.replicate u0.Size.toNat (0 : Int)) (rawS q572 ((mget mb112 q572.Name).getD ((⟨[], 0, 0⟩ : Reading) : Reading)).Num ((mget mb112 q572.Name).getD ((⟨[], 0, 0⟩ : Reading) : Reading)).Den).1).length ≤ 140737488355328 → (inv689 (putS q572 (List.replicate u0.Size.toNat (0 : Int)) (rawS q572 ((mget mb112 q572.Name).getD ((⟨[], 0, 0⟩ : Reading) : Reading)).Num ((mget mb112 q572.Name).getD ((⟨[], 0, 0⟩ : Reading) : Reading)).Den).1))))) ∧ (((rawS q572 ((mget mb112 q572.Name).getD ((⟨[], 0, 0⟩ : Reading) : Reading)).Num ((mget mb112 q572.Name).getD ((⟨[], 0, 0⟩ : Reading) : Reading)).Den).2 == 0) = false → (inv689 (List.replicate u0.Size.toNat (0 : Int))))) ∧ (∀ (zg790v : List Int), inv689 zg790v → ((((rawS q572 ((mget mb112 q572.Name).getD ((⟨[], 0, 0⟩ : Reading) : Reading)).Num ((mget mb112 q572.Name).getD ((⟨[], 0, 0⟩ : Reading) : Reading)).Den).2 != 0) = true → (K ((⟨0, false, false, false, 0, []⟩ : Frame), (rawS q572 ((mget mb112 q572.Name).getD ((⟨[], 0, 0⟩ : Reading) : Reading)).Num ((mget mb112 q572.Name).getD ((⟨[], 0, 0⟩ : Reading) : Reading)).Den).2))) ∧ (((rawS q572 ((mget mb112 q572.Name).getD ((⟨[], 0, 0⟩ : Reading) : Reading)).Num ((mget mb112 q572.Name).getD ((⟨[], 0, 0⟩ : Reading) : Reading)).Den).2 != 0) = false → (inv160 (mdel mb112 q572.Name) zg790v)))))))))) ∧ ((decide (u0.Chooser ≥ 0)) = false → (inv160 mb112 (List.replicate u0.Size.toNat (0 : Int))))) ∧ (∀ (mb112v : List (List UInt8 × Reading)) (zg790 : List Int), inv160 mb112v zg790 → (∃ inv185 : (List (List UInt8 × Reading)) → (List Int) → Prop, (∃ inv234 : Int → (List (List UInt8 × Reading)) → (List Int) → Prop, ∃ mu234 : Int → (List (List UInt8 × Reading)) → (List Int) → Nat, inv234 0 mb112v zg790 ∧ (∀ (x72 : Int) (mb112vvv : List (List UInt8 × Reading)) (zg790vv : List Int), inv234 x72 mb112vvv zg790vv → (((decide (x72 < (u0.Signals.length : Int))) = true → (∃ inv257 : (List (List UInt8 × Reading)) → (List Int) → Prop, ((0 ≤ x72 ∧ x72 < (u0.Signals.length : Int)) ∧ (∀ q289, u0.Signals[x72.toNat]? = some q289 → (((x72 == u0.Chooser) = true → (inv257 mb112vvv zg790vv)) ∧ ((x72 == u0.Chooser) = false → ((therepre u0 q289 zg790vv) ∧ (((!(mthereS u0 q289 zg790vv)) = true → (inv257 mb112vvv zg790vv)) ∧ ((!(mthereS u0 q289 zg790vv)) = false → (((!(mget mb112vvv q289.Name).isSome) = true → (K ((⟨0, false, false, false, 0, []⟩ : Frame), 14))) ∧ ((!(mget mb112vvv q289.Name).isSome) = false → (∃ inv473 : (List Int) → Prop, ((((rawS q289 ((mget mb112vvv q289.Name).getD ((⟨[], 0, 0⟩ : Reading) : Reading)).Num ((mget mb112vvv q289.Name).getD ((⟨[], 0, 0⟩ : Reading) : Reading)).Den).2 == 0) = true → ((inD q289 zg790vv) ∧ ((putS q289 zg790vv (rawS q289 ((mget mb112vvv q289.Name).getD ((⟨[], 0, 0⟩ : Reading) : Reading)).Num ((mget mb112vvv q289.Name).getD ((⟨[], 0, 0⟩ : Reading) : Reading)).Den).1).length ≤ 140737488355328 → (inv473 (putS q289 zg790vv (rawS q289 ((mget mb112vvv q289.Name).getD ((⟨[], 0, 0⟩ : Reading) : Reading)).Num ((mget mb112vvv q289.Name).getD ((⟨[], 0, 0⟩ : Reading) : Reading)).Den).1))))) ∧ (((rawS q289 ((mget mb112vvv q289.Name).getD ((⟨[], 0, 0⟩ : Reading) : Reading)).Num ((mget mb112vvv q289.Name).getD ((⟨[], 0, 0⟩ : Reading) : Reading)).Den).2 == 0) = false → (inv473 zg790vv))) ∧ (∀ (zg790vvvv : List Int), inv473 zg790vvvv → ((((rawS q289 ((mget mb112vvv q289.Name).getD ((⟨[], 0, 0⟩ : Reading) : Reading)).Num ((mget mb112vvv q289.Name).getD ((⟨[], 0, 0⟩ : Reading) : Reading)).Den).2 != 0) = true → (K ((⟨0, false, false, false, 0, []⟩ : Frame), (rawS q289 ((mget mb112vvv q289.Name).getD ((⟨[], 0, 0⟩ : Reading) : Reading)).Num ((mget mb112vvv q289.Name).getD ((⟨[], 0, 0⟩ : Reading) : Reading)).Den).2))) ∧ (((rawS q289 ((mget mb112vvv q289.Name).getD ((⟨[], 0, 0⟩ : Reading) : Reading)).Num ((mget mb112vvv q289.Name).getD ((⟨[], 0, 0⟩ : Reading) : Reading)).Den).2 != 0) = false → (inv257 (mdel mb112vvv q289.Name) zg790vvvv)))))))))))))) ∧ (∀ (mb112vvvv : List (List UInt8 × Reading)) (zg790vvv : List Int), inv257 mb112vvvv zg790vvv → (inv234 (w64 (x72 + 1)) mb112vvvv zg790vvv ∧ mu234 (w64 (x72 + 1)) mb112vvvv zg790vvv < mu234 x72 mb112vvv zg790vv)))) ∧ ((decide (x72 < (u0.Signals.length : Int))) = false → (inv185 mb112vvv zg790vv))))) ∧ (∀ (mb112vv : List (List UInt8 × Reading)) (zg790v : List Int), inv185 mb112vv zg790v → (((decide ((mb112vv.length : Int) > 0)) = true → (K ((⟨0, false, false, false, 0, []⟩ : Frame), 8))) ∧ ((decide ((mb112vv.length : Int) > 0)) = false → (K ((⟨u0.ID, u0.Long, false, false, 0, zg790v⟩ : Frame), 0)))))))))))))))
def zeroF : Frame := ⟨0, false, false, false, 0, []⟩
def readL (m : Message) (d : List Int) (l : List Signal) : List Reading := (l.filter fun s => mthereS m s d).map fun s => meanS s (getS s d)
def readS (m : Message) (f : Frame) : List Reading × Int :=
 if mcheckS m ≠ 0 then ([], mcheckS m) else if fcheckfr f ≠ 0 then ([], fcheckfr f) else
 if f.ID ≠ m.ID ∨ f.Long ≠ m.Long ∨ f.Remote = true then ([], 8) else
 if (f.Data.length : Int) < m.Size then ([], 7) else (readL m f.Data m.Signals, 0)
theorem fact_of {s : Signal} {size : Int} (h : checkS s size = 0) (d : List Int) : factS s ∧ -1099511627776 ≤ getS s d ∧ getS s d ≤ 1099511627776 := by
 obtain ⟨⟨a1, a2, a3, a4⟩, a5, _⟩ := check_zero h
 exact ⟨a5, get_bound ⟨a3, a4⟩⟩
theorem mread_ok (m : Message) (f : Frame) (hd : isBytes f.Data) : mread_vc m f (fun r => r = readS m f) := by
 intro _ _
 refine ⟨fun h1 => ?_, fun h1 => ⟨fun h2 => ?_, fun h2 => ⟨fun h3 => ?_, fun h3 => ⟨fun h4 => ?_, fun h4 => ?_⟩⟩⟩⟩
 · have h1 : mcheckS m ≠ 0 := by simpa using h1
   unfold readS
   rw [if_pos h1]
 all_goals have h1 : ¬ mcheckS m ≠ 0 := by simpa using h1
 · have h2 : fcheckfr f ≠ 0 := by simpa using h2
   unfold readS
   rw [if_neg h1, if_pos h2]
 all_goals have h2 : ¬ fcheckfr f ≠ 0 := by simpa using h2
 · have h3 : f.ID ≠ m.ID ∨ f.Long ≠ m.Long ∨ f.Remote = true := by
     simp only [Bool.or_eq_true, bne_iff_ne] at h3
     rcases h3 with (h3 | h3) | h3
     · exact .inl h3
     · exact .inr (.inl h3)
     · exact .inr (.inr h3)
   unfold readS
   rw [if_neg h1, if_neg h2, if_pos h3]
 all_goals have h3 : ¬ (f.ID ≠ m.ID ∨ f.Long ≠ m.Long ∨ f.Remote = true) := by
             simp only [Bool.or_eq_false_iff, bne_eq_false_iff_eq] at h3
             intro hc
             rcases hc with hc | hc | hc
             · exact hc h3.1.1
             · exact hc h3.1.2
             · rw [h3.2] at hc; cases hc
 · have h4 := of_decide_eq_true h4
   unfold readS
   rw [if_neg h1, if_neg h2, if_neg h3, if_pos h4]
 have h4 := of_decide_eq_false h4
 have hS : readS m f = (readL m f.Data m.Signals, 0) := by
  unfold readS
  rw [if_neg h1, if_neg h2, if_neg h3, if_neg h4]
 rw [hS]
 have H := mcheck_zero (Classical.not_not.1 h1)
 have hfew := H.few
 refine rg1b (by omega) (fun k x => x = readL m f.Data (m.Signals.take k)) (by simp [readL]) ?_ ?_
 · rintro k _ s hk hs rfl inv mu hn
   have hmem := List.mem_of_getElem? hs
   have hck := H.sigs s hmem
   have hrl : ∀ l, readL m f.Data (m.Signals.take k ++ l) = readL m f.Data (m.Signals.take k) ++ readL m f.Data l := fun l => by unfold readL; rw [List.filter_append, List.map_append]
   refine ⟨there_pre H hmem hd (by omega), fun h5 => ⟨inD_le hck hd (by omega), fact_of hck _, ?_, hn _ ?_⟩, fun h5 => hn _ ?_⟩
   · have : (readL m f.Data (m.Signals.take k)).length ≤ k := by
       unfold readL
       rw [List.length_map]
       refine Nat.le_trans (List.length_filter_le _ _) ?_
       rw [List.length_take]
       omega
     omega
   · rw [take_next _ _ _ hs, hrl]
     congr 1
     simp [readL, h5]
   · rw [take_next _ _ _ hs, hrl]
     simp [readL, h5]
 · rintro _ rfl
   rw [List.take_length]
abbrev Told := List (List UInt8 × Reading)
def tell : List Reading → Told → Option Told
 | [], t => some t
 | r :: l, t => if (mget t r.Name).isSome = true then none else tell l (mput t r.Name r)
def putW (s : Signal) (t : Told) (d : List Int) : Except Int (Told × List Int) := match mget t s.Name with
 | none => .error 14
 | some r => if (rawS s r.Num r.Den).2 ≠ 0 then .error (rawS s r.Num r.Den).2 else .ok (mdel t s.Name, putS s d (rawS s r.Num r.Den).1)
def writeL (m : Message) : Int → List Signal → Told → List Int → Except Int (Told × List Int)
 | _, [], t, d => .ok (t, d)
 | i, s :: l, t, d => if i = m.Chooser ∨ mthereS m s d = false then writeL m (i + 1) l t d else match putW s t d with
  | .error e => .error e
  | .ok q => writeL m (i + 1) l q.1 q.2
def chW (m : Message) (t : Told) (d : List Int) : Except Int (Told × List Int) := if 0 ≤ m.Chooser then putW (chooserOf m) t d else .ok (t, d)
def endW (m : Message) : Except Int (Told × List Int) → Frame × Int
 | .error e => (zeroF, e)
 | .ok q => if 0 < q.1.length then (zeroF, 8) else (⟨m.ID, m.Long, false, false, 0, q.2⟩, 0)
def goW (m : Message) : Except Int (Told × List Int) → Frame × Int
 | .error e => (zeroF, e)
 | .ok q => endW m (writeL m 0 m.Signals q.1 q.2)
def writeS (m : Message) (l : List Reading) : Frame × Int :=
 if mcheckS m ≠ 0 then (zeroF, mcheckS m) else match tell l [] with
  | none => (zeroF, 9)
  | some t => goW m (chW m t (List.replicate m.Size.toNat 0))
theorem putS_len (s : Signal) (d : List Int) (n : Int) : (putS s d n).length = d.length := putF_len _ _ _ _
theorem putS_bytes {s : Signal} {d : List Int} (hd : isBytes d) (n : Int) : isBytes (putS s d n) := putF_bytes _ _ _ _ hd
theorem rep_bytes (n : Nat) : isBytes (List.replicate n (0 : Int)) := fun x hx => by
 have : x = 0 := List.eq_of_mem_replicate hx
 omega
theorem mwrite_ok (m : Message) (l : List Reading) : mwrite_vc m l (fun r => r = writeS m l) := by
 intro _ hl
 refine ⟨fun h1 => ?_, fun h1 => ?_⟩
 · have h1 : mcheckS m ≠ 0 := by simpa using h1
   unfold writeS
   rw [if_pos h1]
   rfl
 have h1 : ¬ mcheckS m ≠ 0 := by simpa using h1
 have H := mcheck_zero (Classical.not_not.1 h1)
 have hsz := H.size
 have hfew := H.few
 have hS : writeS m l = match tell l [] with
  | none => (zeroF, 9)
  | some t => goW m (chW m t (List.replicate m.Size.toNat 0)) := by
  unfold writeS
  rw [if_neg h1]
  try rfl
 rw [hS]
 generalize hT : tell l [] = T
 refine ⟨by omega, fun t => T = some t, ?_, ?_⟩
 · refine rg1a hl (fun k t => tell (l.drop k) t = T) hT ?_ ?_
   · intro k t r hk hr hj inv mu hn
     rw [drop_this _ _ _ hr, tell] at hj
     refine ⟨fun h2 => ?_, fun h2 => hn _ ?_⟩
     · rw [if_pos h2] at hj
       rw [← hj]
       rfl
     · rw [if_neg (by rw [h2]; simp)] at hj
       exact hj
   · intro t hj
     rw [List.drop_length, tell] at hj
     exact hj.symm
 · rintro t rfl
   dsimp only
   generalize hC : chW m t (List.replicate m.Size.toNat 0) = C
   have hd0 := rep_bytes m.Size.toNat
   have hl0 : (List.replicate m.Size.toNat (0 : Int)).length = m.Size.toNat := List.length_replicate
   generalize List.replicate m.Size.toNat (0 : Int) = d0 at hC hd0 hl0
   refine ⟨fun t d => C = .ok (t, d) ∧ isBytes d ∧ d.length = m.Size.toNat, ⟨fun h2 => ?_, fun h2 => ?_⟩, ?_⟩
   · have h2 := of_decide_eq_true h2
     refine ⟨⟨h2, H.ch.2⟩, fun c hc => ?_⟩
     have hcc : chooserOf m = c := by unfold chooserOf; rw [hc]; rfl
     have hck := H.sigs c (List.mem_of_getElem? hc)
     unfold chW putW at hC
     rw [if_pos h2, hcc] at hC
     refine ⟨fun h3 => ?_, fun h3 => ?_⟩
     · have h3 : mget t c.Name = none := by simpa using h3
       rw [h3] at hC
       rw [← hC]
       rfl
     · obtain ⟨r, hr⟩ : ∃ r, mget t c.Name = some r := by
         cases hq : mget t c.Name with
         | none => rw [hq] at h3; cases h3
         | some r => exact ⟨r, rfl⟩
       rw [hr, Option.getD_some]
       rw [hr] at hC
       dsimp only at hC
       refine ⟨fun d => ((rawS c r.Num r.Den).2 = 0 → d = putS c d0 (rawS c r.Num r.Den).1), ⟨fun h4 => ⟨inD_le hck hd0 (by omega), fun _ _ => rfl⟩, fun h4 h5 => ?_⟩, fun d hd => ⟨fun h5 => ?_, fun h5 => ?_⟩⟩
       · rw [h5] at h4
         cases h4
       · have h5 : (rawS c r.Num r.Den).2 ≠ 0 := by simpa using h5
         rw [if_pos h5] at hC
         rw [← hC]
         rfl
       · have h5 : (rawS c r.Num r.Den).2 = 0 := by simpa using h5
         rw [if_neg (fun hc => hc h5)] at hC
         rw [hd h5]
         exact ⟨hC.symm, putS_bytes hd0 _, by rw [putS_len]; exact hl0⟩
   · have h2 := of_decide_eq_false h2
     unfold chW at hC
     rw [if_neg h2] at hC
     exact ⟨hC.symm, hd0, hl0⟩
   · rintro t d ⟨rfl, hd, hdl⟩
     show ∃ inv233 : Told → List Int → Prop, _
     have hgo : goW m (.ok (t, d)) = endW m (writeL m 0 m.Signals t d) := rfl
     rw [hgo]
     generalize hW : writeL m 0 m.Signals t d = W
     refine ⟨fun t d => W = .ok (t, d), ⟨fun i t d => ∃ k : Nat, i = k ∧ k ≤ m.Signals.length ∧ isBytes d ∧ d.length = m.Size.toNat ∧ writeL m k (m.Signals.drop k) t d = W, fun i _ _ => m.Signals.length - i.toNat, ⟨0, rfl, by omega, hd, hdl, hW⟩, ?_⟩, ?_⟩
     · rintro _ t d ⟨k, rfl, hk, hd, hdl, hW⟩
       refine ⟨fun h2 => ?_, fun h2 => ?_⟩
       · have hkl : k < m.Signals.length := by have := of_decide_eq_true h2; omega
         refine ⟨fun t d => isBytes d ∧ d.length = m.Size.toNat ∧ writeL m ((k : Int) + 1) (m.Signals.drop (k + 1)) t d = W, ⟨by omega, fun s hs => ?_⟩, ?_⟩
         · rw [Int.toNat_natCast] at hs
           have hmem := List.mem_of_getElem? hs
           have hck := H.sigs s hmem
           rw [drop_this _ _ _ hs, writeL] at hW
           refine ⟨fun h3 => ?_, fun h3 => ⟨there_pre H hmem hd (by omega), fun h4 => ?_, fun h4 => ?_⟩⟩
           · have h3 : (k : Int) = m.Chooser := by simpa using h3
             rw [if_pos (.inl h3)] at hW
             exact ⟨hd, hdl, hW⟩
           · rw [if_pos (.inr (by simpa using h4))] at hW
             exact ⟨hd, hdl, hW⟩
           · have h3 : ¬ (k : Int) = m.Chooser := by simpa using h3
             have h4 : mthereS m s d = true := by simpa using h4
             rw [if_neg (by rw [h4]; simp [h3])] at hW
             unfold putW at hW
             refine ⟨fun h5 => ?_, fun h5 => ?_⟩
             · have h5 : mget t s.Name = none := by simpa using h5
               rw [h5] at hW
               rw [← hW]
               rfl
             · obtain ⟨r, hr⟩ : ∃ r, mget t s.Name = some r := by
                 cases hq : mget t s.Name with
                 | none => rw [hq] at h5; cases h5
                 | some r => exact ⟨r, rfl⟩
               rw [hr, Option.getD_some]
               rw [hr] at hW
               dsimp only at hW
               refine ⟨fun d' => ((rawS s r.Num r.Den).2 = 0 → d' = putS s d (rawS s r.Num r.Den).1), ⟨fun h4 => ⟨inD_le hck hd (by omega), fun _ _ => rfl⟩, fun h4 h5 => ?_⟩, fun d' hd' => ⟨fun h5 => ?_, fun h5 => ?_⟩⟩
               · rw [h5] at h4
                 cases h4
               · have h5 : (rawS s r.Num r.Den).2 ≠ 0 := by simpa using h5
                 rw [if_pos h5] at hW
                 rw [← hW]
                 rfl
               · have h5 : (rawS s r.Num r.Den).2 = 0 := by simpa using h5
                 rw [if_neg (fun hc => hc h5)] at hW
                 rw [hd' h5]
                 exact ⟨putS_bytes hd _, by rw [putS_len]; exact hdl, hW⟩
         · rintro t d ⟨hd, hdl, hW⟩
           rw [w64_succ k (by omega)]
           exact ⟨⟨k + 1, rfl, by omega, hd, hdl, hW⟩, by (try dsimp only); omega⟩
       · have hkl : k = m.Signals.length := by have := of_decide_eq_false h2; omega
         subst hkl
         rw [List.drop_length, writeL] at hW
         exact hW.symm
     · rintro t d rfl
       refine ⟨fun h2 => ?_, fun h2 => ?_⟩
       · have h2 : 0 < t.length := by have := of_decide_eq_true h2; omega
         show _ = (if 0 < t.length then (zeroF, (8 : Int)) else (⟨m.ID, m.Long, false, false, 0, d⟩, 0))
         rw [if_pos h2]
         rfl
       · have h2 : ¬ 0 < t.length := by have := of_decide_eq_false h2; omega
         show _ = (if 0 < t.length then (zeroF, (8 : Int)) else (⟨m.ID, m.Long, false, false, 0, d⟩, 0))
         rw [if_neg h2]
end Go.Proofs.YtdndfbamhnchfaaGreatDoor
set_option linter.unusedVariables false
set_option linter.unusedSimpArgs false
namespace Go.Proofs.YtdndfbamhnchfaaGreatDoor
open Go.Sy Go.RowKit
def req_vc (u0 : List Reading) (u1 : List Reading) (K : Bool → Prop) : Prop := (u0.length ≤ 140737488355328 → (u1.length ≤ 140737488355328 → ((((u0.length : Int) != (u1.length : Int)) = true → (K false)) ∧ (((u0.length : Int) != (u1.length : Int)) = false → (∃ inv37 : Int → Prop, ∃ mu37 : Int → Nat, inv37 0 ∧ (∀ (x13 : Int), inv37 x13 → (((decide (x13 < (u0.length : Int))) = true → ((0 ≤ x13 ∧ x13 < (u0.length : Int)) ∧ (∀ q74, u0[x13.toNat]? = some q74 → ((0 ≤ x13 ∧ x13 < (u1.length : Int)) ∧ (∀ q96, u1[x13.toNat]? = some q96 → (((!((q74.Name == q96.Name) && ((q74.Num == q96.Num) && ((q74.Den == q96.Den) && true)))) = true → (K false)) ∧ ((!((q74.Name == q96.Name) && ((q74.Num == q96.Num) && ((q74.Den == q96.Den) && true)))) = false → (inv37 (w64 (x13 + 1)) ∧ mu37 (w64 (x13 + 1)) < mu37 x13)))))))) ∧ ((decide (x13 < (u0.length : Int))) = false → (K true)))))))))
def eng1_vc (u0 : List UInt8) (u1 : Int) (u2 : Int) (K : Signal → Prop) : Prop := (K (⟨u0, u1, 8, false, false, 1, 1, 0, u2⟩ : Signal))
def eng1 (u0 : List UInt8) (u1 : Int) (u2 : Int) : Signal :=
 (⟨u0, u1, 8, false, false, 1, 1, 0, u2⟩ : Signal)
theorem eng1_ok (u0 : List UInt8) (u1 : Int) (u2 : Int) : eng1_vc u0 u1 u2 (fun r => r = eng1 u0 u1 u2) := (by rfl)
def engine_vc  (K : Message → Prop) : Prop := (K (⟨100, false, ([101, 110, 103, 105, 110, 101] : List UInt8), 2, 0, ([(eng1 ([119, 104, 105, 99, 104] : List UInt8) 0 (-1)), (eng1 ([104, 101, 97, 116] : List UInt8) 8 0), (eng1 ([108, 111, 97, 100] : List UInt8) 8 1)] : List Signal)⟩ : Message))
def engine  : Message :=
 (⟨100, false, ([101, 110, 103, 105, 110, 101] : List UInt8), 2, 0, ([(eng1 ([119, 104, 105, 99, 104] : List UInt8) 0 (-1)), (eng1 ([104, 101, 97, 116] : List UInt8) 8 0), (eng1 ([108, 111, 97, 100] : List UInt8) 8 1)] : List Signal)⟩ : Message)
theorem engine_ok  : engine_vc  (fun r => r = engine ) := (by rfl)
def reqS (a b : List Reading) : Bool := decide (a = b)
theorem rd_eq (q p : Reading) : ((q.Name == p.Name) && ((q.Num == p.Num) && ((q.Den == p.Den) && true))) = decide (q = p) := by
 obtain ⟨a1, a2, a3⟩ := q
 obtain ⟨b1, b2, b3⟩ := p
 rw [Bool.eq_iff_iff]
 simp
theorem req_ok (a b : List Reading) : req_vc a b (fun r => r = reqS a b) := by
 intro ha hb
 refine ⟨fun h => ?_, fun h => ?_⟩
 · have h : ¬ (a.length : Int) = (b.length : Int) := by simpa using h
   unfold reqS
   rw [decide_eq_false]
   intro e
   rw [e] at h
   exact h rfl
 · have h : a.length = b.length := by
     have h : (a.length : Int) = (b.length : Int) := by simpa only [bne_eq_false_iff_eq] using h
     omega
   refine rg0 ha (fun k => ∀ (j : Nat) (x y : Reading), j < k → a[j]? = some x → b[j]? = some y → x = y) (fun j _ _ hj => absurd hj (Nat.not_lt_zero _)) ?_ ?_
   · intro k q hk hq hj inv mu hn
     refine ⟨by omega, fun p hp => ?_⟩
     rw [rd_eq]
     rw [Int.toNat_natCast] at hp
     refine ⟨fun h1 => ?_, fun h1 => hn fun j x y hj1 hx hy => ?_⟩
     · unfold reqS
       rw [decide_eq_false]
       rintro rfl
       rw [hq] at hp
       cases hp
       simp at h1
     · have h1 : q = p := by simpa using h1
       rcases Nat.lt_or_ge j k with hc | hc
       · exact hj j x y hc hx hy
       · have : j = k := by omega
         subst this
         rw [hq] at hx
         rw [hp] at hy
         cases hx; cases hy; exact h1
   · intro hj
     unfold reqS
     rw [decide_eq_true]
     exact list_eq_at h fun k x y hx hy => hj k x y (List.getElem?_eq_some_iff.1 hx).1 hx hy
end Go.Proofs.YtdndfbamhnchfaaGreatDoor
set_option linter.unusedVariables false
set_option linter.unusedSimpArgs false
namespace Go.Proofs.YtdndfbamhnchfaaGreatDoor
open Go.Sy Go.RowKit
def meant_vc  (K : Bool → Prop) : Prop := (engine.Signals.length ≤ 140737488355328 → ((isBytes (⟨100, false, false, false, 0, ([1, 7] : List Int)⟩ : Frame).Data) ∧ ((readS engine (⟨100, false, false, false, 0, ([1, 7] : List Int)⟩ : Frame)).1.length ≤ 140737488355328 → (engine.Signals.length ≤ 140737488355328 → ((writeS engine (readS engine (⟨100, false, false, false, 0, ([1, 7] : List Int)⟩ : Frame)).1).1.Data.length ≤ 140737488355328 → (((((readS engine (⟨100, false, false, false, 0, ([1, 7] : List Int)⟩ : Frame)).2 == 0) && ((writeS engine (readS engine (⟨100, false, false, false, 0, ([1, 7] : List Int)⟩ : Frame)).1).2 == 0)) = true → (((reqS (readS engine (⟨100, false, false, false, 0, ([1, 7] : List Int)⟩ : Frame)).1 ([(⟨([119, 104, 105, 99, 104] : List UInt8), 1, 1⟩ : Reading), (⟨([108, 111, 97, 100] : List UInt8), 7, 1⟩ : Reading)] : List Reading)) = true → (K (beqS (writeS engine (readS engine (⟨100, false, false, false, 0, ([1, 7] : List Int)⟩ : Frame)).1).1.Data ([1, 7] : List Int)))) ∧ ((reqS (readS engine (⟨100, false, false, false, 0, ([1, 7] : List Int)⟩ : Frame)).1 ([(⟨([119, 104, 105, 99, 104] : List UInt8), 1, 1⟩ : Reading), (⟨([108, 111, 97, 100] : List UInt8), 7, 1⟩ : Reading)] : List Reading)) = false → (K false)))) ∧ ((((readS engine (⟨100, false, false, false, 0, ([1, 7] : List Int)⟩ : Frame)).2 == 0) && ((writeS engine (readS engine (⟨100, false, false, false, 0, ([1, 7] : List Int)⟩ : Frame)).1).2 == 0)) = false → (K false))))))))
theorem meant_ok : meant_vc (fun r => r = true) := by
 intro _
 refine ⟨by unfold isBytes; decide, fun _ _ _ => ⟨fun _ => ⟨fun _ => ?_, fun h => absurd h (by decide +kernel)⟩, fun h => absurd h (by decide +kernel)⟩⟩
 decide +kernel
end Go.Proofs.YtdndfbamhnchfaaGreatDoor
set_option linter.unusedVariables false
set_option linter.unusedSimpArgs false
namespace Go.Proofs.YtdndfbamhnchfaaGreatDoor
open Go.Sy Go.RowKit
def iidxf_vc (u0 : List Int) (u1 : Int → Bool) (K : Int → Prop) : Prop := (u0.length ≤ 140737488355328 → (∃ inv20 : Int → Prop, ∃ mu20 : Int → Nat, inv20 0 ∧ (∀ (x8 : Int), inv20 x8 → (((decide (x8 < (u0.length : Int))) = true → ((0 ≤ x8 ∧ x8 < (u0.length : Int)) ∧ (∀ q55, u0[x8.toNat]? = some q55 → (((u1 q55) = true → (K x8)) ∧ ((u1 q55) = false → (inv20 (w64 (x8 + 1)) ∧ mu20 (w64 (x8 + 1)) < mu20 x8)))))) ∧ ((decide (x8 < (u0.length : Int))) = false → (K (-1)))))))
theorem iidxf_mono {u0 : List Int} {u1 : Int → Bool} {K K1 : Int → Prop} (hK : ∀ r, K r → K1 r) (h : iidxf_vc u0 u1 K) : iidxf_vc u0 u1 K1 :=
 fun z0 => (Exists.elim (h z0) fun i1 e1 => Exists.elim e1 fun m1 g1 => ⟨i1, m1, g1.1, fun x8 z1 => ⟨fun c2 => ⟨((g1.2 x8 z1).1 c2).1, fun y4 z4 => ⟨fun c5 => hK _ ((((g1.2 x8 z1).1 c2).2 y4 z4).1 c5), fun c5 => ((((g1.2 x8 z1).1 c2).2 y4 z4).2 c5)⟩⟩, fun c2 => hK _ ((g1.2 x8 z1).2 c2)⟩⟩)
def icontf_vc (u0 : List Int) (u1 : Int → Bool) (K : Bool → Prop) : Prop := (u0.length ≤ 140737488355328 → (iidxf_vc u0 u1 fun r17 => (K (decide (r17 ≥ 0)))))
def rplaces_vc (u0 : Signal) (K : (List Int) → Prop) : Prop := ((0 ≤ u0.Size ∧ u0.Size ≤ u0.Size ∧ u0.Size * 8 ≤ 140737488355328) ∧ (((!u0.Back) = true → (∃ inv41 : Int → (List Int) → Prop, ∃ mu41 : Int → (List Int) → Nat, inv41 0 (List.replicate u0.Size.toNat (0 : Int)) ∧ (∀ (x16 : Int) (zg160 : List Int), inv41 x16 zg160 → (((decide (x16 < ((List.replicate u0.Size.toNat (0 : Int)).length : Int))) = true → ((0 ≤ x16 ∧ x16 < (zg160.length : Int)) ∧ (inv41 (w64 (x16 + 1)) (zg160.set x16.toNat (w64 (u0.Start + x16))) ∧ mu41 (w64 (x16 + 1)) (zg160.set x16.toNat (w64 (u0.Start + x16))) < mu41 x16 zg160))) ∧ ((decide (x16 < ((List.replicate u0.Size.toNat (0 : Int)).length : Int))) = false → (K zg160)))))) ∧ ((!u0.Back) = false → (∃ inv128 : Int → (List Int) → Prop, ∃ mu128 : Int → (List Int) → Nat, inv128 0 (List.replicate u0.Size.toNat (0 : Int)) ∧ (∀ (x39 : Int) (zg160 : List Int), inv128 x39 zg160 → (((decide (x39 < ((List.replicate u0.Size.toNat (0 : Int)).length : Int))) = true → ((0 ≤ x39 ∧ x39 < (zg160.length : Int)) ∧ (inv128 (w64 (x39 + 1)) (zg160.set x39.toNat (w64 ((w64 ((w64 ((w64 ((w64 ((w64 ((w64 ((w64 ((w64 ((w64 ((w64 (u0.Start.tdiv 8)) * 8)) + 7)) - (u0.Start.tmod 8))) + u0.Size)) - 1)) - x39)).tdiv 8)) * 8)) + 7)) - ((w64 ((w64 ((w64 ((w64 ((w64 ((w64 ((w64 (u0.Start.tdiv 8)) * 8)) + 7)) - (u0.Start.tmod 8))) + u0.Size)) - 1)) - x39)).tmod 8)))) ∧ mu128 (w64 (x39 + 1)) (zg160.set x39.toNat (w64 ((w64 ((w64 ((w64 ((w64 ((w64 ((w64 ((w64 ((w64 ((w64 ((w64 (u0.Start.tdiv 8)) * 8)) + 7)) - (u0.Start.tmod 8))) + u0.Size)) - 1)) - x39)).tdiv 8)) * 8)) + 7)) - ((w64 ((w64 ((w64 ((w64 ((w64 ((w64 ((w64 (u0.Start.tdiv 8)) * 8)) + 7)) - (u0.Start.tmod 8))) + u0.Size)) - 1)) - x39)).tmod 8)))) < mu128 x39 zg160))) ∧ ((decide (x39 < ((List.replicate u0.Size.toNat (0 : Int)).length : Int))) = false → (K zg160))))))))
def rin_vc (u0 : Int) (u1 : Int) (u2 : Int) (K : Bool → Prop) : Prop := (K ((decide (u0 ≥ u1)) && (decide (u0 ≤ u2))))
def rin (u0 : Int) (u1 : Int) (u2 : Int) : Bool :=
 (decide (u0 ≥ u1)) && (decide (u0 ≤ u2))
theorem rin_ok (u0 : Int) (u1 : Int) (u2 : Int) : rin_vc u0 u1 u2 (fun r => r = rin u0 u1 u2) := (by rfl)
def trimS (l cs : List UInt8) : List UInt8 := ((l.reverse.dropWhile (cs.contains ·)).reverse).dropWhile (cs.contains ·)
theorem dropWhile_nil {α : Type} (p : α → Bool) (l : List α) : l.dropWhile p = [] ↔ l.all p = true := by
 induction l with
 | nil => simp
 | cons x l ih =>
  rw [List.dropWhile_cons]
  cases h : p x <;> simp [h, ih]
def plT (s : Signal) (i : Nat) : Int := if s.Back = true then (lin (lin s.Start.toNat + (s.Size.toNat - 1 - i)) : Int) else ((s.Start.toNat + i : Nat) : Int)
theorem places_T (s : Signal) : placesS s = (List.range s.Size.toNat).map (plT s) := by
 unfold placesS plS plN
 apply List.ext_getElem?
 intro k
 by_cases hB : s.Back = true
 · rw [if_pos hB, List.map_reverse, List.map_map]
   by_cases hk : k < s.Size.toNat
   · rw [List.getElem?_reverse (by simpa using hk), List.length_map, List.length_range, List.getElem?_map, List.getElem?_map, List.getElem?_range (by omega), List.getElem?_range hk]
     show some (((fp s.Back s.Start.toNat (s.Size.toNat - 1 - k) : Nat) : Int)) = some (plT s k)
     unfold fp plT
     rw [if_pos hB, if_pos hB]
   · rw [List.getElem?_eq_none (by simp; omega), List.getElem?_eq_none (by simp; omega)]
 · rw [if_neg hB, List.map_map, List.getElem?_map, List.getElem?_map]
   congr 1
   funext i
   show ((fp s.Back s.Start.toNat i : Nat) : Int) = plT s i
   unfold fp plT
   rw [if_neg hB, if_neg hB]
theorem fill_set (T : Nat → Int) (n i : Nat) (h : i < n) : ((List.range i).map T ++ List.replicate (n - i) (0 : Int)).set i (T i) = (List.range (i + 1)).map T ++ List.replicate (n - (i + 1)) 0 := by
 obtain ⟨m, hm⟩ : ∃ m, n - i = m + 1 := ⟨n - i - 1, by omega⟩
 have hm2 : n - (i + 1) = m := by omega
 rw [hm, hm2, List.set_append_right _ _ (by simp), List.length_map, List.length_range, Nat.sub_self, List.replicate_succ, List.set_cons_zero, List.range_succ, List.map_append, List.append_assoc]
 rfl
theorem rplaces_ok (s : Signal) (h : (0 ≤ s.Start ∧ s.Start ≤ 512) ∧ 1 ≤ s.Size ∧ s.Size ≤ 40) : rplaces_vc s (fun r => r = placesS s) := by
 obtain ⟨⟨h1, h2⟩, h3, h4⟩ := h
 rw [places_T]
 have hbase : ((List.range 0).map (plT s) ++ List.replicate (s.Size.toNat - 0) (0 : Int)) = List.replicate s.Size.toNat (0 : Int) := by simp
 refine ⟨by omega, fun hB => ?_, fun hB => ?_⟩
 · have hB : s.Back = false := by simpa using hB
   refine ⟨fun i l => ∃ k : Nat, i = k ∧ k ≤ s.Size.toNat ∧ l = (List.range k).map (plT s) ++ List.replicate (s.Size.toNat - k) (0 : Int), fun i _ => s.Size.toNat - i.toNat, ⟨0, rfl, by omega, hbase.symm⟩, ?_⟩
   rintro _ _ ⟨k, rfl, hk, rfl⟩
   rw [List.length_replicate]
   refine ⟨fun hc => ?_, fun hc => ?_⟩
   · have hc := of_decide_eq_true hc
     have hT : w64 (s.Start + (k : Int)) = plT s k := by
      unfold plT
      rw [if_neg (by rw [hB]; decide), w64_eq _ (by omega)]
      omega
     rw [hT, Int.toNat_natCast, fill_set _ _ _ (by omega), w64_succ k (by omega)]
     exact ⟨by simp; omega, ⟨k + 1, rfl, by omega, rfl⟩, by (try dsimp only); omega⟩
   · have hc := of_decide_eq_false hc
     have : k = s.Size.toNat := by omega
     subst this
     rw [Nat.sub_self, List.replicate_zero, List.append_nil]
 · have hB : s.Back = true := by simpa using hB
   refine ⟨fun i l => ∃ k : Nat, i = k ∧ k ≤ s.Size.toNat ∧ l = (List.range k).map (plT s) ++ List.replicate (s.Size.toNat - k) (0 : Int), fun i _ => s.Size.toNat - i.toNat, ⟨0, rfl, by omega, hbase.symm⟩, ?_⟩
   rintro _ _ ⟨k, rfl, hk, rfl⟩
   rw [List.length_replicate]
   refine ⟨fun hc => ?_, fun hc => ?_⟩
   · have hc := of_decide_eq_true hc
     obtain ⟨st, hst⟩ : ∃ st : Nat, s.Start = st := ⟨s.Start.toNat, by omega⟩
     obtain ⟨n, hn⟩ : ∃ n : Nat, s.Size = n := ⟨s.Size.toNat, by omega⟩
     have e1 : w64 ((st : Int).tdiv 8) = ((st / 8 : Nat) : Int) := by rw [Int.tdiv_eq_ediv_of_nonneg (by omega), w64_eq _ (by omega)]; omega
     have e2 : (st : Int).tmod 8 = ((st % 8 : Nat) : Int) := by rw [Int.tmod_eq_emod_of_nonneg (by omega)]; omega
     have e3 : w64 (((st / 8 : Nat) : Int) * 8) = ((st / 8 * 8 : Nat) : Int) := by rw [w64_eq _ (by omega)]; omega
     have e4 : w64 (((st / 8 * 8 : Nat) : Int) + 7) = ((st / 8 * 8 + 7 : Nat) : Int) := by rw [w64_eq _ (by omega)]; omega
     have e5 : w64 (((st / 8 * 8 + 7 : Nat) : Int) - ((st % 8 : Nat) : Int)) = ((lin st : Nat) : Int) := by unfold lin; rw [w64_eq _ (by omega)]; omega
     have hlin : lin st ≤ 600 := by unfold lin; omega
     have e6 : w64 (((lin st : Nat) : Int) + (n : Int)) = ((lin st + n : Nat) : Int) := by rw [w64_eq _ (by omega)]; omega
     have e7 : w64 (((lin st + n : Nat) : Int) - 1) = ((lin st + n - 1 : Nat) : Int) := by rw [w64_eq _ (by omega)]; omega
     have e8 : w64 (((lin st + n - 1 : Nat) : Int) - (k : Int)) = ((lin st + (n - 1 - k) : Nat) : Int) := by
      have hkn : k < n := by omega
      rw [w64_eq _ (by omega)]
      omega
     have hn' : s.Size.toNat = n := by omega
     have hs' : s.Start.toNat = st := by omega
     have hT : plT s k = ((lin (lin st + (n - 1 - k)) : Nat) : Int) := by unfold plT; rw [if_pos hB, hs', hn']
     have hm : lin st + (n - 1 - k) ≤ 700 := by omega
     rw [hst, hn]
     rw [e1, e2, e3, e4, e5, e6, e7, e8]
     clear e1 e2 e3 e4 e5 e6 e7 e8
     generalize lin st + (n - 1 - k) = m at *
     have f1 : w64 ((m : Int).tdiv 8) = ((m / 8 : Nat) : Int) := by rw [Int.tdiv_eq_ediv_of_nonneg (by omega), w64_eq _ (by omega)]; omega
     have f2 : (m : Int).tmod 8 = ((m % 8 : Nat) : Int) := by rw [Int.tmod_eq_emod_of_nonneg (by omega)]; omega
     have f3 : w64 (((m / 8 : Nat) : Int) * 8) = ((m / 8 * 8 : Nat) : Int) := by rw [w64_eq _ (by omega)]; omega
     have f4 : w64 (((m / 8 * 8 : Nat) : Int) + 7) = ((m / 8 * 8 + 7 : Nat) : Int) := by rw [w64_eq _ (by omega)]; omega
     have f5 : w64 (((m / 8 * 8 + 7 : Nat) : Int) - ((m % 8 : Nat) : Int)) = ((lin m : Nat) : Int) := by unfold lin; rw [w64_eq _ (by omega)]; omega
     rw [f1, f2, f3, f4, f5, ← hT, Int.toNat_natCast, Int.toNat_natCast, fill_set _ _ _ (by omega), w64_succ k (by omega)]
     exact ⟨by simp; omega, ⟨k + 1, rfl, by omega, rfl⟩, by (try dsimp only); omega⟩
   · have hc := of_decide_eq_false hc
     have : k = s.Size.toNat := by omega
     subst this
     rw [Nat.sub_self, List.replicate_zero, List.append_nil]
theorem iidxf_ok (l : List Int) (p : Int → Bool) : iidxf_vc l p (fun r => r = sidx p l) := by
 intro hl
 refine rg0 hl (fun k => ∀ j y, j < k → l[j]? = some y → p y = false) (fun j y h => absurd h (Nat.not_lt_zero _)) ?_ ?_
 · intro k q hk hq hj inv mu hn
   refine ⟨fun h => (sidx_at _ l k q hq h hj).symm, fun h => hn fun j y hj1 hy => ?_⟩
   rcases Nat.lt_or_ge j k with h1 | h1
   · exact hj j y h1 hy
   · have : j = k := by omega
     subst this
     rw [hq] at hy
     cases hy
     exact h
 · intro hj
   refine (sidx_none _ l fun j y hy => hj j y (List.getElem?_eq_some_iff.1 hy).1 hy).symm
def icontfS (l : List Int) (p : Int → Bool) : Bool := l.any p
theorem icontf_ok (l : List Int) (p : Int → Bool) : icontf_vc l p (fun r => r = icontfS l p) := fun _ => iidxf_mono (fun r h => by subst h; exact sidx_ge _ l) (iidxf_ok l p)
end Go.Proofs.YtdndfbamhnchfaaGreatDoor
set_option linter.unusedVariables false
set_option linter.unusedSimpArgs false
namespace Go.Proofs.YtdndfbamhnchfaaGreatDoor
open Go.Sy Go.RowKit
def risname_vc (u0 : List UInt8) (K : Bool → Prop) : Prop := ((((u0 == ([] : List UInt8)) || (decide ((u0.length : Int) > 16))) = true → (K false)) ∧ (((u0 == ([] : List UInt8)) || (decide ((u0.length : Int) > 16))) = false → ((0 ≤ (0 : Int) ∧ (0 : Int) < (u0.length : Int)) ∧ (∀ c52, u0[(0 : Int).toNat]? = some c52 → (((decide ((c52.toNat : Int) ≥ 48)) = true → ((0 ≤ (0 : Int) ∧ (0 : Int) < (u0.length : Int)) ∧ (∀ c68, u0[(0 : Int).toNat]? = some c68 → (((decide ((c68.toNat : Int) ≤ 57)) = true → (K false)) ∧ ((decide ((c68.toNat : Int) ≤ 57)) = false → ((u0.length ≤ 9223372036854775807 ∧ ([97, 98, 99, 100, 101, 102, 103, 104, 105, 106, 107, 108, 109, 110, 111, 112, 113, 114, 115, 116, 117, 118, 119, 120, 121, 122, 65, 66, 67, 68, 69, 70, 71, 72, 73, 74, 75, 76, 77, 78, 79, 80, 81, 82, 83, 84, 85, 86, 87, 88, 89, 90, 48, 49, 50, 51, 52, 53, 54, 55, 56, 57] : List UInt8).length < 4294967281 ∧ ([97, 98, 99, 100, 101, 102, 103, 104, 105, 106, 107, 108, 109, 110, 111, 112, 113, 114, 115, 116, 117, 118, 119, 120, 121, 122, 65, 66, 67, 68, 69, 70, 71, 72, 73, 74, 75, 76, 77, 78, 79, 80, 81, 82, 83, 84, 85, 86, 87, 88, 89, 90, 48, 49, 50, 51, 52, 53, 54, 55, 56, 57] : List UInt8).all (fun b => decide (b.toNat < 128)) = true) ∧ (K ((trimS u0 ([97, 98, 99, 100, 101, 102, 103, 104, 105, 106, 107, 108, 109, 110, 111, 112, 113, 114, 115, 116, 117, 118, 119, 120, 121, 122, 65, 66, 67, 68, 69, 70, 71, 72, 73, 74, 75, 76, 77, 78, 79, 80, 81, 82, 83, 84, 85, 86, 87, 88, 89, 90, 48, 49, 50, 51, 52, 53, 54, 55, 56, 57] : List UInt8)) == ([] : List UInt8))))))))) ∧ ((decide ((c52.toNat : Int) ≥ 48)) = false → ((u0.length ≤ 9223372036854775807 ∧ ([97, 98, 99, 100, 101, 102, 103, 104, 105, 106, 107, 108, 109, 110, 111, 112, 113, 114, 115, 116, 117, 118, 119, 120, 121, 122, 65, 66, 67, 68, 69, 70, 71, 72, 73, 74, 75, 76, 77, 78, 79, 80, 81, 82, 83, 84, 85, 86, 87, 88, 89, 90, 48, 49, 50, 51, 52, 53, 54, 55, 56, 57] : List UInt8).length < 4294967281 ∧ ([97, 98, 99, 100, 101, 102, 103, 104, 105, 106, 107, 108, 109, 110, 111, 112, 113, 114, 115, 116, 117, 118, 119, 120, 121, 122, 65, 66, 67, 68, 69, 70, 71, 72, 73, 74, 75, 76, 77, 78, 79, 80, 81, 82, 83, 84, 85, 86, 87, 88, 89, 90, 48, 49, 50, 51, 52, 53, 54, 55, 56, 57] : List UInt8).all (fun b => decide (b.toNat < 128)) = true) ∧ (K ((trimS u0 ([97, 98, 99, 100, 101, 102, 103, 104, 105, 106, 107, 108, 109, 110, 111, 112, 113, 114, 115, 116, 117, 118, 119, 120, 121, 122, 65, 66, 67, 68, 69, 70, 71, 72, 73, 74, 75, 76, 77, 78, 79, 80, 81, 82, 83, 84, 85, 86, 87, 88, 89, 90, 48, 49, 50, 51, 52, 53, 54, 55, 56, 57] : List UInt8)) == ([] : List UInt8))))))))))
def rov1_vc (u0 : Int) (u1 : List Int) (K : Bool → Prop) : Prop := (K (scontainsS u1 u0))
def rov1 (u0 : Int) (u1 : List Int) : Bool :=
 (scontainsS u1 u0)
theorem rov1_ok (u0 : Int) (u1 : List Int) : rov1_vc u0 u1 (fun r => r = rov1 u0 u1) := (by rfl)
def rrawof_vc (u0 : Signal) (u1 : List Int) (K : Int → Prop) : Prop := (u1.length ≤ 140737488355328 → (((0 ≤ u0.Start ∧ u0.Start ≤ 512) ∧ 1 ≤ u0.Size ∧ u0.Size ≤ 40) ∧ ((placesS u0).length ≤ 140737488355328 → (∃ inv36 : Int → Int → Prop, ∃ mu36 : Int → Int → Nat, inv36 0 0 ∧ (∀ (x5 : Int) (x11 : Int), inv36 x5 x11 → (((decide (x11 < ((placesS u0).length : Int))) = true → (∃ inv60 : Int → Prop, ((0 ≤ x11 ∧ x11 < ((placesS u0).length : Int)) ∧ (∀ q86, (placesS u0)[x11.toNat]? = some q86 → ((0 ≤ w64 (q86.tdiv 8) ∧ w64 (q86.tdiv 8) < (u1.length : Int)) ∧ (∀ q116, u1[(w64 (q86.tdiv 8)).toNat]? = some q116 → ((0 ≤ q86.tmod 8) ∧ ((((bAnd .u8 q116 (bShl .u8 1 (q86.tmod 8))) != 0) = true → ((0 ≤ x11) ∧ (inv60 (w64 (x5 + (bShl .i64 1 x11)))))) ∧ (((bAnd .u8 q116 (bShl .u8 1 (q86.tmod 8))) != 0) = false → (inv60 x5)))))))) ∧ (∀ (x5v : Int), inv60 x5v → (inv36 x5v (w64 (x11 + 1)) ∧ mu36 x5v (w64 (x11 + 1)) < mu36 x5 x11)))) ∧ ((decide (x11 < ((placesS u0).length : Int))) = false → ((u0.Signed = true → ((0 ≤ w64 (u0.Size - 1)) ∧ (((decide (x5 ≥ (bShl .i64 1 (w64 (u0.Size - 1))))) = true → ((0 ≤ u0.Size) ∧ (K (w64 (x5 - (bShl .i64 1 u0.Size)))))) ∧ ((decide (x5 ≥ (bShl .i64 1 (w64 (u0.Size - 1))))) = false → (K x5))))) ∧ (u0.Signed = false → (K x5))))))))))
def rsetraw_vc (u0 : Signal) (u1 : List Int) (u2 : Int) (K : (List Int) → Prop) : Prop := (u1.length ≤ 140737488355328 → ((u1.length ≤ 140737488355328) ∧ ((bcloneS u1).length ≤ 140737488355328 → (((0 ≤ u0.Start ∧ u0.Start ≤ 512) ∧ 1 ≤ u0.Size ∧ u0.Size ≤ 40) ∧ ((placesS u0).length ≤ 140737488355328 → (∃ inv50 : Int → (List Int) → Prop, ∃ mu50 : Int → (List Int) → Nat, inv50 0 (bcloneS u1) ∧ (∀ (x16 : Int) (zao22 : List Int), inv50 x16 zao22 → (((decide (x16 < ((placesS u0).length : Int))) = true → (∃ inv74 : (List Int) → Prop, ((0 ≤ x16 ∧ x16 < ((placesS u0).length : Int)) ∧ (∀ q100, (placesS u0)[x16.toNat]? = some q100 → ((0 ≤ q100.tmod 8) ∧ ((0 ≤ x16) ∧ ((((bAnd .i64 (bShr .i64 u2 x16) 1) == 1) = true → ((0 ≤ w64 (q100.tdiv 8) ∧ w64 (q100.tdiv 8) < (zao22.length : Int)) ∧ (∀ q152, zao22[(w64 (q100.tdiv 8)).toNat]? = some q152 → ((0 ≤ w64 (q100.tdiv 8) ∧ w64 (q100.tdiv 8) < (zao22.length : Int)) ∧ (inv74 (zao22.set (w64 (q100.tdiv 8)).toNat (bOr .u8 q152 (bShl .u8 1 (q100.tmod 8))))))))) ∧ (((bAnd .i64 (bShr .i64 u2 x16) 1) == 1) = false → ((0 ≤ w64 (q100.tdiv 8) ∧ w64 (q100.tdiv 8) < (zao22.length : Int)) ∧ (∀ q188, zao22[(w64 (q100.tdiv 8)).toNat]? = some q188 → ((0 ≤ w64 (q100.tdiv 8) ∧ w64 (q100.tdiv 8) < (zao22.length : Int)) ∧ (inv74 (zao22.set (w64 (q100.tdiv 8)).toNat (bAnd .u8 q188 (w8 (255 - (bShl .u8 1 (q100.tmod 8)))))))))))))))) ∧ (∀ (zao22v : List Int), inv74 zao22v → (inv50 (w64 (x16 + 1)) zao22v ∧ mu50 (w64 (x16 + 1)) zao22v < mu50 x16 zao22)))) ∧ ((decide (x16 < ((placesS u0).length : Int))) = false → (K zao22))))))))))
theorem mask_all : ∀ (d : Fin 256) (k : Fin 8), (bAnd .u8 (d.val : Int) (bShl .u8 1 (k.val : Int)) != 0) = d.val.testBit k.val := by decide +kernel
theorem got_mask {d : List Int} (h : isBytes d) {p : Nat} {q : Int} (hq : d[p / 8]? = some q) : (bAnd .u8 q (bShl .u8 1 ((p % 8 : Nat) : Int)) != 0) = bitat d p := by
 obtain ⟨n, hn, hl⟩ := byte_at h (p / 8)
 rw [hq, Option.getD_some] at hn
 subst hn
 unfold bitat
 rw [hq, Option.getD_some, Int.toNat_natCast]
 exact mask_all ⟨n, hl⟩ ⟨p % 8, Nat.mod_lt _ (by decide)⟩
theorem rrawof_ok (s : Signal) (d : List Int) (h : inD s d) : rrawof_vc s d (fun r => r = getS s d) := by
 obtain ⟨⟨h1, h2, h3⟩, hd, hp⟩ := h
 have hl := places_len s
 have hpl := plS_len s
 intro _
 refine ⟨⟨h1, h2, h3⟩, fun _ => ⟨fun x i => ∃ k : Nat, i = k ∧ k ≤ s.Size.toNat ∧ x = ((vb (((plS s).take k).map (bitat d)) : Nat) : Int), fun _ i => s.Size.toNat - i.toNat, ⟨0, rfl, by omega, rfl⟩, ?_⟩⟩
 rintro _ _ ⟨k, rfl, hk, rfl⟩
 have hv := vb_lt (((plS s).take k).map (bitat d))
 rw [List.length_map, List.length_take, hpl, Nat.min_eq_left hk] at hv
 refine ⟨fun hc => ?_, fun hc => ?_⟩
 · have hc := of_decide_eq_true hc
   have hkl : k < s.Size.toNat := by omega
   have hk39 : k ≤ 39 := by omega
   have hpw : 2 ^ k ≤ 2 ^ 39 := Nat.pow_le_pow_right (by omega) hk39
   refine ⟨fun x => x = ((vb (((plS s).take (k + 1)).map (bitat d)) : Nat) : Int), ⟨by omega, fun q hq => ?_⟩, ?_⟩
   · rw [Int.toNat_natCast] at hq
     obtain ⟨p, hp1, rfl, hp2⟩ := place_at hq
     have hlt := hp p hp2
     have hfp : p < 1000000 := by
      have : p < 8 * d.length := hlt
      unfold plS plN at hp2
      have hb : ∀ j, j ∈ (List.range s.Size.toNat).map (fp s.Back s.Start.toNat) → j < 1000000 := by
       intro j hj
       obtain ⟨i, hi, rfl⟩ := List.mem_map.1 hj
       have := List.mem_range.1 hi
       have := fp_le s.Back s.Start.toNat i
       omega
      split at hp2
      · exact hb p (List.mem_reverse.1 hp2)
      · exact hb p hp2
     obtain ⟨d1, d2⟩ := div8 p hfp
     rw [d1, d2, Int.toNat_natCast]
     have hnext : vb (((plS s).take (k + 1)).map (bitat d)) = vb (((plS s).take k).map (bitat d)) + 2 ^ k * (if bitat d p = true then 1 else 0) := by
      rw [List.take_add_one, hp1, List.map_append, vb_append, List.length_map, List.length_take, hpl, Nat.min_eq_left hk]
      congr 2
     refine ⟨by omega, fun q hq2 => ⟨by omega, fun h5 => ⟨by omega, ?_⟩, fun h5 => ?_⟩⟩
     · rw [got_mask hd hq2] at h5
       rw [hnext, h5, if_pos rfl, Nat.mul_one, shl_one k (by omega), w64_eq _ (by omega)]
       try norm_cast
     · rw [got_mask hd hq2] at h5
       rw [hnext, h5, if_neg (by simp), Nat.mul_zero, Nat.add_zero]
   · rintro _ rfl
     rw [w64_succ k (by omega)]
     exact ⟨⟨k + 1, rfl, by omega, rfl⟩, by (try dsimp only); omega⟩
 · have hc := of_decide_eq_false hc
   have hkk : k = s.Size.toNat := by omega
   subst hkk
   have e : ((plS s).take s.Size.toNat) = plS s := by rw [← hpl, List.take_length]
   rw [e] at hv ⊢
   have hg : getS s d = sgn s.Signed s.Size.toNat ((vb ((plS s).map (bitat d)) : Nat) : Int) := rfl
   rw [hg]
   generalize vb ((plS s).map (bitat d)) = v at *
   obtain ⟨m, hm⟩ : ∃ m, s.Size.toNat = m + 1 := ⟨s.Size.toNat - 1, by omega⟩
   have e1 : w64 (s.Size - 1) = (m : Int) := by rw [w64_eq _ (by omega)]; omega
   have hb : 1 ≤ 2 ^ m ∧ 2 ^ m ≤ 549755813888 := ⟨Nat.one_le_two_pow, Nat.pow_le_pow_right (by omega : 0 < 2) (by omega : m ≤ 39)⟩
   rw [hm, Nat.pow_succ] at hv
   have c : ((2 ^ m : Nat) : Int) = (2 : Int) ^ m := by norm_cast
   refine ⟨fun hS => ⟨by omega, ?_⟩, fun hS => ?_⟩
   · rw [e1, shl_one m (by omega)]
     refine ⟨fun h5 => ⟨by omega, ?_⟩, fun h5 => ?_⟩
     · have h5 := of_decide_eq_true h5
       have e2 : s.Size = ((m + 1 : Nat) : Int) := by omega
       have c2 : ((2 ^ (m + 1) : Nat) : Int) = (2 : Int) ^ (m + 1) := by norm_cast
       have hs : sgn s.Signed s.Size.toNat (v : Int) = (v : Int) - ((2 ^ (m + 1) : Nat) : Int) := by
        unfold sgn
        rw [hm, Nat.add_sub_cancel, if_pos ⟨hS, by rw [← c]; omega⟩, ← c2]
       rw [hs, e2, shl_one _ (by omega), w64_eq _ (by rw [Nat.pow_succ]; omega)]
     · have h5 := of_decide_eq_false h5
       unfold sgn
       rw [hm, Nat.add_sub_cancel, if_neg (by rintro ⟨_, h6⟩; rw [← c] at h6; omega)]
   · unfold sgn
     rw [if_neg (by rintro ⟨h6, _⟩; rw [hS] at h6; cases h6)]
theorem put_one : ∀ (d : Fin 256) (k : Fin 8), bOr .u8 (d.val : Int) (bShl .u8 1 (k.val : Int)) = sb d.val k.val 1 ∧ bAnd .u8 (d.val : Int) (w8 (255 - bShl .u8 1 (k.val : Int))) = sb d.val k.val 0 := by decide +kernel
theorem rsetraw_ok (s : Signal) (d : List Int) (n : Int) (h : inD s d) : rsetraw_vc s d n (fun r => r = putS s d n) := by
 obtain ⟨⟨h1, h2, h3⟩, hd, hp⟩ := h
 have hl := places_len s
 have hpl := plS_len s
 intro hdl
 refine ⟨hdl, fun _ => ⟨⟨h1, h2, h3⟩, fun _ => ⟨fun i x => ∃ k : Nat, i = k ∧ k ≤ s.Size.toNat ∧ x = putF n 0 ((plS s).take k) d, fun i _ => s.Size.toNat - i.toNat, ⟨0, rfl, by omega, rfl⟩, ?_⟩⟩⟩
 rintro _ _ ⟨k, rfl, hk, rfl⟩
 have hlen := putF_len n ((plS s).take k) 0 d
 have hby := putF_bytes n ((plS s).take k) 0 d hd
 refine ⟨fun hc => ?_, fun hc => ?_⟩
 · have hc := of_decide_eq_true hc
   refine ⟨fun x => x = putF n 0 ((plS s).take (k + 1)) d, ⟨by omega, fun q hq => ?_⟩, ?_⟩
   · rw [Int.toNat_natCast] at hq
     obtain ⟨p, hp1, rfl, hp2⟩ := place_at hq
     have hlt := hp p hp2
     have hfp : p < 1000000 := by
      unfold plS plN at hp2
      have hb : ∀ j, j ∈ (List.range s.Size.toNat).map (fp s.Back s.Start.toNat) → j < 1000000 := by
       intro j hj
       obtain ⟨i, hi, rfl⟩ := List.mem_map.1 hj
       have := List.mem_range.1 hi
       have := fp_le s.Back s.Start.toNat i
       omega
      split at hp2
      · exact hb p (List.mem_reverse.1 hp2)
      · exact hb p hp2
     obtain ⟨d1, d2⟩ := div8 p hfp
     rw [d1, d2, Int.toNat_natCast]
     have hnext : putF n 0 ((plS s).take (k + 1)) d = set1 (putF n 0 ((plS s).take k) d) p (nb n k) := by
      rw [List.take_add_one, hp1]
      show putF n 0 (List.take k (plS s) ++ [p]) d = _
      rw [putF_snoc, List.length_take, hpl, Nat.min_eq_left hk, Nat.zero_add]
     have hbit : (bAnd .i64 (bShr .i64 n (k : Int)) 1 == 1) = nb n k := by
      rw [shr_any _ _ (by omega), and_one]
      unfold nb
      have e0 : ((2 ^ k : Nat) : Int) = (2 : Int) ^ k := by norm_cast
      try rw [e0]
      rw [Bool.eq_iff_iff, beq_iff_eq, decide_eq_true_eq]
     have key : ∀ q, (putF n 0 ((plS s).take k) d)[p / 8]? = some q → bOr .u8 q (bShl .u8 1 ((p % 8 : Nat) : Int)) = sb q ((p % 8 : Nat) : Int) 1 ∧ bAnd .u8 q (w8 (255 - bShl .u8 1 ((p % 8 : Nat) : Int))) = sb q ((p % 8 : Nat) : Int) 0 := by
      intro q hq
      obtain ⟨m, hm, hl⟩ := byte_at hby (p / 8)
      rw [hq, Option.getD_some] at hm
      subst hm
      exact put_one ⟨m, hl⟩ ⟨p % 8, Nat.mod_lt _ (by decide)⟩
     refine ⟨by omega, by omega, fun h5 => ⟨by omega, fun q hq2 => ⟨by omega, ?_⟩⟩, fun h5 => ⟨by omega, fun q hq2 => ⟨by omega, ?_⟩⟩⟩
     · rw [hbit] at h5
       rw [hnext, h5, (key q hq2).1]
       unfold set1
       rw [hq2, Option.getD_some]
       rfl
     · rw [hbit] at h5
       rw [hnext, h5, (key q hq2).2]
       unfold set1
       rw [hq2, Option.getD_some]
       rfl
   · rintro _ rfl
     rw [w64_succ k (by omega)]
     exact ⟨⟨k + 1, rfl, by omega, rfl⟩, by (try dsimp only); omega⟩
 · have hc := of_decide_eq_false hc
   have hkk : k = s.Size.toNat := by omega
   subst hkk
   unfold putS
   rw [← hpl, List.take_length]
def lds : List UInt8 := [97, 98, 99, 100, 101, 102, 103, 104, 105, 106, 107, 108, 109, 110, 111, 112, 113, 114, 115, 116, 117, 118, 119, 120, 121, 122, 65, 66, 67, 68, 69, 70, 71, 72, 73, 74, 75, 76, 77, 78, 79, 80, 81, 82, 83, 84, 85, 86, 87, 88, 89, 90, 48, 49, 50, 51, 52, 53, 54, 55, 56, 57]
theorem lds_at : ∀ n : Fin 256, lds.contains (UInt8.ofNat n.val) = isLD (UInt8.ofNat n.val) := by decide +kernel
theorem lds_eq (c : UInt8) : lds.contains c = isLD c := by
 have h := lds_at ⟨c.toNat, c.toNat_lt⟩
 have e : UInt8.ofNat c.toNat = c := UInt8.ofNat_toNat
 rw [e] at h
 exact h
theorem trim_all (l cs : List UInt8) : trimS l cs = [] ↔ l.all (fun x => cs.contains x) = true := by
 unfold trimS
 rw [dropWhile_nil]
 constructor
 · intro h
   rw [List.all_reverse] at h
   cases hd : l.reverse.dropWhile (cs.contains ·) with
   | nil => rw [dropWhile_nil, List.all_reverse] at hd; exact hd
   | cons x r =>
    have h1 := List.head?_dropWhile_not (fun x => cs.contains x) l.reverse
    rw [hd] at h h1
    rw [List.all_cons, Bool.and_eq_true] at h
    have h1 : cs.contains x = false := by simpa using h1
    rw [h.1] at h1
    cases h1
 · intro h
   have : l.reverse.dropWhile (cs.contains ·) = [] := by rw [dropWhile_nil, List.all_reverse]; exact h
   rw [this]
   rfl
theorem name_trim {c : UInt8} {r : List UInt8} (hl : r.length < 16) (hc : ¬ (48 ≤ c.toNat ∧ c.toNat ≤ 57)) : (trimS (c :: r) lds == ([] : List UInt8)) = nameS (c :: r) := by
 have e : nameS (c :: r) = (isLet c && r.all isLD) := by show (decide (r.length < 16) && isLet c && r.all isLD) = _; rw [decide_eq_true hl, Bool.true_and]
 have hcl : isLD c = isLet c := by
  unfold isLD
  have : (decide (48 ≤ c.toNat) && decide (c.toNat ≤ 57)) = false := by rw [Bool.and_eq_false_iff, decide_eq_false_iff_not, decide_eq_false_iff_not]; omega
  rw [this, Bool.or_false]
 rw [e, Bool.eq_iff_iff, beq_iff_eq, trim_all]
 have hf : (fun x => lds.contains x) = isLD := funext lds_eq
 rw [hf, List.all_cons, hcl]
theorem risname_ok (u : List UInt8) : risname_vc u (fun r => r = nameS u) := by
 refine ⟨fun h => ?_, fun h => ?_⟩
 · rw [Bool.or_eq_true, beq_iff_eq, decide_eq_true_eq] at h
   cases u with
   | nil => rfl
   | cons c r =>
    rcases h with h | h
    · cases h
    · rw [List.length_cons] at h
      show false = (decide (r.length < 16) && isLet c && r.all isLD)
      rw [decide_eq_false (by omega)]
      rfl
 · rw [Bool.or_eq_false_iff, decide_eq_false_iff_not] at h
   cases u with
   | nil => simp at h
   | cons c r =>
    have hl : r.length < 16 := by have := h.2; rw [List.length_cons] at this; omega
    have hlen : (0 : Int) ≤ 0 ∧ (0 : Int) < ((c :: r).length : Int) := ⟨by omega, by rw [List.length_cons]; omega⟩
    have hpre : (c :: r).length ≤ 9223372036854775807 ∧ lds.length < 4294967281 ∧ lds.all (fun b => decide (b.toNat < 128)) = true := ⟨by rw [List.length_cons]; omega, by decide, by decide⟩
    refine ⟨hlen, fun q hq => ⟨fun h1 => ⟨hlen, fun v hv => ⟨fun h2 => ?_, fun h2 => ⟨hpre, ?_⟩⟩⟩, fun h1 => ⟨hpre, ?_⟩⟩⟩
    all_goals
     have hq : c = q := by simpa using hq
     subst hq
    · have hv : c = v := by simpa using hv
      subst hv
      have h1 := of_decide_eq_true h1
      have h2 := of_decide_eq_true h2
      have : isLet c = false := by
       unfold isLet
       rw [Bool.or_eq_false_iff, Bool.and_eq_false_iff, Bool.and_eq_false_iff, decide_eq_false_iff_not, decide_eq_false_iff_not, decide_eq_false_iff_not, decide_eq_false_iff_not]
       omega
      show false = (decide (r.length < 16) && isLet c && r.all isLD)
      rw [this, Bool.and_false, Bool.false_and]
    · have hv : c = v := by simpa using hv
      subst hv
      have h2 := of_decide_eq_false h2
      exact name_trim hl (by omega)
    · have h1 := of_decide_eq_false h1
      exact name_trim hl (by omega)
end Go.Proofs.YtdndfbamhnchfaaGreatDoor
set_option linter.unusedVariables false
set_option linter.unusedSimpArgs false
namespace Go.Proofs.YtdndfbamhnchfaaGreatDoor
open Go.Sy Go.RowKit
def rcheck_vc (u0 : Signal) (u1 : Int) (K : Int → Prop) : Prop := (((!(nameS u0.Name)) = true → (K 1)) ∧ ((!(nameS u0.Name)) = false → (((((((((!(rin u1 0 64)) || (!(rin u0.Size 1 40))) || (u0.Mul == 0)) || (!(rin u0.Mul (-1000000) 1000000))) || (!(rin u0.Div 1 1000000))) || (!(rin u0.Add (-1000000) 1000000))) || (!(rin u0.Key (-1) 255))) = true → (K 3)) ∧ ((((((((!(rin u1 0 64)) || (!(rin u0.Size 1 40))) || (u0.Mul == 0)) || (!(rin u0.Mul (-1000000) 1000000))) || (!(rin u0.Div 1 1000000))) || (!(rin u0.Add (-1000000) 1000000))) || (!(rin u0.Key (-1) 255))) = false → (((!(rin u0.Start 0 (w64 ((w64 (8 * u1)) - 1)))) = true → (K 7)) ∧ ((!(rin u0.Start 0 (w64 ((w64 (8 * u1)) - 1)))) = false → (((0 ≤ u0.Start ∧ u0.Start ≤ 512) ∧ 1 ≤ u0.Size ∧ u0.Size ≤ 40) ∧ ((placesS u0).length ≤ 140737488355328 → (∃ inv189 : Int → Prop, ∃ mu189 : Int → Nat, inv189 0 ∧ (∀ (x67 : Int), inv189 x67 → (((decide (x67 < ((placesS u0).length : Int))) = true → ((0 ≤ x67 ∧ x67 < ((placesS u0).length : Int)) ∧ (∀ q218, (placesS u0)[x67.toNat]? = some q218 → (((decide (q218 ≥ (w64 (8 * u1)))) = true → (K 7)) ∧ ((decide (q218 ≥ (w64 (8 * u1)))) = false → (inv189 (w64 (x67 + 1)) ∧ mu189 (w64 (x67 + 1)) < mu189 x67)))))) ∧ ((decide (x67 < ((placesS u0).length : Int))) = false → (K 0)))))))))))))
def rover_vc (u0 : Signal) (u1 : Signal) (K : Bool → Prop) : Prop := (((0 ≤ u1.Start ∧ u1.Start ≤ 512) ∧ 1 ≤ u1.Size ∧ u1.Size ≤ 40) ∧ ((placesS u1).length ≤ 140737488355328 → (((0 ≤ u0.Start ∧ u0.Start ≤ 512) ∧ 1 ≤ u0.Size ∧ u0.Size ≤ 40) ∧ ((placesS u0).length ≤ 140737488355328 → (K (icontfS (placesS u0) (fun x0 => rov1 x0 (placesS u1))))))))
def rsizes_vc  (K : (List Int) → Prop) : Prop := (K ([0, 1, 2, 3, 4, 5, 6, 7, 8, 12, 16, 20, 24, 32, 48, 64] : List Int))
def rsizes  : (List Int) :=
 ([0, 1, 2, 3, 4, 5, 6, 7, 8, 12, 16, 20, 24, 32, 48, 64] : List Int)
theorem rsizes_ok  : rsizes_vc  (fun r => r = rsizes ) := (by rfl)
def rcheckfr_vc (u0 : Frame) (K : Int → Prop) : Prop := (u0.Data.length ≤ 140737488355328 → ((u0.Long = true → ((((decide (u0.ID < 0)) || (decide (u0.ID > 536870911))) = true → (K 3)) ∧ (((decide (u0.ID < 0)) || (decide (u0.ID > 536870911))) = false → (((u0.Remote && (u0.Fast || ((u0.Data.length : Int) != 0))) = true → (K 4)) ∧ ((u0.Remote && (u0.Fast || ((u0.Data.length : Int) != 0))) = false → (((((decide (u0.Size < 0)) || (decide (u0.Size > 8))) || ((decide (u0.Size > 0)) && (!u0.Remote))) = true → (K 3)) ∧ ((((decide (u0.Size < 0)) || (decide (u0.Size > 8))) || ((decide (u0.Size > 0)) && (!u0.Remote))) = false → ((((decide ((u0.Data.length : Int) > 64)) || ((decide ((u0.Data.length : Int) > 8)) && (!u0.Fast))) = true → (K 2)) ∧ (((decide ((u0.Data.length : Int) > 64)) || ((decide ((u0.Data.length : Int) > 8)) && (!u0.Fast))) = false → (((!(scontainsS rsizes (u0.Data.length : Int))) = true → (K 4)) ∧ ((!(scontainsS rsizes (u0.Data.length : Int))) = false → (K 0)))))))))))) ∧ (u0.Long = false → ((((decide (u0.ID < 0)) || (decide (u0.ID > 2047))) = true → (K 3)) ∧ (((decide (u0.ID < 0)) || (decide (u0.ID > 2047))) = false → (((u0.Remote && (u0.Fast || ((u0.Data.length : Int) != 0))) = true → (K 4)) ∧ ((u0.Remote && (u0.Fast || ((u0.Data.length : Int) != 0))) = false → (((((decide (u0.Size < 0)) || (decide (u0.Size > 8))) || ((decide (u0.Size > 0)) && (!u0.Remote))) = true → (K 3)) ∧ ((((decide (u0.Size < 0)) || (decide (u0.Size > 8))) || ((decide (u0.Size > 0)) && (!u0.Remote))) = false → ((((decide ((u0.Data.length : Int) > 64)) || ((decide ((u0.Data.length : Int) > 8)) && (!u0.Fast))) = true → (K 2)) ∧ (((decide ((u0.Data.length : Int) > 64)) || ((decide ((u0.Data.length : Int) > 8)) && (!u0.Fast))) = false → (((!(scontainsS rsizes (u0.Data.length : Int))) = true → (K 4)) ∧ ((!(scontainsS rsizes (u0.Data.length : Int))) = false → (K 0))))))))))))))
def rthere_vc (u0 : Message) (u1 : Signal) (u2 : List Int) (K : Bool → Prop) : Prop := (u0.Signals.length ≤ 140737488355328 → (u2.length ≤ 140737488355328 → (((u1.Key == (-1)) = true → (K true)) ∧ ((u1.Key == (-1)) = false → ((0 ≤ u0.Chooser ∧ u0.Chooser < (u0.Signals.length : Int)) ∧ (∀ q104, u0.Signals[u0.Chooser.toNat]? = some q104 → ((inD q104 u2) ∧ (K ((getS q104 u2) == u1.Key)))))))))
theorem rin_eq (x a b : Int) : rin x a b = decide (a ≤ x ∧ x ≤ b) := by
 unfold rin
 rw [Bool.eq_iff_iff, Bool.and_eq_true, decide_eq_true_eq, decide_eq_true_eq, decide_eq_true_eq]
theorem rcheck_ok (s : Signal) (n : Int) : rcheck_vc s n (fun r => r = checkS s n) := by
 unfold rcheck_vc
 simp only [rin_eq]
 unfold checkS
 refine ⟨fun h => ?_, fun h => ?_⟩
 · rw [if_pos (by simpa using h)]
 rw [if_neg (by simpa using h)]
 refine ⟨fun h1 => ?_, fun h1 => ?_⟩
 · simp only [Bool.or_eq_true, Bool.not_eq_true', decide_eq_false_iff_not, beq_iff_eq] at h1
   by_cases c1 : n < 0 ∨ 64 < n ∨ s.Size < 1 ∨ 40 < s.Size
   · rw [if_pos c1]
   · rw [if_neg c1]
     by_cases c2 : ¬ factS s
     · rw [if_pos c2]
     · rw [if_neg c2]
       have c2 : factS s := Classical.not_not.1 c2
       unfold factS at c2
       rw [if_pos (by omega)]
 · simp only [Bool.or_eq_false_iff, Bool.not_eq_false', decide_eq_true_eq, beq_eq_false_iff_ne] at h1
   have c1 : ¬ (n < 0 ∨ 64 < n ∨ s.Size < 1 ∨ 40 < s.Size) := by omega
   have c2 : factS s := by unfold factS; omega
   rw [if_neg c1, if_neg (fun hh => hh c2), if_neg (by omega), w64_eq (8 * n) (by omega), w64_eq (8 * n - 1) (by omega)]
   refine ⟨fun h2 => ?_, fun h2 => ?_⟩
   · simp only [Bool.not_eq_true', decide_eq_false_iff_not] at h2
     rw [if_pos (by omega)]
   · simp only [Bool.not_eq_false', decide_eq_true_eq] at h2
     rw [if_neg (by omega)]
     have hpl := plS_len s
     have hl := places_len s
     refine ⟨by omega, fun _ => ⟨fun i => ∃ k : Nat, i = k ∧ k ≤ (plS s).length ∧ ((plS s).take k).any (fun p => decide (8 * n ≤ (p : Int))) = false, fun i => (plS s).length - i.toNat, ⟨0, rfl, by omega, rfl⟩, ?_⟩⟩
     rintro _ ⟨k, rfl, hk, ha⟩
     refine ⟨fun h3 => ?_, fun h3 => ?_⟩
     · have h3 := of_decide_eq_true h3
       refine ⟨by omega, fun q hq => ?_⟩
       rw [Int.toNat_natCast] at hq
       obtain ⟨p, hp, rfl, hm⟩ := place_at hq
       refine ⟨fun h4 => ?_, fun h4 => ?_⟩
       · have h4 : decide (8 * n ≤ (p : Int)) = true := h4
         rw [if_pos (List.any_eq_true.2 ⟨p, hm, h4⟩)]
       · have h4 : decide (8 * n ≤ (p : Int)) = false := h4
         rw [w64_succ k (by omega)]
         refine ⟨⟨k + 1, rfl, by omega, ?_⟩, by (try dsimp only); omega⟩
         rw [List.take_add_one, hp, List.any_append, ha]
         simp only [Option.toList_some, List.any_cons, List.any_nil, Bool.or_false, Bool.false_or]
         exact h4
     · have h3 := of_decide_eq_false h3
       have : k = (plS s).length := by omega
       subst this
       rw [List.take_length] at ha
       rw [if_neg (by rw [ha]; decide)]
def roverS (s t : Signal) : Bool := icontfS (placesS s) (fun x0 => rov1 x0 (placesS t))
theorem rover_ok (s t : Signal) (h : ((0 ≤ s.Start ∧ s.Start ≤ 512) ∧ 1 ≤ s.Size ∧ s.Size ≤ 40) ∧ (0 ≤ t.Start ∧ t.Start ≤ 512) ∧ 1 ≤ t.Size ∧ t.Size ≤ 40) : rover_vc s t (fun r => r = roverS s t) :=
 ⟨h.2, fun _ => ⟨h.1, fun _ => rfl⟩⟩
theorem over_eq {s t : Signal} (h1 : checkS s 64 = 0) (h2 : checkS t 64 = 0) : overS s t = roverS s t := by
 rw [Bool.eq_iff_iff, over_common h1 h2]
 unfold roverS icontfS Common rov1 scontainsS
 rw [List.any_eq_true]
 constructor
 · rintro ⟨p, hp, hq⟩
   exact ⟨p, hp, by rw [List.any_eq_true]; exact ⟨p, hq, by simp⟩⟩
 · rintro ⟨p, hp, hq⟩
   obtain ⟨q, hq, e⟩ := List.any_eq_true.1 hq
   have e : p = q := by simpa using e
   subst e
   exact ⟨p, hp, hq⟩
theorem fcheck_eq (f : Frame) (c1 c2 c3 c4 : Bool) (h1 : c1 = (((decide (f.ID < 0)) || ((!f.Long) && (decide (f.ID > 2047)))) || (decide (f.ID > 536870911)))) (h2 : c2 = (f.Remote && (f.Fast || (decide ((f.Data.length : Int) > 0))))) (h3 : c3 = (((decide (f.Size < 0)) || (decide (f.Size > 8))) || ((!f.Remote) && (f.Size != 0)))) (h4 : c4 = ((decide ((f.Data.length : Int) > 64)) || ((!f.Fast) && (decide ((f.Data.length : Int) > 8))))) : fcheckfr f = bif c1 then 3 else bif c2 then 4 else bif c3 then 3 else bif c4 then 2 else bif !(scontainsS rsizes (f.Data.length : Int)) then 4 else 0 := by
 subst h1 h2 h3 h4
 rfl
theorem rcheckfr_ok (f : Frame) : rcheckfr_vc f (fun r => r = fcheckfr f) := by
 intro _
 have e2 : (f.Remote && (f.Fast || ((f.Data.length : Int) != 0))) = (f.Remote && (f.Fast || (decide ((f.Data.length : Int) > 0)))) := by
  congr 2
  rw [Bool.eq_iff_iff, bne_iff_ne, decide_eq_true_eq]
  omega
 have e3 : (((decide (f.Size < 0)) || (decide (f.Size > 8))) || ((decide (f.Size > 0)) && (!f.Remote))) = (((decide (f.Size < 0)) || (decide (f.Size > 8))) || ((!f.Remote) && (f.Size != 0))) := by
  cases f.Remote
  · rw [Bool.eq_iff_iff]
    simp
    omega
  · simp
 have e4 : ((decide ((f.Data.length : Int) > 64)) || ((decide ((f.Data.length : Int) > 8)) && (!f.Fast))) = ((decide ((f.Data.length : Int) > 64)) || ((!f.Fast) && (decide ((f.Data.length : Int) > 8)))) := by
  rw [Bool.and_comm (decide ((f.Data.length : Int) > 8))]
 refine ⟨fun hL => ?_, fun hL => ?_⟩
 · have e1 : ((decide (f.ID < 0)) || (decide (f.ID > 536870911))) = (((decide (f.ID < 0)) || ((!f.Long) && (decide (f.ID > 2047)))) || (decide (f.ID > 536870911))) := by rw [hL]; simp
   have e := fcheck_eq f _ _ _ _ e1 e2 e3 e4
   rw [e]
   refine ⟨fun g1 => by rw [g1]; rfl, fun g1 => ⟨fun g2 => by rw [g1, g2]; rfl, fun g2 => ⟨fun g3 => by rw [g1, g2, g3]; rfl, fun g3 => ⟨fun g4 => by rw [g1, g2, g3, g4]; rfl, fun g4 => ⟨fun g5 => by rw [g1, g2, g3, g4, g5]; rfl, fun g5 => by rw [g1, g2, g3, g4, g5]; rfl⟩⟩⟩⟩⟩
 · have e1 : ((decide (f.ID < 0)) || (decide (f.ID > 2047))) = (((decide (f.ID < 0)) || ((!f.Long) && (decide (f.ID > 2047)))) || (decide (f.ID > 536870911))) := by
     rw [hL, Bool.eq_iff_iff]
     simp
     omega
   have e := fcheck_eq f _ _ _ _ e1 e2 e3 e4
   rw [e]
   refine ⟨fun g1 => by rw [g1]; rfl, fun g1 => ⟨fun g2 => by rw [g1, g2]; rfl, fun g2 => ⟨fun g3 => by rw [g1, g2, g3]; rfl, fun g3 => ⟨fun g4 => by rw [g1, g2, g3, g4]; rfl, fun g4 => ⟨fun g5 => by rw [g1, g2, g3, g4, g5]; rfl, fun g5 => by rw [g1, g2, g3, g4, g5]; rfl⟩⟩⟩⟩⟩
end Go.Proofs.YtdndfbamhnchfaaGreatDoor
set_option linter.unusedVariables false
set_option linter.unusedSimpArgs false
namespace Go.Proofs.YtdndfbamhnchfaaGreatDoor
open Go.Sy Go.RowKit
def rcheckm_vc (u0 : Message) (K : Int → Prop) : Prop := (u0.Signals.length ≤ 140737488355328 → (((!(nameS u0.Name)) = true → (K 1)) ∧ ((!(nameS u0.Name)) = false → ((((fcheckfr (⟨u0.ID, u0.Long, false, false, 0, []⟩ : Frame)) != 0) = true → (K (fcheckfr (⟨u0.ID, u0.Long, false, false, 0, []⟩ : Frame)))) ∧ (((fcheckfr (⟨u0.ID, u0.Long, false, false, 0, []⟩ : Frame)) != 0) = false → ((((decide (u0.Size < 0)) || (decide (u0.Size > 8))) = true → (K 3)) ∧ (((decide (u0.Size < 0)) || (decide (u0.Size > 8))) = false → (((decide ((u0.Signals.length : Int) > 16)) = true → (K 2)) ∧ ((decide ((u0.Signals.length : Int) > 16)) = false → (∃ inv109 : Int → Prop, ∃ mu109 : Int → Nat, inv109 0 ∧ (∀ (x41 : Int), inv109 x41 → (((decide (x41 < (u0.Signals.length : Int))) = true → (∃ inv128 : Prop, ((0 ≤ x41 ∧ x41 < (u0.Signals.length : Int)) ∧ (∀ q154, u0.Signals[x41.toNat]? = some q154 → ((((checkS q154 u0.Size) != 0) = true → (K (checkS q154 u0.Size))) ∧ (((checkS q154 u0.Size) != 0) = false → ((0 ≤ x41 ∧ x41 ≤ (u0.Signals.length : Int)) ∧ (∃ inv219 : Int → Prop, ∃ mu219 : Int → Nat, inv219 0 ∧ (∀ (x58 : Int), inv219 x58 → (((decide (x58 < ((u0.Signals.take x41.toNat).length : Int))) = true → (∃ inv238 : Prop, ((0 ≤ x58 ∧ x58 < ((u0.Signals.take x41.toNat).length : Int)) ∧ (∀ q262, (u0.Signals.take x41.toNat)[x58.toNat]? = some q262 → (((q154.Name == q262.Name) = true → (K 9)) ∧ ((q154.Name == q262.Name) = false → (((!(((decide (q154.Key ≥ 0)) && (decide (q262.Key ≥ 0))) && (q154.Key != q262.Key))) = true → ((((0 ≤ q154.Start ∧ q154.Start ≤ 512) ∧ 1 ≤ q154.Size ∧ q154.Size ≤ 40) ∧ (0 ≤ q262.Start ∧ q262.Start ≤ 512) ∧ 1 ≤ q262.Size ∧ q262.Size ≤ 40) ∧ (((roverS q154 q262) = true → (K 10)) ∧ ((roverS q154 q262) = false → inv238)))) ∧ ((!(((decide (q154.Key ≥ 0)) && (decide (q262.Key ≥ 0))) && (q154.Key != q262.Key))) = false → inv238)))))) ∧ (inv238 → (inv219 (w64 (x58 + 1)) ∧ mu219 (w64 (x58 + 1)) < mu219 x58)))) ∧ ((decide (x58 < ((u0.Signals.take x41.toNat).length : Int))) = false → inv128))))))))) ∧ (inv128 → (inv109 (w64 (x41 + 1)) ∧ mu109 (w64 (x41 + 1)) < mu109 x41)))) ∧ ((decide (x41 < (u0.Signals.length : Int))) = false → ((((decide (u0.Chooser < (-1))) || (decide (u0.Chooser ≥ (u0.Signals.length : Int)))) = true → (K 8)) ∧ (((decide (u0.Chooser < (-1))) || (decide (u0.Chooser ≥ (u0.Signals.length : Int)))) = false → (((decide (u0.Chooser ≥ 0)) = true → ((0 ≤ u0.Chooser ∧ u0.Chooser < (u0.Signals.length : Int)) ∧ (∀ q422, u0.Signals[u0.Chooser.toNat]? = some q422 → ((((q422.Signed || (q422.Key != (-1))) || (decide (q422.Size > 8))) = true → (K 4)) ∧ (((q422.Signed || (q422.Key != (-1))) || (decide (q422.Size > 8))) = false → ((0 ≤ q422.Size) ∧ (∃ inv495 : Int → Prop, ∃ mu495 : Int → Nat, inv495 0 ∧ (∀ (x129 : Int), inv495 x129 → (((decide (x129 < (u0.Signals.length : Int))) = true → ((0 ≤ x129 ∧ x129 < (u0.Signals.length : Int)) ∧ (∀ q519, u0.Signals[x129.toNat]? = some q519 → (((decide (q519.Key > (w64 ((bShl .i64 1 q422.Size) - 1)))) = true → (K 4)) ∧ ((decide (q519.Key > (w64 ((bShl .i64 1 q422.Size) - 1)))) = false → (inv495 (w64 (x129 + 1)) ∧ mu495 (w64 (x129 + 1)) < mu495 x129)))))) ∧ ((decide (x129 < (u0.Signals.length : Int))) = false → (K 0))))))))))) ∧ ((decide (u0.Chooser ≥ 0)) = false → (∃ inv571 : Int → Prop, ∃ mu571 : Int → Nat, inv571 0 ∧ (∀ (x129 : Int), inv571 x129 → (((decide (x129 < (u0.Signals.length : Int))) = true → ((0 ≤ x129 ∧ x129 < (u0.Signals.length : Int)) ∧ (∀ q595, u0.Signals[x129.toNat]? = some q595 → (((decide (q595.Key > (-1))) = true → (K 4)) ∧ ((decide (q595.Key > (-1))) = false → (inv571 (w64 (x129 + 1)) ∧ mu571 (w64 (x129 + 1)) < mu571 x129)))))) ∧ ((decide (x129 < (u0.Signals.length : Int))) = false → (K 0))))))))))))))))))))))
theorem rthere_ok (m : Message) (s : Signal) (d : List Int) (h : -1 ≤ s.Key ∧ therepre m s d) : rthere_vc m s d (fun r => r = mthereS m s d) := by
 intro _ _
 refine ⟨fun h1 => ?_, fun h1 => ?_⟩
 · have h1 : s.Key = -1 := by simpa using h1
   unfold mthereS
   rw [decide_eq_true (by omega)]
   rfl
 · have h1 : ¬ s.Key = -1 := by simpa using h1
   rcases h.2 with h2 | ⟨h3, h4⟩
   · exact absurd h2 (by omega)
   · refine ⟨h3, fun q hq => ⟨h4 q hq, ?_⟩⟩
     unfold mthereS chooserOf
     rw [decide_eq_false (by omega), hq]
     rfl
theorem check_key {s : Signal} {size : Int} (h : checkS s size = 0) : -1 ≤ s.Key ∧ s.Key ≤ 255 := by
 unfold checkS at h
 split at h
 · cases h
 split at h
 · cases h
 split at h
 · cases h
 split at h
 · cases h
 omega
theorem over_swap {s t : Signal} (h1 : checkS s 64 = 0) (h2 : checkS t 64 = 0) : overS t s = roverS s t := by
 rw [← over_eq h1 h2, Bool.eq_iff_iff, over_common h1 h2, over_common h2 h1]
 exact ⟨fun ⟨p, a, b⟩ => ⟨p, b, a⟩, fun ⟨p, a, b⟩ => ⟨p, b, a⟩⟩
theorem check_start {s : Signal} {size : Int} (h : checkS s size = 0) : (0 ≤ s.Start ∧ s.Start ≤ 512) ∧ 1 ≤ s.Size ∧ s.Size ≤ 40 := by
 obtain ⟨h1, _, h3, _⟩ := check_zero h
 omega
theorem key_top : ∀ (n : Fin 9) (k : Fin 256), (bShr .i64 (k.val : Int) (n.val : Int) != 0) = decide ((k.val : Int) > w64 (bShl .i64 1 (n.val : Int) - 1)) := by decide +kernel
theorem key_neg : ∀ (n : Fin 9), decide ((-1 : Int) > w64 (bShl .i64 1 (n.val : Int) - 1)) = false := by decide +kernel
theorem key_bad {m : Message} {q c : Signal} (hq : -1 ≤ q.Key ∧ q.Key ≤ 255) (hc : c = chooserOf m) (h0 : 0 ≤ m.Chooser) (hs : 1 ≤ c.Size ∧ c.Size ≤ 8) : keyBad m q = decide (q.Key > w64 (bShl .i64 1 c.Size - 1)) := by
 unfold keyBad
 rw [← hc, decide_eq_false (show ¬ m.Chooser < 0 by omega), Bool.false_or]
 obtain ⟨n, hn⟩ : ∃ n : Nat, c.Size = n := ⟨c.Size.toNat, by omega⟩
 rw [hn]
 by_cases h : q.Key ≥ 0
 · obtain ⟨k, hk⟩ : ∃ k : Nat, q.Key = k := ⟨q.Key.toNat, by omega⟩
   rw [decide_eq_true h, Bool.true_and, hk]
   exact key_top ⟨n, by omega⟩ ⟨k, by omega⟩
 · have e : q.Key = -1 := by omega
   rw [decide_eq_false h, Bool.false_and, e]
   exact (key_neg ⟨n, by omega⟩).symm
theorem key_bad0 {m : Message} {q : Signal} (h0 : m.Chooser < 0) : keyBad m q = decide (q.Key > -1) := by
 unfold keyBad
 rw [decide_eq_true h0, Bool.true_or, Bool.and_true]
 congr 1
theorem any_loop (l : List Signal) (hl : l.length ≤ 16) (b c : Signal → Bool) (hbc : ∀ q ∈ l, b q = c q) {A : Int → Prop} (h4 : l.any b = true → A 4) (h0 : ¬ l.any b = true → A 0) : (∃ inv : Int → Prop, ∃ mu : Int → Nat, inv 0 ∧ (∀ (x : Int), inv x → (((decide (x < (l.length : Int))) = true → ((0 ≤ x ∧ x < (l.length : Int)) ∧ (∀ q, l[x.toNat]? = some q → ((c q = true → (A 4)) ∧ (c q = false → (inv (w64 (x + 1)) ∧ mu (w64 (x + 1)) < mu x)))))) ∧ ((decide (x < (l.length : Int))) = false → (A 0))))) := by
 refine ⟨fun i => ∃ k : Nat, i = k ∧ k ≤ l.length ∧ (l.take k).any b = false, fun i => l.length - i.toNat, ⟨0, rfl, by omega, rfl⟩, ?_⟩
 rintro _ ⟨k, rfl, hk, hj⟩
 refine ⟨fun h1 => ?_, fun h1 => ?_⟩
 · have hkl : k < l.length := by have := of_decide_eq_true h1; omega
   refine ⟨by omega, fun q hq => ?_⟩
   rw [Int.toNat_natCast] at hq
   have hmem := List.mem_of_getElem? hq
   rw [← hbc q hmem]
   refine ⟨fun h2 => h4 (List.any_eq_true.2 ⟨q, hmem, h2⟩), fun h2 => ?_⟩
   rw [w64_succ k (by omega)]
   refine ⟨⟨k + 1, rfl, by omega, ?_⟩, by (try dsimp only); omega⟩
   rw [take_next _ _ _ hq, List.any_append, hj]
   simp [h2]
 · have hkl : k = l.length := by have := of_decide_eq_false h1; omega
   subst hkl
   rw [List.take_length] at hj
   exact h0 (by rw [hj]; simp)
theorem rin_loop {s : Signal} {size : Int} (p : List Signal) (hp : p.length ≤ 16) (hck : ∀ o ∈ p, checkS o size = 0) (hs : checkS s size = 0) {A : Int → Prop} {N : Prop} (h : inner s p ≠ 0 → A (inner s p)) (h0 : inner s p = 0 → N) : (∃ inv219 : Int → Prop, ∃ mu219 : Int → Nat, inv219 0 ∧ (∀ (x58 : Int), inv219 x58 → (((decide (x58 < (p.length : Int))) = true → (∃ inv238 : Prop, ((0 ≤ x58 ∧ x58 < (p.length : Int)) ∧ (∀ q262, p[x58.toNat]? = some q262 → (((s.Name == q262.Name) = true → (A 9)) ∧ ((s.Name == q262.Name) = false → (((!(((decide (s.Key ≥ 0)) && (decide (q262.Key ≥ 0))) && (s.Key != q262.Key))) = true → ((((0 ≤ s.Start ∧ s.Start ≤ 512) ∧ 1 ≤ s.Size ∧ s.Size ≤ 40) ∧ (0 ≤ q262.Start ∧ q262.Start ≤ 512) ∧ 1 ≤ q262.Size ∧ q262.Size ≤ 40) ∧ (((roverS s q262) = true → (A 10)) ∧ ((roverS s q262) = false → inv238)))) ∧ ((!(((decide (s.Key ≥ 0)) && (decide (q262.Key ≥ 0))) && (s.Key != q262.Key))) = false → inv238)))))) ∧ (inv238 → (inv219 (w64 (x58 + 1)) ∧ mu219 (w64 (x58 + 1)) < mu219 x58)))) ∧ ((decide (x58 < (p.length : Int))) = false → N)))) := by
 refine ⟨fun i => ∃ k : Nat, i = k ∧ k ≤ p.length ∧ inner s (p.drop k) = inner s p, fun i => p.length - i.toNat, ⟨0, rfl, by omega, rfl⟩, ?_⟩
 rintro _ ⟨k, rfl, hk, hj⟩
 refine ⟨fun h1 => ?_, fun h1 => ?_⟩
 · have hkl : k < p.length := by have := of_decide_eq_true h1; omega
   refine ⟨inner s (p.drop (k + 1)) = inner s p, ⟨by omega, fun o ho => ?_⟩, fun h2 => ?_⟩
   · rw [Int.toNat_natCast] at ho
     have hmem := List.mem_of_getElem? ho
     rw [drop_this _ _ _ ho, inner] at hj
     have hov := over_swap (check_up hs) (check_up (hck o hmem))
     have hcc : (!(((decide (s.Key ≥ 0)) && (decide (o.Key ≥ 0))) && (s.Key != o.Key))) = (!(((decide (o.Key ≥ 0)) && (decide (s.Key ≥ 0))) && (o.Key != s.Key))) := by
      rw [Bool.and_comm (decide (s.Key ≥ 0))]
      congr 2
      rw [Bool.eq_iff_iff, bne_iff_ne, bne_iff_ne]
      exact ⟨fun h h2 => h h2.symm, fun h h2 => h h2.symm⟩
     rw [hcc]
     refine ⟨fun h2 => ?_, fun h2 => ⟨fun h3 => ⟨⟨check_start hs, check_start (hck o hmem)⟩, fun h4 => ?_, fun h4 => ?_⟩, fun h3 => ?_⟩⟩
     · have h2 : s.Name = o.Name := by simpa using h2
       rw [if_pos h2.symm] at hj
       rw [← hj] at h
       exact h (by decide)
     all_goals have h2 : ¬ o.Name = s.Name := by
                 have : ¬ s.Name = o.Name := by simpa using h2
                 exact fun hc => this hc.symm
     · rw [if_neg h2, if_pos (by rw [h3, hov, h4]; rfl)] at hj
       rw [← hj] at h
       exact h (by decide)
     · rw [if_neg h2, if_neg (by rw [h3, hov, h4]; simp)] at hj
       exact hj
     · rw [if_neg h2, if_neg (by rw [h3]; simp)] at hj
       exact hj
   · rw [w64_succ k (by omega)]
     exact ⟨⟨k + 1, rfl, by omega, h2⟩, by (try dsimp only); omega⟩
 · have hkl : k = p.length := by have := of_decide_eq_false h1; omega
   subst hkl
   rw [List.drop_length] at hj
   exact h0 hj.symm
theorem rcheckm_ok (m : Message) : rcheckm_vc m (fun r => r = mcheckS m) := by
 intro hl
 refine ⟨fun h1 => ?_, fun h1 => ⟨fun h2 => ?_, fun h2 => ⟨fun h3 => ?_, fun h3 => ⟨fun h4 => ?_, fun h4 => ?_⟩⟩⟩⟩
 · unfold mcheckS
   rw [if_pos (by simpa using h1)]
 all_goals have h1 : ¬ nameS m.Name = false := by simpa using h1
 · have h2 : fcheckfr (⟨m.ID, m.Long, false, false, 0, []⟩ : Frame) ≠ 0 := by simpa using h2
   unfold mcheckS
   rw [if_neg h1, if_pos h2]
 all_goals have h2 : ¬ fcheckfr (⟨m.ID, m.Long, false, false, 0, []⟩ : Frame) ≠ 0 := by simpa using h2
 · have h3 : m.Size < 0 ∨ 8 < m.Size := by simpa using h3
   unfold mcheckS
   rw [if_neg h1, if_neg h2, if_pos h3]
 all_goals have h3 : ¬ (m.Size < 0 ∨ 8 < m.Size) := by simpa using h3
 · have h4 : 16 < m.Signals.length := by have := of_decide_eq_true h4; omega
   unfold mcheckS
   rw [if_neg h1, if_neg h2, if_neg h3, if_pos h4]
 have h4 : ¬ 16 < m.Signals.length := by have := of_decide_eq_false h4; omega
 have hS : mcheckS m = if outer m.Size [] m.Signals ≠ 0 then outer m.Size [] m.Signals else
   if m.Chooser < -1 ∨ (m.Signals.length : Int) ≤ m.Chooser then 8 else
   if chBad m = true then 4 else
   if m.Signals.any (keyBad m) = true then 4 else 0 := by
  unfold mcheckS
  rw [if_neg h1, if_neg h2, if_neg h3, if_neg h4]
 rw [hS]
 generalize hE : outer m.Size [] m.Signals = E
 refine ⟨fun i => ∃ k : Nat, i = k ∧ k ≤ m.Signals.length ∧ (∀ o ∈ m.Signals.take k, checkS o m.Size = 0) ∧ outer m.Size (m.Signals.take k) (m.Signals.drop k) = E, fun i => m.Signals.length - i.toNat, ⟨0, rfl, by omega, by simp, by rw [List.take_zero, List.drop_zero]; exact hE⟩, ?_⟩
 rintro _ ⟨k, rfl, hk, hck, hj⟩
 refine ⟨fun h5 => ?_, fun h5 => ?_⟩
 · have hkl : k < m.Signals.length := by have := of_decide_eq_true h5; omega
   refine ⟨(∀ o ∈ m.Signals.take (k + 1), checkS o m.Size = 0) ∧ outer m.Size (m.Signals.take (k + 1)) (m.Signals.drop (k + 1)) = E, ⟨by omega, fun s hs => ?_⟩, fun h6 => ?_⟩
   · rw [Int.toNat_natCast] at hs ⊢
     rw [drop_this _ _ _ hs, outer] at hj
     refine ⟨fun h6 => ?_, fun h6 => ⟨by omega, ?_⟩⟩
     · have h6 : checkS s m.Size ≠ 0 := by simpa using h6
       rw [if_pos h6] at hj
       rw [← hj, if_pos h6]
     · have h6 : ¬ checkS s m.Size ≠ 0 := by simpa using h6
       rw [if_neg h6] at hj
       have htl : (m.Signals.take k).length = k := by rw [List.length_take]; omega
       refine rin_loop (m.Signals.take k) (by omega) hck (Classical.not_not.1 h6) (A := fun r => r = if E ≠ 0 then E else
             if m.Chooser < -1 ∨ (m.Signals.length : Int) ≤ m.Chooser then 8 else
             if chBad m = true then 4 else
             if m.Signals.any (keyBad m) = true then 4 else 0) (fun h7 => ?_) (fun h7 => ?_)
       · rw [if_pos h7] at hj
         rw [← hj, if_pos h7]
       · rw [if_neg (by rw [h7]; simp)] at hj
         rw [take_next _ _ _ hs]
         refine ⟨fun o ho => ?_, hj⟩
         rw [List.mem_append, List.mem_singleton] at ho
         rcases ho with ho | rfl
         · exact hck o ho
         · exact Classical.not_not.1 h6
   · rw [w64_succ k (by omega)]
     exact ⟨⟨k + 1, rfl, by omega, h6⟩, by (try dsimp only); omega⟩
 · have hkl : k = m.Signals.length := by have := of_decide_eq_false h5; omega
   subst hkl
   rw [List.drop_length, outer] at hj
   subst hj
   obtain ⟨hall, _⟩ := outer_zero hE
   rw [if_neg (by simp)]
   refine ⟨fun h6 => ?_, fun h6 => ?_⟩
   · rw [if_pos (by simpa using h6)]
   · have h6 : ¬ (m.Chooser < -1 ∨ (m.Signals.length : Int) ≤ m.Chooser) := by simpa using h6
     rw [if_neg h6]
     refine ⟨fun h7 => ⟨by have := of_decide_eq_true h7; omega, fun c hc => ?_⟩, fun h7 => ?_⟩
     · have hcc : c = chooserOf m := by unfold chooserOf; rw [hc]; rfl
       have hcs := hall c (List.mem_of_getElem? hc)
       obtain ⟨g1, _⟩ := check_zero hcs
       have g2 := check_key hcs
       have e : ((c.Signed || (c.Key != (-1))) || (decide (c.Size > 8))) = chBad m := by
        unfold chBad
        rw [← hcc, h7, Bool.true_and]
        congr 2
        rw [Bool.eq_iff_iff, bne_iff_ne, decide_eq_true_eq]
        omega
       rw [e]
       refine ⟨fun h8 => by rw [if_pos h8], fun h8 => ⟨by omega, ?_⟩⟩
       have h9 := h8
       unfold chBad at h9
       rw [← hcc, h7, Bool.true_and, Bool.or_eq_false_iff] at h9
       have h9 := of_decide_eq_false h9.2
       rw [if_neg (by rw [h8]; simp)]
       exact any_loop m.Signals (by omega) (keyBad m) (fun q => decide (q.Key > (w64 ((bShl .i64 1 c.Size) - 1)))) (fun q hq => key_bad (check_key (hall q hq)) hcc (of_decide_eq_true h7) (by omega)) (A := fun r => r = if m.Signals.any (keyBad m) = true then 4 else 0) (fun h9 => by rw [if_pos h9]) (fun h9 => by rw [if_neg h9])
     · have : ¬ chBad m = true := by unfold chBad; rw [h7]; simp
       rw [if_neg this]
       exact any_loop m.Signals (by omega) (keyBad m) (fun q => decide (q.Key > -1)) (fun q hq => key_bad0 (by have := of_decide_eq_false h7; omega)) (A := fun r => r = if m.Signals.any (keyBad m) = true then 4 else 0) (fun h9 => by rw [if_pos h9]) (fun h9 => by rw [if_neg h9])
end Go.Proofs.YtdndfbamhnchfaaGreatDoor
set_option linter.unusedVariables false
set_option linter.unusedSimpArgs false
namespace Go.Proofs.YtdndfbamhnchfaaGreatDoor
open Go.Sy Go.RowKit
structure BInt where
 neg : Bool
 abs : List Int
 deriving DecidableEq, Inhabited
def BInt.rep (Z : Fz) (cs : List Value) (x : BInt) : Prop := ∃ (ao0 : Option Addr) (cap0 : Nat), cs = [.bool x.neg, .slice ao0 x.abs.length cap0] ∧ SlR (tyInt .u32) Z ao0 cap0 x.abs
structure BRat where
 a : BInt
 b : BInt
 deriving DecidableEq, Inhabited
def BRat.rep (Z : Fz) (cs : List Value) (x : BRat) : Prop := ∃ (ao0 : Option Addr) (cap0 : Nat) (ao1 : Option Addr) (cap1 : Nat), cs = [.bool x.a.neg, .slice ao0 x.a.abs.length cap0, .bool x.b.neg, .slice ao1 x.b.abs.length cap1] ∧ SlR (tyInt .u32) Z ao0 cap0 x.a.abs ∧ SlR (tyInt .u32) Z ao1 cap1 x.b.abs
def gtrim_vc (u0 : List Int) (K : (List Int) → Prop) : Prop := (u0.length ≤ 140737488355328 → (∃ inv16 : Int → Prop, ∃ mu16 : Int → Nat, inv16 (u0.length : Int) ∧ (∀ (x3 : Int), inv16 x3 → (((decide (x3 > 0)) = true → ((0 ≤ w64 (x3 - 1) ∧ w64 (x3 - 1) < (u0.length : Int)) ∧ (∀ q50, u0[(w64 (x3 - 1)).toNat]? = some q50 → (((q50 == 0) = true → (inv16 (w64 (x3 - 1)) ∧ mu16 (w64 (x3 - 1)) < mu16 x3)) ∧ ((q50 == 0) = false → ((0 ≤ x3 ∧ x3 ≤ (u0.length : Int)) ∧ (K (u0.take x3.toNat)))))))) ∧ ((decide (x3 > 0)) = false → ((0 ≤ x3 ∧ x3 ≤ (u0.length : Int)) ∧ (K (u0.take x3.toNat))))))))
def gplain_vc (u0 : List Int) (K : Int → Prop) : Prop := (u0.length ≤ 140737488355328 → (((decide ((u0.length : Int) > 0)) = true → ((0 ≤ (0 : Int) ∧ (0 : Int) < (u0.length : Int)) ∧ (∀ q28, u0[(0 : Int).toNat]? = some q28 → (((decide ((u0.length : Int) > 1)) = true → ((0 ≤ (1 : Int) ∧ (1 : Int) < (u0.length : Int)) ∧ (∀ q60, u0[(1 : Int).toNat]? = some q60 → (K (bOr .u64 (wu64 q28) (bShl .u64 (wu64 q60) 32)))))) ∧ ((decide ((u0.length : Int) > 1)) = false → (K (wu64 q28))))))) ∧ ((decide ((u0.length : Int) > 0)) = false → (((decide ((u0.length : Int) > 1)) = true → ((0 ≤ (1 : Int) ∧ (1 : Int) < (u0.length : Int)) ∧ (∀ q108, u0[(1 : Int).toNat]? = some q108 → (K (bOr .u64 0 (bShl .u64 (wu64 q108) 32)))))) ∧ ((decide ((u0.length : Int) > 1)) = false → (K 0))))))
def gcmp_vc (u0 : List Int) (u1 : List Int) (K : Int → Prop) : Prop := (u0.length ≤ 140737488355328 → (u1.length ≤ 140737488355328 → ((((u0.length : Int) != (u1.length : Int)) = true → (((decide ((u0.length : Int) < (u1.length : Int))) = true → (K (-1))) ∧ ((decide ((u0.length : Int) < (u1.length : Int))) = false → (K 1)))) ∧ (((u0.length : Int) != (u1.length : Int)) = false → (∃ inv56 : Int → Prop, ∃ mu56 : Int → Nat, inv56 (w64 ((u0.length : Int) - 1)) ∧ (∀ (x5 : Int), inv56 x5 → (((decide (x5 ≥ 0)) = true → ((0 ≤ x5 ∧ x5 < (u0.length : Int)) ∧ (∀ q90, u0[x5.toNat]? = some q90 → ((0 ≤ x5 ∧ x5 < (u1.length : Int)) ∧ (∀ q112, u1[x5.toNat]? = some q112 → (((q90 != q112) = true → ((0 ≤ x5 ∧ x5 < (u0.length : Int)) ∧ (∀ q143, u0[x5.toNat]? = some q143 → ((0 ≤ x5 ∧ x5 < (u1.length : Int)) ∧ (∀ q165, u1[x5.toNat]? = some q165 → (((decide (q143 < q165)) = true → (K (-1))) ∧ ((decide (q143 < q165)) = false → (K 1)))))))) ∧ ((q90 != q112) = false → (inv56 (w64 (x5 - 1)) ∧ mu56 (w64 (x5 - 1)) < mu56 x5)))))))) ∧ ((decide (x5 ≥ 0)) = false → (K 0)))))))))
theorem wtake_next {α : Type} (l : List α) (k : Nat) (q : α) (hq : l[k]? = some q) : l.take (k + 1) = l.take k ++ [q] := by rw [List.take_add_one, hq]; rfl
def wv : List Int → Nat
 | [] => 0
 | x :: r => x.toNat + 4294967296 * wv r
def wok (l : List Int) : Prop := ∀ x ∈ l, 0 ≤ x ∧ x < 4294967296
def ws (n : Nat) : List Int := if n = 0 then [] else ((n % 4294967296 : Nat) : Int) :: ws (n / 4294967296)
 termination_by n
 decreasing_by omega
theorem ws_zero : ws 0 = [] := by rw [ws]; rfl
theorem ws_pos {n : Nat} (h : n ≠ 0) : ws n = ((n % 4294967296 : Nat) : Int) :: ws (n / 4294967296) := by rw [ws, if_neg h]
theorem wv_ws : ∀ n : Nat, wv (ws n) = n := by
 intro n
 induction n using Nat.strongRecOn with
 | ind n ih =>
  by_cases h : n = 0
  · subst h; rw [ws_zero]; rfl
  · rw [ws_pos h, wv, ih _ (by omega), Int.toNat_natCast]
    omega
theorem ws_wok : ∀ n : Nat, wok (ws n) := by
 intro n
 induction n using Nat.strongRecOn with
 | ind n ih =>
  by_cases h : n = 0
  · subst h; rw [ws_zero]; intro x hx; cases hx
  · rw [ws_pos h]
    intro x hx
    rcases List.mem_cons.1 hx with rfl | hx
    · omega
    · exact ih _ (by omega) x hx
theorem ws_len : ∀ (k n : Nat), n < 4294967296 ^ k → (ws n).length ≤ k := by
 intro k
 induction k with
 | zero => intro n h; have : n = 0 := by simpa using h
           subst this; rw [ws_zero]; simp
 | succ k ih =>
  intro n h
  by_cases h0 : n = 0
  · subst h0; rw [ws_zero]; simp
  · rw [ws_pos h0, List.length_cons]
    have : n / 4294967296 < 4294967296 ^ k := by
     rw [Nat.div_lt_iff_lt_mul (by decide)]
     rwa [Nat.pow_succ] at h
    have := ih _ this
    omega
theorem wok_cons {x : Int} {r : List Int} (h : wok (x :: r)) : (0 ≤ x ∧ x < 4294967296) ∧ wok r := ⟨h x (List.mem_cons_self ..), fun y hy => h y (List.mem_cons_of_mem _ hy)⟩
theorem wok_at {l : List Int} (h : wok l) {k : Nat} {q : Int} (hq : l[k]? = some q) : ∃ n : Nat, q = n ∧ n < 4294967296 := by
 have := h q (List.mem_of_getElem? hq)
 exact ⟨q.toNat, by omega, by omega⟩
theorem wok_set {l : List Int} (h : wok l) (k : Nat) (n : Nat) (hn : n < 4294967296) : wok (l.set k (n : Int)) := by
 intro x hx
 rcases List.mem_or_eq_of_mem_set hx with hx | rfl
 · exact h x hx
 · omega
theorem wok_rep (n : Nat) : wok (List.replicate n (0 : Int)) := fun x hx => by rw [(List.mem_replicate.1 hx).2]; omega
theorem wok_take {a : List Int} (ha : wok a) (k : Nat) : wok (a.take k) := fun x hx => ha x (List.mem_of_mem_take hx)
theorem wv_append (a b : List Int) : wv (a ++ b) = wv a + 4294967296 ^ a.length * wv b := by
 induction a with
 | nil => simp [wv]
 | cons x r ih => rw [List.cons_append, wv, ih, wv, List.length_cons, Nat.pow_succ, Nat.mul_add, Nat.add_assoc, Nat.mul_comm (4294967296 ^ r.length) 4294967296, Nat.mul_assoc]
theorem wv_rep (n : Nat) : wv (List.replicate n (0 : Int)) = 0 := by
 induction n with
 | zero => rfl
 | succ n ih => rw [List.replicate_succ, wv, ih]; rfl
theorem wv_next {l : List Int} {k n : Nat} (h : l[k]? = some (n : Int)) : wv (l.take (k + 1)) = wv (l.take k) + 4294967296 ^ k * n := by
 have hk := (List.getElem?_eq_some_iff.1 h).1
 rw [wtake_next l k _ h, wv_append, List.length_take, Nat.min_eq_left (by omega)]
 simp [wv]
theorem wv_set : ∀ (l : List Int) (k q n : Nat), l[k]? = some (q : Int) → wv (l.set k (n : Int)) + 4294967296 ^ k * q = wv l + 4294967296 ^ k * n := by
 intro l
 induction l with
 | nil => intro k q n h; simp at h
 | cons x r ih =>
  intro k q n h
  cases k with
  | zero =>
   cases h
   simp [wv]
   omega
  | succ k =>
   have := ih k q n (by simpa using h)
   rw [List.set_cons_succ, wv, wv, Nat.pow_succ, Nat.mul_comm (4294967296 ^ k) 4294967296, Nat.mul_assoc, Nat.mul_assoc]
   omega
theorem wv_lt {l : List Int} (h : wok l) : wv l < 4294967296 ^ l.length := by
 induction l with
 | nil => simp [wv]
 | cons x r ih =>
  obtain ⟨h1, h2⟩ := wok_cons h
  have := ih h2
  rw [wv, List.length_cons, Nat.pow_succ]
  omega
def gtrimS : List Int → List Int
 | [] => []
 | x :: r => match gtrimS r with
  | [] => if x = 0 then [] else [x]
  | y :: q => x :: y :: q
theorem gtrim_ws {l : List Int} (h : wok l) : gtrimS l = ws (wv l) := by
 induction l with
 | nil => rw [wv, ws_zero]; rfl
 | cons x r ih =>
  obtain ⟨h1, h2⟩ := wok_cons h
  rw [gtrimS, ih h2, wv]
  by_cases h0 : wv r = 0
  · rw [h0, ws_zero]
    by_cases hx : x = 0
    · subst hx
      rw [if_pos rfl]
      show [] = ws 0
      rw [ws_zero]
    · rw [if_neg hx, ws_pos (by omega)]
      have e1 : (x.toNat + 4294967296 * 0) % 4294967296 = x.toNat := by omega
      have e2 : (x.toNat + 4294967296 * 0) / 4294967296 = 0 := by omega
      rw [e1, e2, ws_zero, Int.toNat_of_nonneg h1.1]
  · have e1 : (x.toNat + 4294967296 * wv r) % 4294967296 = x.toNat := by omega
    have e2 : (x.toNat + 4294967296 * wv r) / 4294967296 = wv r := by omega
    rw [ws_pos (n := x.toNat + 4294967296 * wv r) (by omega), e1, e2]
    have e3 : ((x.toNat : Nat) : Int) = x := Int.toNat_of_nonneg h1.1
    rw [e3]
    rw [ws_pos h0]
theorem ws_trim (n : Nat) : gtrimS (ws n) = ws n := by rw [gtrim_ws (ws_wok n), wv_ws]
theorem gtrim_len (l : List Int) : (gtrimS l).length ≤ l.length := by
 induction l with
 | nil => exact Nat.le_refl _
 | cons x r ih =>
  rw [gtrimS]
  split
  · split <;> simp
  · rename_i y q e
    rw [e] at ih
    simpa using ih
theorem gtrim_snoc0 (l : List Int) : gtrimS (l ++ [0]) = gtrimS l := by
 induction l with
 | nil => rfl
 | cons x r ih => rw [List.cons_append, gtrimS, ih, gtrimS]
theorem gtrim_snoc (l : List Int) (x : Int) (hx : x ≠ 0) : gtrimS (l ++ [x]) = l ++ [x] := by
 induction l with
 | nil => show (if x = 0 then [] else [x]) = [x]; rw [if_neg hx]
 | cons y r ih =>
  rw [List.cons_append, gtrimS, ih]
  cases hr : r ++ [x] with
  | nil => simp at hr
  | cons a b => rfl
theorem gtrim_ok (l : List Int) : gtrim_vc l (fun r => r = gtrimS l) := by
 intro hl
 refine ⟨fun i => ∃ k : Nat, i = k ∧ k ≤ l.length ∧ gtrimS (l.take k) = gtrimS l, fun i => i.toNat, ⟨l.length, rfl, Nat.le_refl _, by rw [List.take_length]⟩, ?_⟩
 rintro _ ⟨k, rfl, hk, hg⟩
 refine ⟨fun h => ?_, fun h => ?_⟩
 · have h : 0 < k := by have := of_decide_eq_true h; omega
   have e : w64 ((k : Int) - 1) = ((k - 1 : Nat) : Int) := by rw [w64_eq _ (by omega)]; omega
   rw [e]
   refine ⟨by omega, fun q hq => ?_⟩
   rw [Int.toNat_natCast] at hq
   have ht := wtake_next l (k - 1) q hq
   have e1 : k - 1 + 1 = k := by omega
   rw [e1] at ht
   refine ⟨fun h1 => ?_, fun h1 => ?_⟩
   · have h1 : q = 0 := by simpa using h1
     subst h1
     rw [ht, gtrim_snoc0] at hg
     exact ⟨⟨k - 1, rfl, by omega, hg⟩, by (try dsimp only); omega⟩
   · have h1 : q ≠ 0 := by simpa using h1
     refine ⟨by omega, ?_⟩
     rw [Int.toNat_natCast, ← hg, ht, gtrim_snoc _ _ h1]
 · have h : k = 0 := by have := of_decide_eq_false h; omega
   subst h
   refine ⟨by omega, ?_⟩
   rw [← hg]
   rfl
theorem shru (n s : Nat) (hs : s ≤ 64) (k : IntKind) (hk : s ≤ k.bits) : bShr k (n : Int) (s : Int) = ((n / 2 ^ s : Nat) : Int) := by
 unfold bShr
 have : min (s : Int).toNat k.bits = s := by rw [Int.toNat_natCast]; omega
 rw [this, Int.fdiv_eq_ediv_of_nonneg _ (Int.le_of_lt (Int.pow_pos (by decide)))]
 norm_cast
theorem wu32_nat (n : Nat) : wu32 (n : Int) = ((n % 4294967296 : Nat) : Int) := by
 show IntKind.u32.wrap (n : Int) = _
 rw [IntKind.wrap_u32]
 omega
theorem ws_last {n : Nat} (h : n ≠ 0) : ∃ (p : List Int) (q : Nat), ws n = p ++ [(q : Int)] ∧ q ≠ 0 ∧ q < 4294967296 := by
 have hne : ws n ≠ [] := by rw [ws_pos h]; simp
 obtain ⟨p, x, hp⟩ : ∃ p x, ws n = p ++ [x] := ⟨(ws n).dropLast, (ws n).getLast hne, (List.dropLast_concat_getLast hne).symm⟩
 have hx := ws_wok n x (by rw [hp]; simp)
 refine ⟨p, x.toNat, by rw [hp]; congr 2; omega, fun h0 => ?_, by omega⟩
 have h1 : x = 0 := by omega
 have h2 := ws_trim n
 rw [hp, h1, gtrim_snoc0] at h2
 have h3 := gtrim_len p
 rw [h2] at h3
 rw [List.length_append, List.length_singleton] at h3
 omega
end Go.Proofs.YtdndfbamhnchfaaGreatDoor
