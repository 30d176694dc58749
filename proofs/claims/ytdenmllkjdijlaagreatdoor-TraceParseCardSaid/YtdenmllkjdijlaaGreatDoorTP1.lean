/- Texts put together (pure ones, or walks made by program). -/
import Derived.Test.YtdenmllkjdijlaaGreatDoorTP0
import Derived.Lib.AtoiAll
import Derived.Lib.Bytealg
import Derived.Lib.IndexAny
set_option linter.unusedVariables false
set_option linter.unusedSimpArgs false
namespace Go.Proofs.YtdenmllkjdijlaaGreatDoor
open Go.Sy Go.RowKit
structure Frame where
  ID : Int
  Long : Bool
  Fast : Bool
  Remote : Bool
  Size : Int
  Data : List Int
  deriving DecidableEq, Inhabited
def Frame.rep (Z : Fz) (cs : List Value) (x : Frame) : Prop := ∃ (ao0 : Option Addr) (cap0 : Nat), cs = [.int .i64 x.ID, .bool x.Long, .bool x.Fast, .bool x.Remote, .int .i64 x.Size, .slice ao0 x.Data.length cap0] ∧ SlR (tyInt .u8) Z ao0 cap0 x.Data
def tyFrame : Ty Frame :=
  ⟨6, Frame.rep, by rintro _ _ _ ⟨_, _, rfl, _⟩; rfl, by rintro _ _ _ _ hZ ⟨_, _, rfl, h0⟩; exact ⟨_, _, rfl, h0.mono hZ⟩, by rintro _ _ _ ⟨_, _, rfl, _⟩; simp [Value.oneCell']⟩
def okFrame (x : Frame) : Prop := (IntKind.i64.min ≤ x.ID ∧ x.ID ≤ IntKind.i64.max) ∧ (True) ∧ (True) ∧ (True) ∧ (IntKind.i64.min ≤ x.Size ∧ x.Size ≤ IntKind.i64.max) ∧ ((∀ y0 ∈ x.Data, IntKind.u8.min ≤ y0 ∧ y0 ≤ IntKind.u8.max) ∧ x.Data.length * 1 ≤ lim)

structure Line where
  Time : Int
  Bus : Int
  F : Frame
  deriving DecidableEq, Inhabited
def Line.rep (Z : Fz) (cs : List Value) (x : Line) : Prop := ∃ (ao0 : Option Addr) (cap0 : Nat), cs = [.int .i64 x.Time, .int .i64 x.Bus, .int .i64 x.F.ID, .bool x.F.Long, .bool x.F.Fast, .bool x.F.Remote, .int .i64 x.F.Size, .slice ao0 x.F.Data.length cap0] ∧ SlR (tyInt .u8) Z ao0 cap0 x.F.Data
def tyLine : Ty Line :=
  ⟨8, Line.rep, by rintro _ _ _ ⟨_, _, rfl, _⟩; rfl, by rintro _ _ _ _ hZ ⟨_, _, rfl, h0⟩; exact ⟨_, _, rfl, h0.mono hZ⟩, by rintro _ _ _ ⟨_, _, rfl, _⟩; simp [Value.oneCell']⟩
def okLine (x : Line) : Prop := (IntKind.i64.min ≤ x.Time ∧ x.Time ≤ IntKind.i64.max) ∧ (IntKind.i64.min ≤ x.Bus ∧ x.Bus ≤ IntKind.i64.max) ∧ (okFrame x.F)


/-! Pure proofs: no program in sight. -/
/-- strings.Trim at a set of ASCII bytes. -/
def trimS (l cs : List UInt8) : List UInt8 := ((l.reverse.dropWhile (cs.contains ·)).reverse).dropWhile (cs.contains ·)
/-- strings.Count of one byte. -/
def count1S (l c : List UInt8) : Int := match c with | [x] => ((l.count x : Nat) : Int) | _ => 0
theorem wu64_eq (x : Int) (h : 0 ≤ x ∧ x ≤ 18446744073709551615) : wu64 x = x := IntWalk.u64_in x h
theorem w8_eq (x : Int) (h : 0 ≤ x ∧ x ≤ 255) : w8 x = x := IntWalk.u8_in x h
theorem and1 (n : Nat) (h : n < 18446744073709551616) : bAnd .u64 (n : Int) 1 = ((n % 2 : Nat) : Int) := by
  have e : (BitVec.ofInt IntKind.u64.bits (n : Int) &&& BitVec.ofInt IntKind.u64.bits (1 : Int)).toNat = n % 2 := by
    rw [BitVec.toNat_and]
    show (BitVec.ofInt 64 (n : Int)).toNat &&& (BitVec.ofInt 64 ((1 : Nat) : Int)).toNat = _
    rw [ofInt_toNat n h, ofInt_toNat 1 (by omega), Nat.and_one_is_mod]
  unfold bAnd
  rw [e]
  exact wu64_eq _ (by omega)
theorem shrN (n s : Nat) (hs : s ≤ 63) : bShr .i64 (n : Int) (s : Int) = ((n / 2 ^ s : Nat) : Int) := by
  unfold bShr
  have : min (s : Int).toNat IntKind.i64.bits = s := by simp [IntKind.bits]; omega
  rw [this, Int.fdiv_eq_ediv_of_nonneg _ (Int.le_of_lt (Int.pow_pos (by decide)))]
  norm_cast
/-- A number in so many bits. -/
def wr : Nat → Nat → List UInt8
  | 0, _ => []
  | s + 1, n => UInt8.ofNat (48 + n / 2 ^ s % 2) :: wr s n
def val : List UInt8 → Nat
  | [] => 0
  | c :: r => (c.toNat - 48) * 2 ^ r.length + val r
theorem take_next {α : Type} (l : List α) (k : Nat) (q : α) (hq : l[k]? = some q) : l.take (k + 1) = l.take k ++ [q] := by rw [List.take_add_one, hq]; rfl
theorem bstr_append (a b : List Int) : bstr (a ++ b) = bstr a ++ bstr b := by simp [bstr]
theorem bstr_ints (l : List UInt8) : bstr (l.map fun c => (c.toNat : Int)) = l := by
  induction l with
  | nil => rfl
  | cons c r ih => rw [List.map_cons, show bstr ((c.toNat : Int) :: r.map fun c => (c.toNat : Int)) = c :: bstr (r.map fun c => (c.toNat : Int)) by simp [bstr], ih]
theorem dropWhile_nil {α : Type} (p : α → Bool) (l : List α) : l.dropWhile p = [] ↔ l.all p = true := by
  induction l with
  | nil => simp
  | cons x l ih =>
    rw [List.dropWhile_cons]
    cases h : p x <;> simp [h, ih]
/-! ### Numbers in digits -/
def digsF : Nat → Nat → List UInt8
  | 0, _ => [48]
  | k + 1, u => if u < 10 then [UInt8.ofNat (48 + u)] else digsF k (u / 10) ++ [UInt8.ofNat (48 + u % 10)]
def itoaS (n : Int) : List UInt8 := if n < 0 then 45 :: digsF 20 n.natAbs else digsF 20 n.toNat
def atoiV (l : List UInt8) : Int := match Lib.atoiAll l with | .ok v => v | .range => Lib.atoiSat l | _ => 0
/-- A number in digits, without noughts ahead. -/
def countS (l : List UInt8) : Int × Bool := (atoiV l, match Lib.atoiAll l with | .ok v => decide (0 ≤ v) && (itoaS v == l) | _ => false)
def idxB (l : List UInt8) (c : Int) : Int := Lib.indexByte l c.toNat.toUInt8
def index1S (l c : List UInt8) : Int := match c with | [x] => Lib.indexByte l x | _ => 0

end Go.Proofs.YtdenmllkjdijlaaGreatDoor
set_option linter.unusedVariables false
set_option linter.unusedSimpArgs false
namespace Go.Proofs.YtdenmllkjdijlaaGreatDoor
open Go.Sy Go.RowKit
def fsizes_vc  (K : (List Int) → Prop) : Prop :=
  (K ([0, 1, 2, 3, 4, 5, 6, 7, 8, 12, 16, 20, 24, 32, 48, 64] : List Int))
def fsizes  : (List Int) :=
  ([0, 1, 2, 3, 4, 5, 6, 7, 8, 12, 16, 20, 24, 32, 48, 64] : List Int)
theorem fsizes_ok  : fsizes_vc  (fun r => r = fsizes ) := (by rfl)

def rsizes_vc  (K : (List Int) → Prop) : Prop :=
  (K ([0, 1, 2, 3, 4, 5, 6, 7, 8, 12, 16, 20, 24, 32, 48, 64] : List Int))
def rsizes  : (List Int) :=
  ([0, 1, 2, 3, 4, 5, 6, 7, 8, 12, 16, 20, 24, 32, 48, 64] : List Int)
theorem rsizes_ok  : rsizes_vc  (fun r => r = rsizes ) := (by rfl)

def sindex_vc (u0 : List Int) (u1 : Int) (K : Int → Prop) : Prop :=
  (u0.length ≤ 140737488355328 →
    (∃ inv16 : Int → Prop, ∃ mu16 : Int → Nat, inv16 0 ∧
    (∀ (x8 : Int), inv16 x8 →
    (((decide (x8 < (u0.length : Int))) = true →
      ((0 ≤ x8 ∧ x8 < (u0.length : Int)) ∧
      (∀ q51, u0[x8.toNat]? = some q51 →
      (((u1 == q51) = true →
        (K x8)) ∧
      ((u1 == q51) = false →
        (inv16 (w64 (x8 + 1)) ∧ mu16 (w64 (x8 + 1)) < mu16 x8)))))) ∧
    ((decide (x8 < (u0.length : Int))) = false →
      (K (-1)))))))
theorem sindex_mono {u0 : List Int} {u1 : Int} {K K1 : Int → Prop} (hK : ∀ r, K r → K1 r) (h : sindex_vc u0 u1 K) : sindex_vc u0 u1 K1 :=
  fun z0 => (Exists.elim (h z0) fun i1 e1 => Exists.elim e1 fun m1 g1 => ⟨i1, m1, g1.1, fun x8 z1 => ⟨fun c2 => ⟨((g1.2 x8 z1).1 c2).1, fun y4 z4 => ⟨fun c5 => hK _ ((((g1.2 x8 z1).1 c2).2 y4 z4).1 c5), fun c5 => ((((g1.2 x8 z1).1 c2).2 y4 z4).2 c5)⟩⟩, fun c2 => hK _ ((g1.2 x8 z1).2 c2)⟩⟩)

def scontains_vc (u0 : List Int) (u1 : Int) (K : Bool → Prop) : Prop :=
  (u0.length ≤ 140737488355328 →
    (sindex_vc u0 u1 fun r13 =>
    (K (decide (r13 ≥ 0)))))

def sib_vc (u0 : List UInt8) (u1 : Int) (K : Int → Prop) : Prop :=
  (K (idxB u0 u1))
def sib (u0 : List UInt8) (u1 : Int) : Int :=
  (idxB u0 u1)
theorem sib_ok (u0 : List UInt8) (u1 : Int) : sib_vc u0 u1 (fun r => r = sib u0 u1) := (by rfl)

def tnumber_vc (u0 : Int) (u1 : Bool) (K : (List UInt8) → Prop) : Prop :=
  ((u1 = true →
      ((0 ≤ (8 : Int) ∧ (8 : Int) ≤ (8 : Int) ∧ (8 : Int) * 1 ≤ 140737488355328) ∧
      (∃ inv34 : Int → Int → (List Int) → Prop, ∃ mu34 : Int → Int → (List Int) → Nat, inv34 u0 0 (List.replicate (8 : Int).toNat (0 : Int)) ∧
      (∀ (x0 : Int) (x12 : Int) (zg200 : List Int), inv34 x0 x12 zg200 →
      (((decide (x12 < 8)) = true →
        ((0 ≤ bAnd .i64 x0 15 ∧ bAnd .i64 x0 15 < (([48, 49, 50, 51, 52, 53, 54, 55, 56, 57, 97, 98, 99, 100, 101, 102] : List UInt8).length : Int)) ∧
        (∀ c74, ([48, 49, 50, 51, 52, 53, 54, 55, 56, 57, 97, 98, 99, 100, 101, 102] : List UInt8)[(bAnd .i64 x0 15).toNat]? = some c74 →
        ((0 ≤ w64 (7 - x12) ∧ w64 (7 - x12) < (zg200.length : Int)) ∧
        (inv34 (bShr .i64 x0 4) (w64 (x12 + 1)) (zg200.set (w64 (7 - x12)).toNat (c74.toNat : Int)) ∧ mu34 (bShr .i64 x0 4) (w64 (x12 + 1)) (zg200.set (w64 (7 - x12)).toNat (c74.toNat : Int)) < mu34 x0 x12 zg200))))) ∧
      ((decide (x12 < 8)) = false →
        (K (bstr zg200)))))))) ∧
    (u1 = false →
      ((0 ≤ (3 : Int) ∧ (3 : Int) ≤ (3 : Int) ∧ (3 : Int) * 1 ≤ 140737488355328) ∧
      (∃ inv129 : Int → Int → (List Int) → Prop, ∃ mu129 : Int → Int → (List Int) → Nat, inv129 u0 0 (List.replicate (3 : Int).toNat (0 : Int)) ∧
      (∀ (x0 : Int) (x12 : Int) (zg1150 : List Int), inv129 x0 x12 zg1150 →
      (((decide (x12 < 3)) = true →
        ((0 ≤ bAnd .i64 x0 15 ∧ bAnd .i64 x0 15 < (([48, 49, 50, 51, 52, 53, 54, 55, 56, 57, 97, 98, 99, 100, 101, 102] : List UInt8).length : Int)) ∧
        (∀ c169, ([48, 49, 50, 51, 52, 53, 54, 55, 56, 57, 97, 98, 99, 100, 101, 102] : List UInt8)[(bAnd .i64 x0 15).toNat]? = some c169 →
        ((0 ≤ w64 (2 - x12) ∧ w64 (2 - x12) < (zg1150.length : Int)) ∧
        (inv129 (bShr .i64 x0 4) (w64 (x12 + 1)) (zg1150.set (w64 (2 - x12)).toNat (c169.toNat : Int)) ∧ mu129 (bShr .i64 x0 4) (w64 (x12 + 1)) (zg1150.set (w64 (2 - x12)).toNat (c169.toNat : Int)) < mu129 x0 x12 zg1150))))) ∧
      ((decide (x12 < 3)) = false →
        (K (bstr zg1150)))))))))

def hasp0_vc (u0 : List UInt8) (u1 : List UInt8) (K : Bool → Prop) : Prop :=
  (((decide ((u0.length : Int) ≥ (u1.length : Int))) = true →
      ((0 ≤ (u1.length : Int) ∧ (u1.length : Int) ≤ (u0.length : Int)) ∧
      (K ((u0.take (u1.length : Int).toNat) == u1)))) ∧
    ((decide ((u0.length : Int) ≥ (u1.length : Int))) = false →
      (K false)))
def hasp0 (u0 : List UInt8) (u1 : List UInt8) : Bool :=
  bif decide ((u0.length : Int) ≥ (u1.length : Int)) then ((u0.take (u1.length : Int).toNat) == u1)
    else false
theorem hasp0_ok (u0 : List UInt8) (u1 : List UInt8) : hasp0_vc u0 u1 (fun r => r = hasp0 u0 u1) := ⟨fun h0 => ⟨(by (try simp at h0); omega), (by simp only [hasp0, h0, cond_true, cond_false])⟩, fun h0 => (by simp only [hasp0, h0, cond_true, cond_false])⟩

def hasp_vc (u0 : List UInt8) (u1 : List UInt8) (K : Bool → Prop) : Prop :=
  (K (hasp0 u0 u1))
def hasp (u0 : List UInt8) (u1 : List UInt8) : Bool :=
  (hasp0 u0 u1)
theorem hasp_ok (u0 : List UInt8) (u1 : List UInt8) : hasp_vc u0 u1 (fun r => r = hasp u0 u1) := (by rfl)

def cutp0_vc (u0 : List UInt8) (u1 : List UInt8) (K : ((List UInt8) × Bool) → Prop) : Prop :=
  (((!(hasp0 u0 u1)) = true →
      (K (u0, false))) ∧
    ((!(hasp0 u0 u1)) = false →
      ((0 ≤ (u1.length : Int) ∧ (u1.length : Int) ≤ (u0.length : Int)) ∧
      (K (u0.drop (u1.length : Int).toNat, true)))))

def beq_vc (u0 : List Int) (u1 : List Int) (K : Bool → Prop) : Prop :=
  (u0.length ≤ 140737488355328 →
    (u1.length ≤ 140737488355328 →
    ((((u0.length : Int) != (u1.length : Int)) = true →
      (K false)) ∧
    (((u0.length : Int) != (u1.length : Int)) = false →
      (∃ inv37 : Int → Prop, ∃ mu37 : Int → Nat, inv37 0 ∧
      (∀ (x13 : Int), inv37 x13 →
      (((decide (x13 < (u0.length : Int))) = true →
        ((0 ≤ x13 ∧ x13 < (u0.length : Int)) ∧
        (∀ q74, u0[x13.toNat]? = some q74 →
        ((0 ≤ x13 ∧ x13 < (u1.length : Int)) ∧
        (∀ q96, u1[x13.toNat]? = some q96 →
        (((q74 != q96) = true →
          (K false)) ∧
        ((q74 != q96) = false →
          (inv37 (w64 (x13 + 1)) ∧ mu37 (w64 (x13 + 1)) < mu37 x13)))))))) ∧
      ((decide (x13 < (u0.length : Int))) = false →
        (K true)))))))))

def gspl_vc (u0 : List UInt8) (u1 : List UInt8) (K : (List (List UInt8)) → Prop) : Prop :=
  (((u1 == ([] : List UInt8)) = false) ∧
    ((u1.length = 1) ∧
    ((0 ≤ (min (w64 ((count1S u0 u1) + 1)) (w64 ((u0.length : Int) + 1))) ∧ (min (w64 ((count1S u0 u1) + 1)) (w64 ((u0.length : Int) + 1))) ≤ (min (w64 ((count1S u0 u1) + 1)) (w64 ((u0.length : Int) + 1))) ∧ (min (w64 ((count1S u0 u1) + 1)) (w64 ((u0.length : Int) + 1))) * 16 ≤ 140737488355328) ∧
    (∃ inv74 : (List UInt8) → Int → (List (List UInt8)) → Prop, ∃ mu74 : (List UInt8) → Int → (List (List UInt8)) → Nat, inv74 u0 0 (List.replicate (min (w64 ((count1S u0 u1) + 1)) (w64 ((u0.length : Int) + 1))).toNat ([] : List UInt8)) ∧
    (∀ (x0 : List UInt8) (x10 : Int) (zg550 : List (List UInt8)), inv74 x0 x10 zg550 →
    (((decide (x10 < (w64 ((min (w64 ((count1S u0 u1) + 1)) (w64 ((u0.length : Int) + 1))) - 1)))) = true →
      ((u1.length = 1) ∧
      (((decide ((index1S x0 u1) < 0)) = true →
        ((0 ≤ x10 ∧ x10 < (zg550.length : Int)) ∧
        ((0 ≤ (w64 (x10 + 1)) ∧ (w64 (x10 + 1)) ≤ ((zg550.set x10.toNat x0).length : Int)) ∧
        (K ((zg550.set x10.toNat x0).take (w64 (x10 + 1)).toNat))))) ∧
      ((decide ((index1S x0 u1) < 0)) = false →
        ((0 ≤ w64 ((index1S x0 u1) + 0) ∧ w64 ((index1S x0 u1) + 0) ≤ (x0.length : Int)) ∧
        ((0 ≤ x10 ∧ x10 < (zg550.length : Int)) ∧
        ((0 ≤ w64 ((index1S x0 u1) + (u1.length : Int)) ∧ w64 ((index1S x0 u1) + (u1.length : Int)) ≤ (x0.length : Int)) ∧
        (inv74 (x0.drop (w64 ((index1S x0 u1) + (u1.length : Int))).toNat) (w64 (x10 + 1)) (zg550.set x10.toNat (x0.take (w64 ((index1S x0 u1) + 0)).toNat)) ∧ mu74 (x0.drop (w64 ((index1S x0 u1) + (u1.length : Int))).toNat) (w64 (x10 + 1)) (zg550.set x10.toNat (x0.take (w64 ((index1S x0 u1) + 0)).toNat)) < mu74 x0 x10 zg550)))))))) ∧
    ((decide (x10 < (w64 ((min (w64 ((count1S u0 u1) + 1)) (w64 ((u0.length : Int) + 1))) - 1)))) = false →
      ((0 ≤ x10 ∧ x10 < (zg550.length : Int)) ∧
      ((0 ≤ (w64 (x10 + 1)) ∧ (w64 (x10 + 1)) ≤ ((zg550.set x10.toNat x0).length : Int)) ∧
      (K ((zg550.set x10.toNat x0).take (w64 (x10 + 1)).toNat)))))))))))

def thex_vc (u0 : List UInt8) (K : (Int × Bool) → Prop) : Prop :=
  (∃ inv17 : Int → Int → Prop, ∃ mu17 : Int → Int → Nat, inv17 0 0 ∧
    (∀ (x4 : Int) (x9 : Int), inv17 x4 x9 →
    (((decide (x9 < (u0.length : Int))) = true →
      ((0 ≤ x9 ∧ x9 < (u0.length : Int)) ∧
      (∀ c47, u0[x9.toNat]? = some c47 →
      (((decide ((sib ([48, 49, 50, 51, 52, 53, 54, 55, 56, 57, 97, 98, 99, 100, 101, 102] : List UInt8) (c47.toNat : Int)) < 0)) = true →
        (K (0, false))) ∧
      ((decide ((sib ([48, 49, 50, 51, 52, 53, 54, 55, 56, 57, 97, 98, 99, 100, 101, 102] : List UInt8) (c47.toNat : Int)) < 0)) = false →
        (inv17 (bOr .i64 (bShl .i64 x4 4) (sib ([48, 49, 50, 51, 52, 53, 54, 55, 56, 57, 97, 98, 99, 100, 101, 102] : List UInt8) (c47.toNat : Int))) (w64 (x9 + 1)) ∧ mu17 (bOr .i64 (bShl .i64 x4 4) (sib ([48, 49, 50, 51, 52, 53, 54, 55, 56, 57, 97, 98, 99, 100, 101, 102] : List UInt8) (c47.toNat : Int))) (w64 (x9 + 1)) < mu17 x4 x9)))))) ∧
    ((decide (x9 < (u0.length : Int))) = false →
      (K (x4, true))))))

/-! Pure proofs: no program in sight. -/
def sidx {α : Type} (p : α → Bool) (l : List α) : Int := match l.findIdx? p with | some i => (i : Int) | none => -1
theorem sidx_at {α : Type} (p : α → Bool) (l : List α) (k : Nat) (q : α) (hq : l[k]? = some q) (hp : p q = true) (hb : ∀ j x, j < k → l[j]? = some x → p x = false) : sidx p l = k := by
  unfold sidx
  have : l.findIdx? p = some k := by
    rw [List.findIdx?_eq_some_iff_getElem]
    obtain ⟨h1, h2⟩ := List.getElem?_eq_some_iff.1 hq
    exact ⟨h1, by rw [h2]; exact hp, fun j hj => by rw [hb j _ hj (List.getElem?_eq_getElem (by omega))]; simp⟩
  rw [this]
theorem sidx_none {α : Type} (p : α → Bool) (l : List α) (hb : ∀ (j : Nat) x, l[j]? = some x → p x = false) : sidx p l = -1 := by
  unfold sidx
  have : l.findIdx? p = none := by
    rw [List.findIdx?_eq_none_iff]
    intro x hx
    obtain ⟨j, hj⟩ := List.mem_iff_getElem?.1 hx
    exact hb j x hj
  rw [this]
theorem sidx_ge {α : Type} (p : α → Bool) (l : List α) : decide (sidx p l ≥ 0) = l.any p := by
  unfold sidx
  cases h : l.findIdx? p with
  | none =>
    have : l.any p = false := by
      rw [List.findIdx?_eq_none_iff] at h
      rw [List.any_eq_false]
      intro x hx
      simp [h x hx]
    rw [this]
    rfl
  | some i =>
    have : l.any p = true := by
      rw [List.findIdx?_eq_some_iff_getElem] at h
      obtain ⟨h1, h2, _⟩ := h
      exact List.any_eq_true.2 ⟨_, List.getElem_mem h1, h2⟩
    rw [this]
    simp
theorem sindex_ok (l : List Int) (x : Int) : sindex_vc l x (fun r => r = sidx (fun q => x == q) l) := by
  intro hl
  refine rg0 hl (fun k => ∀ j y, j < k → l[j]? = some y → (x == y) = false) (fun j y h => absurd h (Nat.not_lt_zero _)) ?_ ?_
  · intro k q hk hq hj inv mu hn
    refine ⟨fun h => (sidx_at _ l k q hq h hj).symm, fun h => hn fun j y hj1 hy => ?_⟩
    rcases Nat.lt_or_ge j k with h1 | h1
    · exact hj j y h1 hy
    · have : j = k := by omega
      subst this
      rw [hq] at hy
      cases hy
      exact h
  · intro hj
    refine (sidx_none _ l fun j y hy => hj j y (List.getElem?_eq_some_iff.1 hy).1 hy).symm
def scontainsS (l : List Int) (x : Int) : Bool := l.any fun q => x == q
theorem scontains_ok (l : List Int) (x : Int) : scontains_vc l x (fun r => r = scontainsS l x) := fun _ => sindex_mono (fun r h => by subst h; exact sidx_ge _ l) (sindex_ok l x)
def beqS (a b : List Int) : Bool := decide (a = b)
theorem list_eq_at {α : Type} {a b : List α} (hl : a.length = b.length) (h : ∀ (k : Nat) (x y : α), a[k]? = some x → b[k]? = some y → x = y) : a = b := by
  apply List.ext_getElem? 
  intro k
  rcases Nat.lt_or_ge k a.length with hk | hk
  · have h1 := List.getElem?_eq_getElem hk
    have h2 := List.getElem?_eq_getElem (l := b) (show k < b.length by omega)
    rw [h1, h2, h k _ _ h1 h2]
  · rw [List.getElem?_eq_none hk, List.getElem?_eq_none (by omega)]
theorem beq_ok (a b : List Int) : beq_vc a b (fun r => r = beqS a b) := by
  intro ha hb
  refine ⟨fun h => ?_, fun h => ?_⟩
  · have h : ¬ (a.length : Int) = (b.length : Int) := by simpa using h
    unfold beqS
    rw [decide_eq_false]
    intro e
    rw [e] at h
    exact h rfl
  · have h : a.length = b.length := by
      have h : (a.length : Int) = (b.length : Int) := by simpa only [bne_eq_false_iff_eq] using h
      omega
    refine ⟨fun i => ∃ k : Nat, i = k ∧ k ≤ a.length ∧ ∀ (j : Nat) (x y : Int), j < k → a[j]? = some x → b[j]? = some y → x = y, fun i => a.length - i.toNat, ⟨0, rfl, by omega, fun j _ _ hj => absurd hj (Nat.not_lt_zero _)⟩, ?_⟩
    rintro _ ⟨k, rfl, hk, hj⟩
    refine ⟨fun h1 => ?_, fun h1 => ?_⟩
    · have hk : k < a.length := by have := of_decide_eq_true h1; omega
      rw [w64_succ k (by omega)]
      refine ⟨by omega, fun q hq => ⟨by omega, fun p hp => ⟨fun h2 => ?_, fun h2 => ?_⟩⟩⟩
      · unfold beqS
        rw [decide_eq_false]
        rintro rfl
        rw [hq] at hp
        cases hp
        simp at h2
      · have h2 : q = p := by simpa using h2
        rw [Int.toNat_natCast] at hq hp
        refine ⟨⟨k + 1, rfl, by omega, fun j x y hj1 hx hy => ?_⟩, by (try dsimp only); omega⟩
        rcases Nat.lt_or_ge j k with hc | hc
        · exact hj j x y hc hx hy
        · have : j = k := by omega
          subst this
          rw [hq] at hx
          rw [hp] at hy
          cases hx; cases hy; exact h2
    · have : k = a.length := by have := of_decide_eq_false h1; omega
      subst this
      unfold beqS
      rw [decide_eq_true]
      exact list_eq_at h fun k x y hx hy => hj k x y (List.getElem?_eq_some_iff.1 hx).1 hx hy
/-! ### Numbers in hexadecimal digits -/
def dgt : List UInt8 := [48, 49, 50, 51, 52, 53, 54, 55, 56, 57, 97, 98, 99, 100, 101, 102]
def hexd (n : Nat) : UInt8 := if n < 10 then UInt8.ofNat (48 + n) else UInt8.ofNat (87 + n)
def hexN : Nat → Nat → List UInt8
  | 0, _ => []
  | k + 1, u => hexd (u / 16 ^ k % 16) :: hexN k u
def numS (id : Int) (long : Bool) : List UInt8 := hexN (bif long then 8 else 3) id.toNat
theorem dgt_at : ∀ k : Fin 16, dgt[k.val]? = some (hexd k.val) := by decide +kernel
theorem and15N (v : Nat) (hv : v < 4611686018427387904) : bAnd .i64 (v : Int) 15 = ((v % 16 : Nat) : Int) := by
  have h := bAnd_nat v 15 (by omega) (by omega)
  have e : v &&& 15 = v % 16 := Nat.and_two_pow_sub_one_eq_mod v 4
  rw [e] at h
  exact h
theorem shr4N (v : Nat) : bShr .i64 (v : Int) 4 = ((v / 16 : Nat) : Int) := shrN v 4 (by omega)
theorem num_loop (m : Nat) (M t : Int) (hM : M = m) (ht : t = (m : Int) - 1) (hm : m ≤ 8) (v : Nat) (hv : v < 4611686018427387904) (K : List UInt8 → Prop) (hK : K (hexN m v)) :
    ∃ inv : Int → Int → List Int → Prop, ∃ mu : Int → Int → List Int → Nat, inv (v : Int) 0 (List.replicate M.toNat (0 : Int)) ∧
      ∀ (x0 : Int) (i : Int) (z : List Int), inv x0 i z → ((decide (i < M) = true →
        ((0 ≤ bAnd .i64 x0 15 ∧ bAnd .i64 x0 15 < (([48, 49, 50, 51, 52, 53, 54, 55, 56, 57, 97, 98, 99, 100, 101, 102] : List UInt8).length : Int)) ∧
        (∀ c, ([48, 49, 50, 51, 52, 53, 54, 55, 56, 57, 97, 98, 99, 100, 101, 102] : List UInt8)[(bAnd .i64 x0 15).toNat]? = some c →
        ((0 ≤ w64 (t - i) ∧ w64 (t - i) < (z.length : Int)) ∧
        (inv (bShr .i64 x0 4) (w64 (i + 1)) (z.set (w64 (t - i)).toNat (c.toNat : Int)) ∧ mu (bShr .i64 x0 4) (w64 (i + 1)) (z.set (w64 (t - i)).toNat (c.toNat : Int)) < mu x0 i z))))) ∧
      (decide (i < M) = false → K (bstr z))) := by
  subst hM ht
  refine ⟨fun x i z => ∃ k : Nat, i = k ∧ k ≤ m ∧ x = ((v / 16 ^ k : Nat) : Int) ∧ z.length = m ∧ z.drop (m - k) = (hexN k v).map (fun c => (c.toNat : Int)), fun _ i _ => m - i.toNat,
    ⟨0, rfl, by omega, by simp, by simp, by simp [hexN]⟩, ?_⟩
  rintro _ _ z ⟨k, rfl, hk, rfl, hz, hd⟩
  have hv2 : v / 16 ^ k < 4611686018427387904 := Nat.lt_of_le_of_lt (Nat.div_le_self _ _) hv
  rw [and15N _ hv2, shr4N]
  refine ⟨fun h1 => ⟨⟨by omega, by simp only [List.length_cons, List.length_nil]; omega⟩, fun c hc => ?_⟩, fun h1 => ?_⟩
  · have hkm : k < m := by simp at h1; omega
    have e1 : w64 ((m : Int) - 1 - k) = ((m - 1 - k : Nat) : Int) := by rw [w64_eq _ (by omega)]; omega
    have hc : c = hexd (v / 16 ^ k % 16) := by
      have h2 := dgt_at ⟨v / 16 ^ k % 16, by omega⟩
      rw [Int.toNat_natCast] at hc
      exact Option.some.inj (hc.symm.trans h2)
    subst hc
    rw [e1, w64_succ k (by omega)]
    refine ⟨by omega, ⟨k + 1, rfl, by omega, ?_, by simpa using hz, ?_⟩, by dsimp only; omega⟩
    · rw [Nat.div_div_eq_div_mul, Nat.pow_succ]
    · have e2 : m - (k + 1) = m - 1 - k := by omega
      rw [e2, Int.toNat_natCast, hexN, List.map_cons, ← hd]
      have hlt : m - 1 - k < z.length := by omega
      have e3 : m - k = m - 1 - k + 1 := by omega
      rw [e3, List.drop_eq_getElem_cons (by simpa using hlt), List.getElem_set_self, List.drop_set_of_lt (by omega)]
  · have : k = m := by simp at h1; omega
    subst this
    have e2 : k - k = 0 := by omega
    rw [e2, List.drop_zero] at hd
    rw [hd, bstr_ints]
    exact hK
theorem tnumber_ok (n : Int) (l : Bool) (h : 0 ≤ n ∧ n < 4611686018427387904) : tnumber_vc n l (fun r => r = numS n l) := by
  obtain ⟨v, rfl⟩ : ∃ v : Nat, n = v := ⟨n.toNat, by omega⟩
  refine ⟨fun h1 => ⟨by omega, num_loop 8 8 7 rfl rfl (by omega) v (by omega) (fun r => r = numS (v : Int) l) ?_⟩, fun h1 => ⟨by omega, num_loop 3 3 2 rfl rfl (by omega) v (by omega) (fun r => r = numS (v : Int) l) ?_⟩⟩
  · subst h1; rfl
  · subst h1; rfl
theorem hexN_len : ∀ k n, (hexN k n).length = k
  | 0, _ => rfl
  | k + 1, n => by rw [hexN, List.length_cons, hexN_len k n]
theorem numS_len (n : Int) (l : Bool) : (numS n l).length ≤ 8 := by
  unfold numS
  rw [hexN_len]
  cases l <;> decide
/-! ### What is read in hexadecimal digits -/
def hexF (n : Int) : List UInt8 → Int × Bool
  | [] => (n, true)
  | c :: r => if sib dgt (c.toNat : Int) < 0 then (0, false) else hexF (bOr .i64 (bShl .i64 n 4) (sib dgt (c.toNat : Int))) r
def thexS (l : List UInt8) : Int × Bool := hexF 0 l
theorem thex_ok (l : List UInt8) (hl : l.length ≤ 1000000) : thex_vc l (fun r => r = thexS l) := by
  refine ⟨fun n i => ∃ k : Nat, i = k ∧ k ≤ l.length ∧ hexF n (l.drop k) = hexF 0 l, fun _ i => l.length - i.toNat, ⟨0, rfl, by omega, rfl⟩, ?_⟩
  rintro n _ ⟨k, rfl, hk, he⟩
  refine ⟨fun h1 => ?_, fun h1 => ?_⟩
  · have hkm : k < l.length := by simpa using h1
    refine ⟨by omega, fun c hc => ?_⟩
    rw [Int.toNat_natCast] at hc
    have hd : l.drop k = c :: l.drop (k + 1) := by
      obtain ⟨h2, h3⟩ := List.getElem?_eq_some_iff.1 hc
      rw [List.drop_eq_getElem_cons h2, h3]
    rw [hd, hexF] at he
    rw [w64_succ k (by omega)]
    refine ⟨fun h2 => ?_, fun h2 => ⟨⟨k + 1, rfl, by omega, ?_⟩, by dsimp only; omega⟩⟩
    · have h2 : sib dgt (c.toNat : Int) < 0 := of_decide_eq_true h2
      rw [if_pos h2] at he
      exact he
    · have h2 : ¬ sib dgt (c.toNat : Int) < 0 := of_decide_eq_false h2
      rw [if_neg h2] at he
      exact he
  · have : k = l.length := by simp at h1; omega
    subst this
    rw [List.drop_length] at he
    exact he
/-! ### Split at one byte -/
def splitA (c : UInt8) : List UInt8 → List (List UInt8)
  | [] => [[]]
  | b :: r => if b == c then [] :: splitA c r else match splitA c r with | [] => [[b]] | x :: t => (b :: x) :: t
theorem splitA_ne (c : UInt8) : ∀ l, splitA c l ≠ []
  | [] => by simp [splitA]
  | b :: r => by
    rw [splitA]
    split
    · simp
    · split <;> simp
theorem splitA_len (c : UInt8) : ∀ l : List UInt8, (splitA c l).length = l.count c + 1
  | [] => rfl
  | b :: r => by
    rw [splitA, List.count_cons]
    have ih := splitA_len c r
    split
    · rw [List.length_cons, ih]
    · split
      · next h => exact absurd h (splitA_ne c r)
      · next x t h => rw [h] at ih; rw [List.length_cons]; rw [List.length_cons] at ih; omega
theorem splitA_miss (c : UInt8) : ∀ l : List UInt8, Lib.indexByte l c = -1 → splitA c l = [l]
  | [], _ => rfl
  | b :: r, h => by
    rw [Lib.indexByte] at h
    split at h
    · cases h
    · next hb =>
      split at h
      · next h2 => rw [splitA, if_neg hb, splitA_miss c r (by simpa using h2)]
      · next h2 =>
        have := Lib.indexByte_ge r c
        have : Lib.indexByte r c ≠ -1 := by simpa using h2
        omega
theorem splitA_hit (c : UInt8) : ∀ (l : List UInt8) (k : Nat), Lib.indexByte l c = k → k < l.length ∧ splitA c l = l.take k :: splitA c (l.drop (k + 1))
  | [], k, h => by exfalso; have h : (-1 : Int) = (k : Int) := h; omega
  | b :: r, k, h => by
    rw [Lib.indexByte] at h
    split at h
    · next hb =>
      obtain rfl : k = 0 := by omega
      exact ⟨by simp, by rw [splitA, if_pos hb]; rfl⟩
    · next hb =>
      split at h
      · omega
      · next h2 =>
        have h5 : Lib.indexByte r c ≠ -1 := by simpa using h2
        have h6 := Lib.indexByte_ge r c
        have hk : 0 < k := by omega
        obtain ⟨h3, h4⟩ := splitA_hit c r (k - 1) (by omega)
        obtain ⟨j, rfl⟩ : ∃ j, k = j + 1 := ⟨k - 1, by omega⟩
        refine ⟨by rw [List.length_cons]; omega, ?_⟩
        rw [splitA, if_neg hb]
        have e : j + 1 - 1 = j := by omega
        rw [e] at h4
        rw [h4]
        rfl
def splitS (l s : List UInt8) : List (List UInt8) := match s with | [c] => splitA c l | _ => []
theorem gspl_ok (l s : List UInt8) (h : l.length ≤ 1000000 ∧ s.length = 1) : gspl_vc l s (fun r => r = splitS l s) := by
  obtain ⟨hl, hs⟩ := h
  obtain ⟨c, rfl⟩ : ∃ c, s = [c] := by
    match s, hs with
    | [c], _ => exact ⟨c, rfl⟩
  have hct : l.count c ≤ l.length := List.count_le_length
  have e1 : min (w64 (count1S l [c] + 1)) (w64 ((l.length : Int) + 1)) = ((l.count c + 1 : Nat) : Int) := by
    show min (w64 (((l.count c : Nat) : Int) + 1)) _ = _
    rw [w64_eq _ (by omega), w64_eq _ (by omega)]
    omega
  unfold gspl_vc
  rw [e1]
  have e2 : w64 (((l.count c + 1 : Nat) : Int) - 1) = ((l.count c : Nat) : Int) := by rw [w64_eq _ (by omega)]; omega
  rw [e2]
  refine ⟨by simp, rfl, by omega, fun x i z => ∃ (k : Nat) (pre : List (List UInt8)), i = k ∧ pre.length = k ∧ z.length = l.count c + 1 ∧ z.take k = pre ∧ pre ++ splitA c x = splitA c l ∧ x.length ≤ l.length, fun _ i _ => l.count c + 1 - i.toNat,
    ⟨0, [], rfl, rfl, by simp, by simp, rfl, by omega⟩, ?_⟩
  rintro x _ z ⟨k, pre, rfl, hp, hz, ht, hq, hx⟩
  have hlen := congrArg List.length hq
  rw [List.length_append, splitA_len, splitA_len, hp] at hlen
  have hset : splitA c x = [x] → ((z.set k x).take (k + 1)) = splitA c l := fun h1 => by
    have hk : k < z.length := by omega
    rw [h1, ← ht] at hq
    rw [List.take_set, ← hq, List.take_succ_eq_append_getElem hk]
    rw [List.set_append_right _ _ (by rw [List.length_take]; omega)]
    have : k - (z.take k).length = 0 := by rw [List.length_take]; omega
    rw [this]
    rfl
  have ei : index1S x [c] = Lib.indexByte x c := rfl
  refine ⟨fun h1 => ⟨rfl, fun h2 => ?_, fun h2 => ?_⟩, fun h1 => ?_⟩
  · exfalso
    have h1 := of_decide_eq_true h1
    have h2 := of_decide_eq_true h2
    rw [ei] at h2
    have := splitA_miss c x (by have := Lib.indexByte_ge x c; omega)
    have h3 := splitA_len c x
    rw [this] at h3
    simp at h3
    omega
  · have h1 := of_decide_eq_true h1
    have h2 := of_decide_eq_false h2
    obtain ⟨m, hm⟩ : ∃ m : Nat, Lib.indexByte x c = m := ⟨(Lib.indexByte x c).toNat, by rw [ei] at h2; omega⟩
    obtain ⟨h3, h4⟩ := splitA_hit c x m hm
    have e3 : w64 (index1S x [c] + 0) = m := by rw [ei, hm, Int.add_zero, w64_eq _ (by omega)]
    have e4 : w64 (index1S x [c] + (([c] : List UInt8).length : Int)) = ((m + 1 : Nat) : Int) := by rw [ei, hm]; simp only [List.length_cons, List.length_nil]; rw [w64_eq _ (by omega)]; omega
    rw [e3, e4, w64_succ k (by omega)]
    refine ⟨by omega, by omega, by omega, ⟨k + 1, pre ++ [x.take m], rfl, by simp [hp], by simpa using hz, ?_, ?_, ?_⟩, by dsimp only; omega⟩
    · rw [Int.toNat_natCast, List.take_set, List.take_succ_eq_append_getElem (show k < z.length by omega), ht, List.set_append_right _ _ (by omega), hp, Nat.sub_self]
      rfl
    · rw [Int.toNat_natCast, List.append_assoc, ← hq, h4]
      rfl
    · rw [List.length_drop]; omega
  · have h1 := of_decide_eq_false h1
    rw [w64_succ k (by omega)]
    have hone : splitA c x = [x] := by
      refine splitA_miss c x ?_
      apply Decidable.byContradiction
      intro h3
      obtain ⟨m, hm⟩ : ∃ m : Nat, Lib.indexByte x c = m := ⟨(Lib.indexByte x c).toNat, by have := Lib.indexByte_ge x c; omega⟩
      have h4 := (splitA_hit c x m hm).2
      have h5 := congrArg List.length h4
      rw [splitA_len, List.length_cons, splitA_len] at h5
      omega
    have hk : k ≤ l.count c := by omega
    exact ⟨by omega, by rw [List.length_set]; omega, hset hone⟩
/-- A prefix is cut off. -/
def cutS (l p : List UInt8) : List UInt8 × Bool := bif hasp0 l p then (l.drop p.length, true) else (l, false)
theorem hasp0_len {l p : List UInt8} (h : hasp0 l p = true) : p.length ≤ l.length := by
  unfold hasp0 at h
  cases h1 : decide ((l.length : Int) ≥ (p.length : Int)) with
  | true => simp at h1; omega
  | false => rw [h1] at h; cases h
theorem cutp0_ok (l p : List UInt8) : cutp0_vc l p (fun r => r = cutS l p) := by
  refine ⟨fun h => ?_, fun h => ?_⟩
  · have h : hasp0 l p = false := by simpa using h
    unfold cutS; rw [h]; rfl
  · have h : hasp0 l p = true := by simpa using h
    have := hasp0_len h
    refine ⟨by omega, ?_⟩
    unfold cutS; rw [h, Int.toNat_natCast]; rfl

end Go.Proofs.YtdenmllkjdijlaaGreatDoor
set_option linter.unusedVariables false
set_option linter.unusedSimpArgs false
namespace Go.Proofs.YtdenmllkjdijlaaGreatDoor
open Go.Sy Go.RowKit
def cutp_vc (u0 : List UInt8) (u1 : List UInt8) (K : ((List UInt8) × Bool) → Prop) : Prop :=
  (K ((cutS u0 u1).1, (cutS u0 u1).2))
def cutp (u0 : List UInt8) (u1 : List UInt8) : (List UInt8) × Bool :=
  ((cutS u0 u1).1, (cutS u0 u1).2)
theorem cutp_ok (u0 : List UInt8) (u1 : List UInt8) : cutp_vc u0 u1 (fun r => r = cutp u0 u1) := (by rfl)

def tsplit_vc (u0 : List UInt8) (u1 : List UInt8) (K : (List (List UInt8)) → Prop) : Prop :=
  ((u0.length ≤ 1000000 ∧ u1.length = 1) ∧
    ((splitS u0 u1).length ≤ 140737488355328 →
    (K (splitS u0 u1))))

def fcheckfr_vc (u0 : Frame) (K : Int → Prop) : Prop :=
  (u0.Data.length ≤ 140737488355328 →
    (((((decide (u0.ID < 0)) || ((!u0.Long) && (decide (u0.ID > 2047)))) || (decide (u0.ID > 536870911))) = true →
      (K 3)) ∧
    ((((decide (u0.ID < 0)) || ((!u0.Long) && (decide (u0.ID > 2047)))) || (decide (u0.ID > 536870911))) = false →
      (((u0.Remote && (u0.Fast || (decide ((u0.Data.length : Int) > 0)))) = true →
        (K 4)) ∧
      ((u0.Remote && (u0.Fast || (decide ((u0.Data.length : Int) > 0)))) = false →
        (((((decide (u0.Size < 0)) || (decide (u0.Size > 8))) || ((!u0.Remote) && (u0.Size != 0))) = true →
          (K 3)) ∧
        ((((decide (u0.Size < 0)) || (decide (u0.Size > 8))) || ((!u0.Remote) && (u0.Size != 0))) = false →
          ((((decide ((u0.Data.length : Int) > 64)) || ((!u0.Fast) && (decide ((u0.Data.length : Int) > 8)))) = true →
            (K 2)) ∧
          (((decide ((u0.Data.length : Int) > 64)) || ((!u0.Fast) && (decide ((u0.Data.length : Int) > 8)))) = false →
            (((!(scontainsS fsizes (u0.Data.length : Int))) = true →
              (K 4)) ∧
            ((!(scontainsS fsizes (u0.Data.length : Int))) = false →
              (K 0))))))))))))
def fcheckfr (u0 : Frame) : Int :=
  bif ((decide (u0.ID < 0)) || ((!u0.Long) && (decide (u0.ID > 2047)))) || (decide (u0.ID > 536870911)) then 3
    else bif u0.Remote && (u0.Fast || (decide ((u0.Data.length : Int) > 0))) then 4
    else bif ((decide (u0.Size < 0)) || (decide (u0.Size > 8))) || ((!u0.Remote) && (u0.Size != 0)) then 3
    else bif (decide ((u0.Data.length : Int) > 64)) || ((!u0.Fast) && (decide ((u0.Data.length : Int) > 8))) then 2
    else bif !(scontainsS fsizes (u0.Data.length : Int)) then 4
    else 0
theorem fcheckfr_ok (u0 : Frame) : fcheckfr_vc u0 (fun r => r = fcheckfr u0) := (fun _ => ⟨fun h0 => (by simp only [fcheckfr, h0, cond_true, cond_false]), fun h0 => ⟨fun h1 => (by simp only [fcheckfr, h0, h1, cond_true, cond_false]), fun h1 => ⟨fun h2 => (by simp only [fcheckfr, h0, h1, h2, cond_true, cond_false]), fun h2 => ⟨fun h3 => (by simp only [fcheckfr, h0, h1, h2, h3, cond_true, cond_false]), fun h3 => ⟨fun h4 => (by simp only [fcheckfr, h0, h1, h2, h3, h4, cond_true, cond_false]), fun h4 => (by simp only [fcheckfr, h0, h1, h2, h3, h4, cond_true, cond_false])⟩⟩⟩⟩⟩)

def rcheckfr_vc (u0 : Frame) (K : Int → Prop) : Prop :=
  (u0.Data.length ≤ 140737488355328 →
    ((u0.Long = true →
      ((((decide (u0.ID < 0)) || (decide (u0.ID > 536870911))) = true →
        (K 3)) ∧
      (((decide (u0.ID < 0)) || (decide (u0.ID > 536870911))) = false →
        (((u0.Remote && (u0.Fast || ((u0.Data.length : Int) != 0))) = true →
          (K 4)) ∧
        ((u0.Remote && (u0.Fast || ((u0.Data.length : Int) != 0))) = false →
          (((((decide (u0.Size < 0)) || (decide (u0.Size > 8))) || ((decide (u0.Size > 0)) && (!u0.Remote))) = true →
            (K 3)) ∧
          ((((decide (u0.Size < 0)) || (decide (u0.Size > 8))) || ((decide (u0.Size > 0)) && (!u0.Remote))) = false →
            ((((decide ((u0.Data.length : Int) > 64)) || ((decide ((u0.Data.length : Int) > 8)) && (!u0.Fast))) = true →
              (K 2)) ∧
            (((decide ((u0.Data.length : Int) > 64)) || ((decide ((u0.Data.length : Int) > 8)) && (!u0.Fast))) = false →
              (((!(scontainsS rsizes (u0.Data.length : Int))) = true →
                (K 4)) ∧
              ((!(scontainsS rsizes (u0.Data.length : Int))) = false →
                (K 0)))))))))))) ∧
    (u0.Long = false →
      ((((decide (u0.ID < 0)) || (decide (u0.ID > 2047))) = true →
        (K 3)) ∧
      (((decide (u0.ID < 0)) || (decide (u0.ID > 2047))) = false →
        (((u0.Remote && (u0.Fast || ((u0.Data.length : Int) != 0))) = true →
          (K 4)) ∧
        ((u0.Remote && (u0.Fast || ((u0.Data.length : Int) != 0))) = false →
          (((((decide (u0.Size < 0)) || (decide (u0.Size > 8))) || ((decide (u0.Size > 0)) && (!u0.Remote))) = true →
            (K 3)) ∧
          ((((decide (u0.Size < 0)) || (decide (u0.Size > 8))) || ((decide (u0.Size > 0)) && (!u0.Remote))) = false →
            ((((decide ((u0.Data.length : Int) > 64)) || ((decide ((u0.Data.length : Int) > 8)) && (!u0.Fast))) = true →
              (K 2)) ∧
            (((decide ((u0.Data.length : Int) > 64)) || ((decide ((u0.Data.length : Int) > 8)) && (!u0.Fast))) = false →
              (((!(scontainsS rsizes (u0.Data.length : Int))) = true →
                (K 4)) ∧
              ((!(scontainsS rsizes (u0.Data.length : Int))) = false →
                (K 0))))))))))))))

def rsame_vc (u0 : Frame) (u1 : Frame) (K : Bool → Prop) : Prop :=
  (u0.Data.length ≤ 140737488355328 →
    (u1.Data.length ≤ 140737488355328 →
    (K ((((((u0.ID == u1.ID) && (u0.Long == u1.Long)) && (u0.Fast == u1.Fast)) && (u0.Remote == u1.Remote)) && (u0.Size == u1.Size)) && (beqS u0.Data u1.Data)))))

/-! Pure proofs: no program in sight. -/
theorem fcheck_eq (f : Frame) (c1 c2 c3 c4 : Bool) (h1 : c1 = (((decide (f.ID < 0)) || ((!f.Long) && (decide (f.ID > 2047)))) || (decide (f.ID > 536870911)))) (h2 : c2 = (f.Remote && (f.Fast || (decide ((f.Data.length : Int) > 0)))))
    (h3 : c3 = (((decide (f.Size < 0)) || (decide (f.Size > 8))) || ((!f.Remote) && (f.Size != 0)))) (h4 : c4 = ((decide ((f.Data.length : Int) > 64)) || ((!f.Fast) && (decide ((f.Data.length : Int) > 8))))) :
    fcheckfr f = bif c1 then 3 else bif c2 then 4 else bif c3 then 3 else bif c4 then 2 else bif !(scontainsS rsizes (f.Data.length : Int)) then 4 else 0 := by
  subst h1 h2 h3 h4
  rfl
theorem rcheckfr_ok (f : Frame) : rcheckfr_vc f (fun r => r = fcheckfr f) := by
  intro _
  have e2 : (f.Remote && (f.Fast || ((f.Data.length : Int) != 0))) = (f.Remote && (f.Fast || (decide ((f.Data.length : Int) > 0)))) := by
    congr 2
    rw [Bool.eq_iff_iff, bne_iff_ne, decide_eq_true_eq]
    omega
  have e3 : (((decide (f.Size < 0)) || (decide (f.Size > 8))) || ((decide (f.Size > 0)) && (!f.Remote))) = (((decide (f.Size < 0)) || (decide (f.Size > 8))) || ((!f.Remote) && (f.Size != 0))) := by
    cases f.Remote
    · rw [Bool.eq_iff_iff]
      simp
      omega
    · simp
  have e4 : ((decide ((f.Data.length : Int) > 64)) || ((decide ((f.Data.length : Int) > 8)) && (!f.Fast))) = ((decide ((f.Data.length : Int) > 64)) || ((!f.Fast) && (decide ((f.Data.length : Int) > 8)))) := by
    rw [Bool.and_comm (decide ((f.Data.length : Int) > 8))]
  refine ⟨fun hL => ?_, fun hL => ?_⟩
  · have e1 : ((decide (f.ID < 0)) || (decide (f.ID > 536870911))) = (((decide (f.ID < 0)) || ((!f.Long) && (decide (f.ID > 2047)))) || (decide (f.ID > 536870911))) := by rw [hL]; simp
    have e := fcheck_eq f _ _ _ _ e1 e2 e3 e4
    rw [e]
    refine ⟨fun g1 => by rw [g1]; rfl, fun g1 => ⟨fun g2 => by rw [g1, g2]; rfl, fun g2 => ⟨fun g3 => by rw [g1, g2, g3]; rfl, fun g3 => ⟨fun g4 => by rw [g1, g2, g3, g4]; rfl, fun g4 => ⟨fun g5 => by rw [g1, g2, g3, g4, g5]; rfl, fun g5 => by rw [g1, g2, g3, g4, g5]; rfl⟩⟩⟩⟩⟩
  · have e1 : ((decide (f.ID < 0)) || (decide (f.ID > 2047))) = (((decide (f.ID < 0)) || ((!f.Long) && (decide (f.ID > 2047)))) || (decide (f.ID > 536870911))) := by
      rw [hL, Bool.eq_iff_iff]
      simp
      omega
    have e := fcheck_eq f _ _ _ _ e1 e2 e3 e4
    rw [e]
    refine ⟨fun g1 => by rw [g1]; rfl, fun g1 => ⟨fun g2 => by rw [g1, g2]; rfl, fun g2 => ⟨fun g3 => by rw [g1, g2, g3]; rfl, fun g3 => ⟨fun g4 => by rw [g1, g2, g3, g4]; rfl, fun g4 => ⟨fun g5 => by rw [g1, g2, g3, g4, g5]; rfl, fun g5 => by rw [g1, g2, g3, g4, g5]; rfl⟩⟩⟩⟩⟩
def sameS (a b : Frame) : Bool := (((((a.ID == b.ID) && (a.Long == b.Long)) && (a.Fast == b.Fast)) && (a.Remote == b.Remote)) && (a.Size == b.Size)) && (beqS a.Data b.Data)
theorem rsame_ok (a b : Frame) : rsame_vc a b (fun r => r = sameS a b) := fun _ _ => rfl
theorem tsplit_ok (l s : List UInt8) (h : l.length ≤ 1000000 ∧ s.length = 1) : tsplit_vc l s (fun r => r = splitS l s) := ⟨h, fun _ => rfl⟩

end Go.Proofs.YtdenmllkjdijlaaGreatDoor
set_option linter.unusedVariables false
set_option linter.unusedSimpArgs false
namespace Go.Proofs.YtdenmllkjdijlaaGreatDoor
open Go.Sy Go.RowKit
def tcheck_vc (u0 : List Line) (K : Int → Prop) : Prop :=
  (u0.length ≤ 140737488355328 →
    (((decide ((u0.length : Int) > 100)) = true →
      (K 2)) ∧
    ((decide ((u0.length : Int) > 100)) = false →
      (∃ inv32 : Int → Int → Prop, ∃ mu32 : Int → Int → Nat, inv32 0 0 ∧
      (∀ (x3 : Int) (x12 : Int), inv32 x3 x12 →
      (((decide (x12 < (u0.length : Int))) = true →
        ((0 ≤ x12 ∧ x12 < (u0.length : Int)) ∧
        (∀ q56, u0[x12.toNat]? = some q56 →
        (q56.F.Data.length ≤ 140737488355328 →
        ((((((decide (q56.Time < 0)) || (decide (q56.Time > 1000000))) || (decide (q56.Bus < 0))) || (decide (q56.Bus ≥ 4))) = true →
          (K 3)) ∧
        (((((decide (q56.Time < 0)) || (decide (q56.Time > 1000000))) || (decide (q56.Bus < 0))) || (decide (q56.Bus ≥ 4))) = false →
          (((decide (q56.Time < x3)) = true →
            (K 12)) ∧
          ((decide (q56.Time < x3)) = false →
            ((((fcheckfr q56.F) != 0) = true →
              (K (fcheckfr q56.F))) ∧
            (((fcheckfr q56.F) != 0) = false →
              (inv32 q56.Time (w64 (x12 + 1)) ∧ mu32 q56.Time (w64 (x12 + 1)) < mu32 x3 x12))))))))))) ∧
      ((decide (x12 < (u0.length : Int))) = false →
        (K 0))))))))

def rcheckl_vc (u0 : List Line) (K : Int → Prop) : Prop :=
  (u0.length ≤ 140737488355328 →
    (((decide ((u0.length : Int) > 100)) = true →
      (K 2)) ∧
    ((decide ((u0.length : Int) > 100)) = false →
      (∃ inv29 : Int → Prop, ∃ mu29 : Int → Nat, inv29 0 ∧
      (∀ (x11 : Int), inv29 x11 →
      (((decide (x11 < (u0.length : Int))) = true →
        ((0 ≤ x11 ∧ x11 < (u0.length : Int)) ∧
        (∀ q55, u0[x11.toNat]? = some q55 →
        (q55.F.Data.length ≤ 140737488355328 →
        ((((((decide (q55.Time < 0)) || (decide (q55.Time > 1000000))) || (decide (q55.Bus < 0))) || (decide (q55.Bus > 3))) = true →
          (K 3)) ∧
        (((((decide (q55.Time < 0)) || (decide (q55.Time > 1000000))) || (decide (q55.Bus < 0))) || (decide (q55.Bus > 3))) = false →
          (((decide (x11 > 0)) = true →
            ((0 ≤ w64 (x11 - 1) ∧ w64 (x11 - 1) < (u0.length : Int)) ∧
            (∀ q160, u0[(w64 (x11 - 1)).toNat]? = some q160 →
            (q160.F.Data.length ≤ 140737488355328 →
            (((decide (q55.Time < q160.Time)) = true →
              (K 12)) ∧
            ((decide (q55.Time < q160.Time)) = false →
              ((((fcheckfr q55.F) != 0) = true →
                (K (fcheckfr q55.F))) ∧
              (((fcheckfr q55.F) != 0) = false →
                (inv29 (w64 (x11 + 1)) ∧ mu29 (w64 (x11 + 1)) < mu29 x11))))))))) ∧
          ((decide (x11 > 0)) = false →
            ((((fcheckfr q55.F) != 0) = true →
              (K (fcheckfr q55.F))) ∧
            (((fcheckfr q55.F) != 0) = false →
              (inv29 (w64 (x11 + 1)) ∧ mu29 (w64 (x11 + 1)) < mu29 x11))))))))))) ∧
      ((decide (x11 < (u0.length : Int))) = false →
        (K 0))))))))

def tline_vc (u0 : List UInt8) (K : (Line × Bool) → Prop) : Prop :=
  ((u0.length ≤ 1000000 ∧ ([32] : List UInt8).length = 1) ∧
    ((splitS u0 ([32] : List UInt8)).length ≤ 140737488355328 →
    (((((splitS u0 ([32] : List UInt8)).length : Int) != 3) = true →
      (K ((⟨0, 0, (⟨0, false, false, false, 0, []⟩ : Frame)⟩ : Line), false))) ∧
    ((((splitS u0 ([32] : List UInt8)).length : Int) != 3) = false →
      ((0 ≤ (0 : Int) ∧ (0 : Int) < ((splitS u0 ([32] : List UInt8)).length : Int)) ∧
      (∀ q66, (splitS u0 ([32] : List UInt8))[(0 : Int).toNat]? = some q66 →
      ((q66.length ≤ 1000000) ∧
      ((0 ≤ (1 : Int) ∧ (1 : Int) < ((splitS u0 ([32] : List UInt8)).length : Int)) ∧
      (∀ q102, (splitS u0 ([32] : List UInt8))[(1 : Int).toNat]? = some q102 →
      ((q102.length ≤ 1000000) ∧
      ((0 ≤ (2 : Int) ∧ (2 : Int) < ((splitS u0 ([32] : List UInt8)).length : Int)) ∧
      (∀ q138, (splitS u0 ([32] : List UInt8))[(2 : Int).toNat]? = some q138 →
      ((q138.length < 4294967281 ∧ ([63, 35] : List UInt8).length = 2 ∧ ([63, 35] : List UInt8).all (fun b => decide (b.toNat < 128)) = true) ∧
      (((((Lib.indexAny q138 ([63, 35] : List UInt8)) != 3) && ((Lib.indexAny q138 ([63, 35] : List UInt8)) != 8)) = true →
        (K ((⟨0, 0, (⟨0, false, false, false, 0, []⟩ : Frame)⟩ : Line), false))) ∧
      ((((Lib.indexAny q138 ([63, 35] : List UInt8)) != 3) && ((Lib.indexAny q138 ([63, 35] : List UInt8)) != 8)) = false →
        ((0 ≤ (2 : Int) ∧ (2 : Int) < ((splitS u0 ([32] : List UInt8)).length : Int)) ∧
        (∀ q201, (splitS u0 ([32] : List UInt8))[(2 : Int).toNat]? = some q201 →
        ((0 ≤ (Lib.indexAny q138 ([63, 35] : List UInt8)) ∧ (Lib.indexAny q138 ([63, 35] : List UInt8)) ≤ (q201.length : Int)) ∧
        (((q201.take (Lib.indexAny q138 ([63, 35] : List UInt8)).toNat).length ≤ 1000000) ∧
        (((((!(countS q66).2) || (!(countS q102).2)) || (!(thexS (q201.take (Lib.indexAny q138 ([63, 35] : List UInt8)).toNat)).2)) = true →
          (K ((⟨0, 0, (⟨0, false, false, false, 0, []⟩ : Frame)⟩ : Line), false))) ∧
        ((((!(countS q66).2) || (!(countS q102).2)) || (!(thexS (q201.take (Lib.indexAny q138 ([63, 35] : List UInt8)).toNat)).2)) = false →
          ((0 ≤ (2 : Int) ∧ (2 : Int) < ((splitS u0 ([32] : List UInt8)).length : Int)) ∧
          (∀ q279, (splitS u0 ([32] : List UInt8))[(2 : Int).toNat]? = some q279 →
          ((0 ≤ (Lib.indexAny q138 ([63, 35] : List UInt8)) ∧ (Lib.indexAny q138 ([63, 35] : List UInt8)) ≤ (q279.length : Int)) ∧
          (((cutp (q279.drop (Lib.indexAny q138 ([63, 35] : List UInt8)).toNat) ([63] : List UInt8)).2 = true →
            (((cutp (q279.drop (Lib.indexAny q138 ([63, 35] : List UInt8)).toNat) ([63] : List UInt8)).1.length ≤ 1000000) ∧
            (K ((⟨(countS q66).1, (countS q102).1, (⟨(thexS (q201.take (Lib.indexAny q138 ([63, 35] : List UInt8)).toNat)).1, (Lib.indexAny q138 ([63, 35] : List UInt8)) == 8, false, true, (countS (cutp (q279.drop (Lib.indexAny q138 ([63, 35] : List UInt8)).toNat) ([63] : List UInt8)).1).1, []⟩ : Frame)⟩ : Line), (countS (cutp (q279.drop (Lib.indexAny q138 ([63, 35] : List UInt8)).toNat) ([63] : List UInt8)).1).2)))) ∧
          ((cutp (q279.drop (Lib.indexAny q138 ([63, 35] : List UInt8)).toNat) ([63] : List UInt8)).2 = false →
            ((0 ≤ (1 : Int) ∧ (1 : Int) ≤ ((q279.drop (Lib.indexAny q138 ([63, 35] : List UInt8)).toNat).length : Int)) ∧
            (((cutp ((q279.drop (Lib.indexAny q138 ([63, 35] : List UInt8)).toNat).drop (1 : Int).toNat) ([35] : List UInt8)).2 = true →
              ((((((cutp ((q279.drop (Lib.indexAny q138 ([63, 35] : List UInt8)).toNat).drop (1 : Int).toNat) ([35] : List UInt8)).1.length : Int).tmod 2) != 0) = true →
                (K ((⟨0, 0, (⟨0, false, false, false, 0, []⟩ : Frame)⟩ : Line), false))) ∧
              (((((cutp ((q279.drop (Lib.indexAny q138 ([63, 35] : List UInt8)).toNat).drop (1 : Int).toNat) ([35] : List UInt8)).1.length : Int).tmod 2) != 0) = false →
                (∃ inv434 : Int → Line → Prop, ∃ mu434 : Int → Line → Nat, inv434 0 (⟨(countS q66).1, (countS q102).1, (⟨(thexS (q201.take (Lib.indexAny q138 ([63, 35] : List UInt8)).toNat)).1, (Lib.indexAny q138 ([63, 35] : List UInt8)) == 8, true, false, 0, ([] : List Int)⟩ : Frame)⟩ : Line) ∧
                (∀ (x17 : Int) (yb45 : Line), inv434 x17 yb45 →
                (((decide (x17 < ((cutp ((q279.drop (Lib.indexAny q138 ([63, 35] : List UInt8)).toNat).drop (1 : Int).toNat) ([35] : List UInt8)).1.length : Int))) = true →
                  ((0 ≤ x17 ∧ x17 ≤ (w64 (x17 + 2)) ∧ (w64 (x17 + 2)) ≤ ((cutp ((q279.drop (Lib.indexAny q138 ([63, 35] : List UInt8)).toNat).drop (1 : Int).toNat) ([35] : List UInt8)).1.length : Int)) ∧
                  (((((cutp ((q279.drop (Lib.indexAny q138 ([63, 35] : List UInt8)).toNat).drop (1 : Int).toNat) ([35] : List UInt8)).1.take (w64 (x17 + 2)).toNat).drop x17.toNat).length ≤ 1000000) ∧
                  (((!(thexS (((cutp ((q279.drop (Lib.indexAny q138 ([63, 35] : List UInt8)).toNat).drop (1 : Int).toNat) ([35] : List UInt8)).1.take (w64 (x17 + 2)).toNat).drop x17.toNat)).2) = true →
                    (K ((⟨0, 0, (⟨0, false, false, false, 0, []⟩ : Frame)⟩ : Line), false))) ∧
                  ((!(thexS (((cutp ((q279.drop (Lib.indexAny q138 ([63, 35] : List UInt8)).toNat).drop (1 : Int).toNat) ([35] : List UInt8)).1.take (w64 (x17 + 2)).toNat).drop x17.toNat)).2) = false →
                    (((yb45.F.Data.length + 1) * 1 ≤ 140737488355328) ∧
                    (inv434 (w64 (x17 + 2)) (⟨yb45.Time, yb45.Bus, (⟨yb45.F.ID, yb45.F.Long, yb45.F.Fast, yb45.F.Remote, yb45.F.Size, yb45.F.Data ++ [w8 (thexS (((cutp ((q279.drop (Lib.indexAny q138 ([63, 35] : List UInt8)).toNat).drop (1 : Int).toNat) ([35] : List UInt8)).1.take (w64 (x17 + 2)).toNat).drop x17.toNat)).1]⟩ : Frame)⟩ : Line) ∧ mu434 (w64 (x17 + 2)) (⟨yb45.Time, yb45.Bus, (⟨yb45.F.ID, yb45.F.Long, yb45.F.Fast, yb45.F.Remote, yb45.F.Size, yb45.F.Data ++ [w8 (thexS (((cutp ((q279.drop (Lib.indexAny q138 ([63, 35] : List UInt8)).toNat).drop (1 : Int).toNat) ([35] : List UInt8)).1.take (w64 (x17 + 2)).toNat).drop x17.toNat)).1]⟩ : Frame)⟩ : Line) < mu434 x17 yb45))))))) ∧
                ((decide (x17 < ((cutp ((q279.drop (Lib.indexAny q138 ([63, 35] : List UInt8)).toNat).drop (1 : Int).toNat) ([35] : List UInt8)).1.length : Int))) = false →
                  (K (yb45, true))))))))) ∧
            ((cutp ((q279.drop (Lib.indexAny q138 ([63, 35] : List UInt8)).toNat).drop (1 : Int).toNat) ([35] : List UInt8)).2 = false →
              (((((((q279.drop (Lib.indexAny q138 ([63, 35] : List UInt8)).toNat).drop (1 : Int).toNat).length : Int).tmod 2) != 0) = true →
                (K ((⟨0, 0, (⟨0, false, false, false, 0, []⟩ : Frame)⟩ : Line), false))) ∧
              ((((((q279.drop (Lib.indexAny q138 ([63, 35] : List UInt8)).toNat).drop (1 : Int).toNat).length : Int).tmod 2) != 0) = false →
                (∃ inv584 : Int → Line → Prop, ∃ mu584 : Int → Line → Nat, inv584 0 (⟨(countS q66).1, (countS q102).1, (⟨(thexS (q201.take (Lib.indexAny q138 ([63, 35] : List UInt8)).toNat)).1, (Lib.indexAny q138 ([63, 35] : List UInt8)) == 8, false, false, 0, ([] : List Int)⟩ : Frame)⟩ : Line) ∧
                (∀ (x17 : Int) (yb45 : Line), inv584 x17 yb45 →
                (((decide (x17 < (((q279.drop (Lib.indexAny q138 ([63, 35] : List UInt8)).toNat).drop (1 : Int).toNat).length : Int))) = true →
                  ((0 ≤ x17 ∧ x17 ≤ (w64 (x17 + 2)) ∧ (w64 (x17 + 2)) ≤ (((q279.drop (Lib.indexAny q138 ([63, 35] : List UInt8)).toNat).drop (1 : Int).toNat).length : Int)) ∧
                  ((((((q279.drop (Lib.indexAny q138 ([63, 35] : List UInt8)).toNat).drop (1 : Int).toNat).take (w64 (x17 + 2)).toNat).drop x17.toNat).length ≤ 1000000) ∧
                  (((!(thexS ((((q279.drop (Lib.indexAny q138 ([63, 35] : List UInt8)).toNat).drop (1 : Int).toNat).take (w64 (x17 + 2)).toNat).drop x17.toNat)).2) = true →
                    (K ((⟨0, 0, (⟨0, false, false, false, 0, []⟩ : Frame)⟩ : Line), false))) ∧
                  ((!(thexS ((((q279.drop (Lib.indexAny q138 ([63, 35] : List UInt8)).toNat).drop (1 : Int).toNat).take (w64 (x17 + 2)).toNat).drop x17.toNat)).2) = false →
                    (((yb45.F.Data.length + 1) * 1 ≤ 140737488355328) ∧
                    (inv584 (w64 (x17 + 2)) (⟨yb45.Time, yb45.Bus, (⟨yb45.F.ID, yb45.F.Long, yb45.F.Fast, yb45.F.Remote, yb45.F.Size, yb45.F.Data ++ [w8 (thexS ((((q279.drop (Lib.indexAny q138 ([63, 35] : List UInt8)).toNat).drop (1 : Int).toNat).take (w64 (x17 + 2)).toNat).drop x17.toNat)).1]⟩ : Frame)⟩ : Line) ∧ mu584 (w64 (x17 + 2)) (⟨yb45.Time, yb45.Bus, (⟨yb45.F.ID, yb45.F.Long, yb45.F.Fast, yb45.F.Remote, yb45.F.Size, yb45.F.Data ++ [w8 (thexS ((((q279.drop (Lib.indexAny q138 ([63, 35] : List UInt8)).toNat).drop (1 : Int).toNat).take (w64 (x17 + 2)).toNat).drop x17.toNat)).1]⟩ : Frame)⟩ : Line) < mu584 x17 yb45))))))) ∧
                ((decide (x17 < (((q279.drop (Lib.indexAny q138 ([63, 35] : List UInt8)).toNat).drop (1 : Int).toNat).length : Int))) = false →
                  (K (yb45, true)))))))))))))))))))))))))))))))))))))

def sl1_vc (u0 : Line) (u1 : Line) (K : Bool → Prop) : Prop :=
  (u0.F.Data.length ≤ 140737488355328 →
    (u1.F.Data.length ≤ 140737488355328 →
    (K (((u0.Time == u1.Time) && (u0.Bus == u1.Bus)) && (sameS u0.F u1.F)))))
def sl1 (u0 : Line) (u1 : Line) : Bool :=
  ((u0.Time == u1.Time) && (u0.Bus == u1.Bus)) && (sameS u0.F u1.F)
theorem sl1_ok (u0 : Line) (u1 : Line) : sl1_vc u0 u1 (fun r => r = sl1 u0 u1) := (fun _ => (fun _ => (by rfl)))

/-! Pure proofs: no program in sight. -/
/-! ### Lines are checked -/
def chkF : Int → List Line → Int
  | _, [] => 0
  | last, x :: r => if (((decide (x.Time < 0)) || (decide (x.Time > 1000000))) || (decide (x.Bus < 0))) || (decide (x.Bus ≥ 4)) then 3 else if x.Time < last then 12 else if fcheckfr x.F != 0 then fcheckfr x.F else chkF x.Time r
def checkS (l : List Line) : Int := if (l.length : Int) > 100 then 2 else chkF 0 l
theorem drop_cons {α : Type} {l : List α} {k : Nat} {q : α} (h : l[k]? = some q) : l.drop k = q :: l.drop (k + 1) := by
  obtain ⟨h2, h3⟩ := List.getElem?_eq_some_iff.1 h
  rw [List.drop_eq_getElem_cons h2, h3]
theorem tcheck_ok (l : List Line) : tcheck_vc l (fun r => r = checkS l) := by
  intro hl
  refine ⟨fun h => by unfold checkS; rw [if_pos (of_decide_eq_true h)], fun h => ?_⟩
  have hc : checkS l = chkF 0 l := by unfold checkS; rw [if_neg (of_decide_eq_false h)]
  rw [hc]
  refine ⟨fun t i => ∃ k : Nat, i = k ∧ k ≤ l.length ∧ chkF t (l.drop k) = chkF 0 l, fun _ i => l.length - i.toNat, ⟨0, rfl, by omega, rfl⟩, ?_⟩
  rintro t _ ⟨k, rfl, hk, he⟩
  refine ⟨fun h1 => ?_, fun h1 => ?_⟩
  · have hkm : k < l.length := by simpa using h1
    refine ⟨by omega, fun q hq _ => ?_⟩
    rw [Int.toNat_natCast] at hq
    rw [drop_cons hq, chkF] at he
    rw [w64_succ k (by omega)]
    refine ⟨fun h2 => by rw [if_pos h2] at he; exact he, fun h2 => ?_⟩
    rw [if_neg (by rw [h2]; decide)] at he
    refine ⟨fun h3 => by rw [if_pos (of_decide_eq_true h3)] at he; exact he, fun h3 => ?_⟩
    rw [if_neg (of_decide_eq_false h3)] at he
    refine ⟨fun h4 => by rw [if_pos h4] at he; exact he, fun h4 => ?_⟩
    rw [if_neg (by rw [h4]; decide)] at he
    exact ⟨⟨k + 1, rfl, by omega, he⟩, by dsimp only; omega⟩
  · have : k = l.length := by simp at h1; omega
    subst this
    rw [List.drop_length] at he
    exact he
theorem rcheckl_ok (l : List Line) : rcheckl_vc l (fun r => r = checkS l) := by
  intro hl
  refine ⟨fun h => by unfold checkS; rw [if_pos (of_decide_eq_true h)], fun h => ?_⟩
  have hc : checkS l = chkF 0 l := by unfold checkS; rw [if_neg (of_decide_eq_false h)]
  rw [hc]
  refine ⟨fun i => ∃ (k : Nat) (t : Int), i = k ∧ k ≤ l.length ∧ chkF t (l.drop k) = chkF 0 l ∧ (k = 0 → t = 0) ∧ (∀ q, 0 < k → l[k - 1]? = some q → t = q.Time), fun i => l.length - i.toNat, ⟨0, 0, rfl, by omega, rfl, fun _ => rfl, fun _ h => absurd h (by omega)⟩, ?_⟩
  rintro _ ⟨k, t, rfl, hk, he, h0, hp⟩
  refine ⟨fun h1 => ?_, fun h1 => ?_⟩
  · have hkm : k < l.length := by simpa using h1
    refine ⟨by omega, fun q hq _ => ?_⟩
    rw [Int.toNat_natCast] at hq
    rw [drop_cons hq, chkF] at he
    rw [w64_succ k (by omega)]
    have e4 : (decide (q.Bus > 3)) = (decide (q.Bus ≥ 4)) := by rw [Bool.eq_iff_iff]; simp; omega
    rw [e4]
    refine ⟨fun h2 => by rw [if_pos h2] at he; exact he, fun h2 => ?_⟩
    rw [if_neg (by rw [h2]; decide)] at he
    have hlast : chkF q.Time (l.drop (k + 1)) = chkF 0 l → (∃ (k_1 : Nat) (t : Int), ((k + 1 : Nat) : Int) = k_1 ∧ k_1 ≤ l.length ∧ chkF t (l.drop k_1) = chkF 0 l ∧ (k_1 = 0 → t = 0) ∧ (∀ q, 0 < k_1 → l[k_1 - 1]? = some q → t = q.Time)) ∧ l.length - ((k + 1 : Nat) : Int).toNat < l.length - (k : Int).toNat := fun he =>
      ⟨⟨k + 1, q.Time, rfl, by omega, he, fun h => absurd h (by omega), fun x _ hx => by rw [Nat.add_sub_cancel, hq] at hx; cases hx; rfl⟩, by omega⟩
    refine ⟨fun h3 => ?_, fun h3 => ?_⟩
    · have h3 : 0 < k := by have := of_decide_eq_true h3; omega
      have ew : w64 ((k : Int) - 1) = ((k - 1 : Nat) : Int) := by rw [w64_eq _ (by omega)]; omega
      rw [ew]
      refine ⟨by omega, fun p hpp _ => ?_⟩
      rw [Int.toNat_natCast] at hpp
      obtain rfl := hp p h3 hpp
      refine ⟨fun h5 => by rw [if_pos (of_decide_eq_true h5)] at he; exact he, fun h5 => ?_⟩
      rw [if_neg (of_decide_eq_false h5)] at he
      refine ⟨fun h4 => by rw [if_pos h4] at he; exact he, fun h4 => ?_⟩
      rw [if_neg (by rw [h4]; decide)] at he
      exact hlast he
    · have h3 : k = 0 := by have := of_decide_eq_false h3; omega
      obtain rfl := h0 h3
      have h6 : ¬ q.Time < 0 := by
        intro hn
        simp [hn] at h2
      rw [if_neg h6] at he
      refine ⟨fun h4 => by rw [if_pos h4] at he; exact he, fun h4 => ?_⟩
      rw [if_neg (by rw [h4]; decide)] at he
      exact hlast he
  · have : k = l.length := by simp at h1; omega
    subst this
    rw [List.drop_length] at he
    exact he
/-! ### A line is read -/
def zeroL : Line := ⟨0, 0, ⟨0, false, false, false, 0, []⟩⟩
def addB (x : Line) (b : Int) : Line := ⟨x.Time, x.Bus, ⟨x.F.ID, x.F.Long, x.F.Fast, x.F.Remote, x.F.Size, x.F.Data ++ [b]⟩⟩
def dataF (x : Line) : List UInt8 → Line × Bool
  | a :: b :: r => if (thexS [a, b]).2 then dataF (addB x (w8 (thexS [a, b]).1)) r else (zeroL, false)
  | _ => (x, true)
def lineS (u0 : List UInt8) : Line × Bool :=
  match splitA 32 u0 with
  | [w0, w1, w2] =>
    let k := Lib.indexAny w2 [63, 35]
    if k ≠ 3 ∧ k ≠ 8 then (zeroL, false) else
    let h := thexS (w2.take k.toNat)
    if (((!(countS w0).2) || (!(countS w1).2)) || (!h.2)) then (zeroL, false) else
    let rest := w2.drop k.toNat
    if (cutS rest [63]).2 then (⟨(countS w0).1, (countS w1).1, ⟨h.1, k == 8, false, true, (countS (cutS rest [63]).1).1, []⟩⟩, (countS (cutS rest [63]).1).2) else
    let c := cutS (rest.drop 1) [35]
    if c.1.length % 2 ≠ 0 then (zeroL, false) else dataF ⟨(countS w0).1, (countS w1).1, ⟨h.1, k == 8, c.2, false, 0, []⟩⟩ c.1
  | _ => (zeroL, false)
theorem data_loop (d : List UInt8) (hd : d.length ≤ 1000000) (he : d.length % 2 = 0) (x : Line) (hx : x.F.Data = []) (K : Line × Bool → Prop) (hK : K (dataF x d)) :
    ∃ inv : Int → Line → Prop, ∃ mu : Int → Line → Nat, inv 0 x ∧ ∀ (i : Int) (y : Line), inv i y →
      (((decide (i < (d.length : Int))) = true →
        ((0 ≤ i ∧ i ≤ (w64 (i + 2)) ∧ (w64 (i + 2)) ≤ (d.length : Int)) ∧
        ((((d.take (w64 (i + 2)).toNat).drop i.toNat).length ≤ 1000000) ∧
        (((!(thexS ((d.take (w64 (i + 2)).toNat).drop i.toNat)).2) = true → (K (zeroL, false))) ∧
        ((!(thexS ((d.take (w64 (i + 2)).toNat).drop i.toNat)).2) = false →
          (((y.F.Data.length + 1) * 1 ≤ 140737488355328) ∧
          (inv (w64 (i + 2)) (addB y (w8 (thexS ((d.take (w64 (i + 2)).toNat).drop i.toNat)).1)) ∧ mu (w64 (i + 2)) (addB y (w8 (thexS ((d.take (w64 (i + 2)).toNat).drop i.toNat)).1)) < mu i y))))))) ∧
      ((decide (i < (d.length : Int))) = false → K (y, true))) := by
  refine ⟨fun i y => ∃ k : Nat, i = ((2 * k : Nat) : Int) ∧ 2 * k ≤ d.length ∧ dataF y (d.drop (2 * k)) = dataF x d ∧ y.F.Data.length = k, fun i _ => d.length - i.toNat, ⟨0, rfl, by omega, rfl, by rw [hx]; rfl⟩, ?_⟩
  rintro _ y ⟨k, rfl, hk, hf, hy⟩
  refine ⟨fun h1 => ?_, fun h1 => ?_⟩
  · have hkm : 2 * k < d.length := by have := of_decide_eq_true h1; omega
    have ew : w64 (((2 * k : Nat) : Int) + 2) = ((2 * (k + 1) : Nat) : Int) := by rw [w64_eq _ (by omega)]; omega
    obtain ⟨a, b, hab⟩ : ∃ a b, d.drop (2 * k) = a :: b :: d.drop (2 * (k + 1)) := by
      refine ⟨d[2 * k], d[2 * k + 1]'(by omega), ?_⟩
      rw [List.drop_eq_getElem_cons hkm, List.drop_eq_getElem_cons (show 2 * k + 1 < d.length by omega)]
      rfl
    have et : (d.take (2 * (k + 1))).drop (2 * k) = [a, b] := by
      rw [List.drop_take, hab]
      have : 2 * (k + 1) - 2 * k = 2 := by omega
      rw [this]
      rfl
    rw [ew, Int.toNat_natCast, Int.toNat_natCast, et]
    rw [hab, dataF] at hf
    refine ⟨by omega, by simp, fun h2 => ?_, fun h2 => ?_⟩
    · have h2 : (thexS [a, b]).2 = false := by simpa using h2
      rw [if_neg (by rw [h2]; decide)] at hf
      rw [hf]; exact hK
    · have h2 : (thexS [a, b]).2 = true := by simpa using h2
      rw [if_pos h2] at hf
      refine ⟨by omega, ⟨k + 1, rfl, by omega, hf, ?_⟩, by dsimp only; omega⟩
      show (y.F.Data ++ [_]).length = k + 1
      rw [List.length_append, hy]; rfl
  · have h1 : 2 * k = d.length := by have := of_decide_eq_false h1; omega
    rw [h1, List.drop_length, dataF] at hf
    · rw [hf]; exact hK
    · intro a b r h; cases h
theorem split_mem_len (c : UInt8) : ∀ (l : List UInt8) (w : List UInt8), w ∈ splitA c l → w.length ≤ l.length
  | [], w, h => by simp [splitA] at h; subst h; simp
  | b :: r, w, h => by
    rw [splitA] at h
    split at h
    · rcases List.mem_cons.1 h with rfl | h
      · simp
      · have := split_mem_len c r w h; rw [List.length_cons]; omega
    · split at h
      · next h2 => exact absurd h2 (splitA_ne c r)
      · next x t h2 =>
        rcases List.mem_cons.1 h with rfl | h
        · have := split_mem_len c r x (by rw [h2]; exact List.mem_cons_self)
          rw [List.length_cons, List.length_cons]; omega
        · have := split_mem_len c r w (by rw [h2]; exact List.mem_cons_of_mem _ h)
          rw [List.length_cons]; omega
theorem indexAny_le (s : List UInt8) : ∀ l : List UInt8, Lib.indexAny l s ≤ l.length
  | [] => by simp [Lib.indexAny]
  | b :: r => by
    have := indexAny_le s r
    rw [Lib.indexAny, List.length_cons]
    split
    · omega
    · split <;> omega
theorem indexAny_lt (s : List UInt8) : ∀ l : List UInt8, 0 ≤ Lib.indexAny l s → Lib.indexAny l s < l.length
  | [], h => by simp [Lib.indexAny] at h
  | b :: r, h => by
    have h2 := indexAny_lt s r
    rw [Lib.indexAny, List.length_cons] at *
    split at h
    · next h1 => rw [if_pos h1]; omega
    · next h1 =>
      rw [if_neg h1]
      split at h
      · omega
      · next h3 =>
        rw [if_neg h3]
        have h4 : Lib.indexAny r s ≠ -1 := by simpa using h3
        have := Lib.indexAny_ge s r
        have := h2 (by omega)
        omega
theorem tmod2 (n : Nat) : (((n : Int).tmod 2) != 0) = decide (n % 2 ≠ 0) := by
  have e : (n : Int).tmod 2 = ((n % 2 : Nat) : Int) := rfl
  rw [e, Bool.eq_iff_iff]
  simp
  omega
theorem cutS_len (l p : List UInt8) : (cutS l p).1.length ≤ l.length := by
  unfold cutS
  cases hasp0 l p
  · exact Nat.le_refl _
  · show (l.drop _).length ≤ _
    rw [List.length_drop]; omega
theorem cutS_no {l p : List UInt8} (h : (cutS l p).2 = false) : (cutS l p).1 = l := by
  unfold cutS at *
  cases h1 : hasp0 l p
  · rfl
  · rw [h1] at h; cases h
theorem tline_ok (l : List UInt8) (hl : l.length ≤ 1000000) : tline_vc l (fun r => r = lineS l) := by
  refine ⟨⟨hl, rfl⟩, ?_⟩
  have e : splitS l ([32] : List UInt8) = splitA 32 l := rfl
  rw [e]
  intro _
  refine ⟨fun h1 => ?_, fun h1 => ?_⟩
  · have h1 : (splitA 32 l).length ≠ 3 := by have : ((splitA 32 l).length : Int) ≠ 3 := by simpa using h1
                                             omega
    unfold lineS
    split
    · next w0 w1 w2 hw => rw [hw] at h1; exact absurd rfl h1
    · rfl
  · have h1 : (splitA 32 l).length = 3 := by
      have : ((splitA 32 l).length : Int) = 3 := by simpa using h1
      omega
    obtain ⟨w0, w1, w2, hw⟩ : ∃ w0 w1 w2, splitA 32 l = [w0, w1, w2] := by
      match hs : splitA 32 l with
      | [a, b, c] => exact ⟨a, b, c, rfl⟩
      | [] => rw [hs] at h1; simp at h1
      | [_] => rw [hs] at h1; simp at h1
      | [_, _] => rw [hs] at h1; simp at h1
      | _ :: _ :: _ :: _ :: _ => rw [hs] at h1; simp at h1
    have l0 := split_mem_len 32 l w0 (by rw [hw]; simp)
    have l1 := split_mem_len 32 l w1 (by rw [hw]; simp)
    have l2 := split_mem_len 32 l w2 (by rw [hw]; simp)
    have hk := indexAny_le [63, 35] w2
    have hL : lineS l = lineS l := rfl
    conv at hL => rhs; unfold lineS
    rw [hw] at hL ⊢
    simp only at hL
    refine ⟨by simp, ?_⟩
    rintro _ ⟨⟩
    refine ⟨by omega, by simp, ?_⟩
    rintro _ ⟨⟩
    refine ⟨by omega, by simp, ?_⟩
    rintro _ ⟨⟩
    refine ⟨⟨by omega, rfl, by decide⟩, fun h2 => ?_, fun h2 => ?_⟩
    · have h2 : Lib.indexAny w2 [63, 35] ≠ 3 ∧ Lib.indexAny w2 [63, 35] ≠ 8 := by simpa using h2
      rw [if_pos h2] at hL
      exact hL.symm
    have h2 : ¬ (Lib.indexAny w2 [63, 35] ≠ 3 ∧ Lib.indexAny w2 [63, 35] ≠ 8) := by
      intro h3
      simp [h3] at h2
    rw [if_neg h2] at hL
    have hk0 : 3 ≤ Lib.indexAny w2 [63, 35] := by omega
    refine ⟨by simp, ?_⟩
    rintro _ ⟨⟩
    refine ⟨by omega, by rw [List.length_take]; omega, fun h3 => ?_, fun h3 => ?_⟩
    · rw [if_pos h3] at hL
      exact hL.symm
    rw [if_neg (by rw [h3]; decide)] at hL
    refine ⟨by simp, ?_⟩
    rintro _ ⟨⟩
    have lr : (w2.drop (Lib.indexAny w2 [63, 35]).toNat).length ≤ 1000000 := by rw [List.length_drop]; omega
    have hlt := indexAny_lt [63, 35] w2 (by omega)
    have hone : 1 ≤ (w2.drop (Lib.indexAny w2 [63, 35]).toNat).length := by rw [List.length_drop]; omega
    refine ⟨by omega, fun h4 => ?_, fun h4 => ?_⟩
    · have h4' : (cutS (w2.drop (Lib.indexAny w2 [63, 35]).toNat) [63]).2 = true := h4
      rw [if_pos h4'] at hL
      refine ⟨Nat.le_trans (cutS_len _ _) lr, ?_⟩
      exact hL.symm
    have h4' : (cutS (w2.drop (Lib.indexAny w2 [63, 35]).toNat) [63]).2 = false := h4
    rw [if_neg (by rw [h4']; decide)] at hL
    have ln : ((w2.drop (Lib.indexAny w2 [63, 35]).toNat).drop 1).length ≤ 1000000 := by rw [List.length_drop]; omega
    refine ⟨by omega, fun h5 => ?_, fun h5 => ?_⟩
    · have h5' : (cutS ((w2.drop (Lib.indexAny w2 [63, 35]).toNat).drop 1) [35]).2 = true := h5
      have e1 : ((1 : Int)).toNat = 1 := rfl
      rw [h5'] at hL
      have ec : cutp ((w2.drop (Lib.indexAny w2 [63, 35]).toNat).drop 1) [35] = cutS ((w2.drop (Lib.indexAny w2 [63, 35]).toNat).drop 1) [35] := rfl
      rw [e1, ec, tmod2]
      refine ⟨fun h6 => ?_, fun h6 => ?_⟩
      · rw [if_pos (of_decide_eq_true h6)] at hL
        exact hL.symm
      · rw [if_neg (of_decide_eq_false h6)] at hL
        have h6 := Decidable.not_not.1 (of_decide_eq_false h6)
        exact data_loop _ (Nat.le_trans (cutS_len _ _) ln) h6 _ rfl (fun r => r = lineS l) hL.symm
    · have h5' : (cutS ((w2.drop (Lib.indexAny w2 [63, 35]).toNat).drop 1) [35]).2 = false := h5
      have e1 : ((1 : Int)).toNat = 1 := rfl
      rw [h5', cutS_no h5'] at hL
      rw [e1, tmod2]
      refine ⟨fun h6 => ?_, fun h6 => ?_⟩
      · rw [if_pos (of_decide_eq_true h6)] at hL
        exact hL.symm
      · rw [if_neg (of_decide_eq_false h6)] at hL
        have h6 := Decidable.not_not.1 (of_decide_eq_false h6)
        exact data_loop _ ln h6 _ rfl (fun r => r = lineS l) hL.symm

end Go.Proofs.YtdenmllkjdijlaaGreatDoor
set_option linter.unusedVariables false
set_option linter.unusedSimpArgs false
namespace Go.Proofs.YtdenmllkjdijlaaGreatDoor
open Go.Sy Go.RowKit
def leqf_vc (u0 : List Line) (u1 : List Line) (u2 : Line → Line → Bool) (K : Bool → Prop) : Prop :=
  (u0.length ≤ 140737488355328 →
    (u1.length ≤ 140737488355328 →
    ((((u0.length : Int) != (u1.length : Int)) = true →
      (K false)) ∧
    (((u0.length : Int) != (u1.length : Int)) = false →
      (∃ inv41 : Int → Prop, ∃ mu41 : Int → Nat, inv41 0 ∧
      (∀ (x17 : Int), inv41 x17 →
      (((decide (x17 < (u0.length : Int))) = true →
        ((0 ≤ x17 ∧ x17 < (u0.length : Int)) ∧
        (∀ q67, u0[x17.toNat]? = some q67 →
        (q67.F.Data.length ≤ 140737488355328 →
        ((0 ≤ x17 ∧ x17 < (u1.length : Int)) ∧
        (∀ q100, u1[x17.toNat]? = some q100 →
        (q100.F.Data.length ≤ 140737488355328 →
        (((!(u2 q67 q100)) = true →
          (K false)) ∧
        ((!(u2 q67 q100)) = false →
          (inv41 (w64 (x17 + 1)) ∧ mu41 (w64 (x17 + 1)) < mu41 x17)))))))))) ∧
      ((decide (x17 < (u0.length : Int))) = false →
        (K true)))))))))

def tprint_vc (u0 : List Line) (K : ((List UInt8) × Int) → Prop) : Prop :=
  (u0.length ≤ 140737488355328 →
    ((((checkS u0) != 0) = true →
      (K ([], (checkS u0)))) ∧
    (((checkS u0) != 0) = false →
      (∃ inv48 : Int → (List UInt8) → Prop, ∃ mu48 : Int → (List UInt8) → Nat, inv48 0 ([] : List UInt8) ∧
      (∀ (x17 : Int) (yb35 : List UInt8), inv48 x17 yb35 →
      (((decide (x17 < (u0.length : Int))) = true →
        (∃ inv68 : (List UInt8) → Prop,
        ((0 ≤ x17 ∧ x17 < (u0.length : Int)) ∧
        (∀ q92, u0[x17.toNat]? = some q92 →
        (q92.F.Data.length ≤ 140737488355328 →
        ((-9223372036854775808 ≤ q92.Time ∧ q92.Time ≤ 9223372036854775807) ∧
        ((((itoaS q92.Time).length : Int) + (([32] : List UInt8).length : Int) ≤ 9223372036854775807) ∧
        ((-9223372036854775808 ≤ q92.Bus ∧ q92.Bus ≤ 9223372036854775807) ∧
        (((((itoaS q92.Time) ++ ([32] : List UInt8)).length : Int) + ((itoaS q92.Bus).length : Int) ≤ 9223372036854775807) ∧
        ((((((itoaS q92.Time) ++ ([32] : List UInt8)) ++ (itoaS q92.Bus)).length : Int) + (([32] : List UInt8).length : Int) ≤ 9223372036854775807) ∧
        ((0 ≤ q92.F.ID ∧ q92.F.ID < 4611686018427387904) ∧
        (((((((itoaS q92.Time) ++ ([32] : List UInt8)) ++ (itoaS q92.Bus)) ++ ([32] : List UInt8)).length : Int) + ((numS q92.F.ID q92.F.Long).length : Int) ≤ 9223372036854775807) ∧
        ((yb35.length + (((((itoaS q92.Time) ++ ([32] : List UInt8)) ++ (itoaS q92.Bus)) ++ ([32] : List UInt8)) ++ (numS q92.F.ID q92.F.Long)).length ≤ 140737488355328) ∧
        (∃ inv191 : (List UInt8) → Prop,
        ((q92.F.Remote = true →
          ((-9223372036854775808 ≤ q92.F.Size ∧ q92.F.Size ≤ 9223372036854775807) ∧
          (((([63] : List UInt8).length : Int) + ((itoaS q92.F.Size).length : Int) ≤ 9223372036854775807) ∧
          (((yb35 ++ (((((itoaS q92.Time) ++ ([32] : List UInt8)) ++ (itoaS q92.Bus)) ++ ([32] : List UInt8)) ++ (numS q92.F.ID q92.F.Long))).length + (([63] : List UInt8) ++ (itoaS q92.F.Size)).length ≤ 140737488355328) ∧
          (inv191 ((yb35 ++ (((((itoaS q92.Time) ++ ([32] : List UInt8)) ++ (itoaS q92.Bus)) ++ ([32] : List UInt8)) ++ (numS q92.F.ID q92.F.Long))) ++ (([63] : List UInt8) ++ (itoaS q92.F.Size)))))))) ∧
        (q92.F.Remote = false →
          ((q92.F.Fast = true →
            (((yb35 ++ (((((itoaS q92.Time) ++ ([32] : List UInt8)) ++ (itoaS q92.Bus)) ++ ([32] : List UInt8)) ++ (numS q92.F.ID q92.F.Long))).length + ([35, 35] : List UInt8).length ≤ 140737488355328) ∧
            (inv191 ((yb35 ++ (((((itoaS q92.Time) ++ ([32] : List UInt8)) ++ (itoaS q92.Bus)) ++ ([32] : List UInt8)) ++ (numS q92.F.ID q92.F.Long))) ++ ([35, 35] : List UInt8))))) ∧
          (q92.F.Fast = false →
            (((yb35 ++ (((((itoaS q92.Time) ++ ([32] : List UInt8)) ++ (itoaS q92.Bus)) ++ ([32] : List UInt8)) ++ (numS q92.F.ID q92.F.Long))).length + ([35] : List UInt8).length ≤ 140737488355328) ∧
            (inv191 ((yb35 ++ (((((itoaS q92.Time) ++ ([32] : List UInt8)) ++ (itoaS q92.Bus)) ++ ([32] : List UInt8)) ++ (numS q92.F.ID q92.F.Long))) ++ ([35] : List UInt8)))))))) ∧
        (∀ (yb35vv : List UInt8), inv191 yb35vv →
          (∃ inv216 : Int → (List UInt8) → Prop, ∃ mu216 : Int → (List UInt8) → Nat, inv216 0 yb35vv ∧
          (∀ (x59 : Int) (yb35vvv : List UInt8), inv216 x59 yb35vvv →
          (((decide (x59 < (q92.F.Data.length : Int))) = true →
            ((0 ≤ x59 ∧ x59 < (q92.F.Data.length : Int)) ∧
            (∀ q240, q92.F.Data[x59.toNat]? = some q240 →
            ((0 ≤ bShr .u8 q240 4 ∧ bShr .u8 q240 4 ≤ (w8 ((bShr .u8 q240 4) + 1)) ∧ (w8 ((bShr .u8 q240 4) + 1)) ≤ (([48, 49, 50, 51, 52, 53, 54, 55, 56, 57, 97, 98, 99, 100, 101, 102] : List UInt8).length : Int)) ∧
            ((0 ≤ bAnd .u8 q240 15 ∧ bAnd .u8 q240 15 ≤ (w8 ((bAnd .u8 q240 15) + 1)) ∧ (w8 ((bAnd .u8 q240 15) + 1)) ≤ (([48, 49, 50, 51, 52, 53, 54, 55, 56, 57, 97, 98, 99, 100, 101, 102] : List UInt8).length : Int)) ∧
            (((((([48, 49, 50, 51, 52, 53, 54, 55, 56, 57, 97, 98, 99, 100, 101, 102] : List UInt8).take (w8 ((bShr .u8 q240 4) + 1)).toNat).drop (bShr .u8 q240 4).toNat).length : Int) + (((([48, 49, 50, 51, 52, 53, 54, 55, 56, 57, 97, 98, 99, 100, 101, 102] : List UInt8).take (w8 ((bAnd .u8 q240 15) + 1)).toNat).drop (bAnd .u8 q240 15).toNat).length : Int) ≤ 9223372036854775807) ∧
            ((yb35vvv.length + (((([48, 49, 50, 51, 52, 53, 54, 55, 56, 57, 97, 98, 99, 100, 101, 102] : List UInt8).take (w8 ((bShr .u8 q240 4) + 1)).toNat).drop (bShr .u8 q240 4).toNat) ++ ((([48, 49, 50, 51, 52, 53, 54, 55, 56, 57, 97, 98, 99, 100, 101, 102] : List UInt8).take (w8 ((bAnd .u8 q240 15) + 1)).toNat).drop (bAnd .u8 q240 15).toNat)).length ≤ 140737488355328) ∧
            (inv216 (w64 (x59 + 1)) (yb35vvv ++ (((([48, 49, 50, 51, 52, 53, 54, 55, 56, 57, 97, 98, 99, 100, 101, 102] : List UInt8).take (w8 ((bShr .u8 q240 4) + 1)).toNat).drop (bShr .u8 q240 4).toNat) ++ ((([48, 49, 50, 51, 52, 53, 54, 55, 56, 57, 97, 98, 99, 100, 101, 102] : List UInt8).take (w8 ((bAnd .u8 q240 15) + 1)).toNat).drop (bAnd .u8 q240 15).toNat))) ∧ mu216 (w64 (x59 + 1)) (yb35vvv ++ (((([48, 49, 50, 51, 52, 53, 54, 55, 56, 57, 97, 98, 99, 100, 101, 102] : List UInt8).take (w8 ((bShr .u8 q240 4) + 1)).toNat).drop (bShr .u8 q240 4).toNat) ++ ((([48, 49, 50, 51, 52, 53, 54, 55, 56, 57, 97, 98, 99, 100, 101, 102] : List UInt8).take (w8 ((bAnd .u8 q240 15) + 1)).toNat).drop (bAnd .u8 q240 15).toNat))) < mu216 x59 yb35vvv)))))))) ∧
          ((decide (x59 < (q92.F.Data.length : Int))) = false →
            ((yb35vvv.length + ([10] : List UInt8).length ≤ 140737488355328) ∧
            (inv68 (yb35vvv ++ ([10] : List UInt8))))))))))))))))))))) ∧
        (∀ (yb35v : List UInt8), inv68 yb35v →
          (inv48 (w64 (x17 + 1)) yb35v ∧ mu48 (w64 (x17 + 1)) yb35v < mu48 x17 yb35)))) ∧
      ((decide (x17 < (u0.length : Int))) = false →
        (K (yb35, 0)))))))))

def tparse_vc (u0 : List UInt8) (K : ((List Line) × Int × Int) → Prop) : Prop :=
  (((decide ((u0.length : Int) > 40000)) = true →
      (K ([], 0, 2))) ∧
    ((decide ((u0.length : Int) > 40000)) = false →
      (((u0 == ([] : List UInt8)) = true →
        (K ([], 0, 0))) ∧
      ((u0 == ([] : List UInt8)) = false →
        ((u0.length ≤ 1000000 ∧ ([10] : List UInt8).length = 1) ∧
        ((splitS u0 ([10] : List UInt8)).length ≤ 140737488355328 →
        ((0 ≤ w64 (((splitS u0 ([10] : List UInt8)).length : Int) - 1) ∧ w64 (((splitS u0 ([10] : List UInt8)).length : Int) - 1) ≤ ((splitS u0 ([10] : List UInt8)).length : Int)) ∧
        (∃ inv84 : (List Line) → Int → Prop, ∃ mu84 : (List Line) → Int → Nat, inv84 ([] : List Line) 0 ∧
        (∀ (x2 : List Line) (x24 : Int), inv84 x2 x24 →
        (((decide (x24 < (((splitS u0 ([10] : List UInt8)).take (w64 (((splitS u0 ([10] : List UInt8)).length : Int) - 1)).toNat).length : Int))) = true →
          ((0 ≤ x24 ∧ x24 < (((splitS u0 ([10] : List UInt8)).take (w64 (((splitS u0 ([10] : List UInt8)).length : Int) - 1)).toNat).length : Int)) ∧
          (∀ q116, ((splitS u0 ([10] : List UInt8)).take (w64 (((splitS u0 ([10] : List UInt8)).length : Int) - 1)).toNat)[x24.toNat]? = some q116 →
          ((q116.length ≤ 1000000) ∧
          ((lineS q116).1.F.Data.length ≤ 140737488355328 →
          (((!(lineS q116).2) = true →
            (K ([], x24, 1))) ∧
          ((!(lineS q116).2) = false →
            (((x2.length + 1) * 64 ≤ 140737488355328) ∧
            (inv84 (x2 ++ [(lineS q116).1]) (w64 (x24 + 1)) ∧ mu84 (x2 ++ [(lineS q116).1]) (w64 (x24 + 1)) < mu84 x2 x24))))))))) ∧
        ((decide (x24 < (((splitS u0 ([10] : List UInt8)).take (w64 (((splitS u0 ([10] : List UInt8)).length : Int) - 1)).toNat).length : Int))) = false →
          ((0 ≤ w64 (((splitS u0 ([10] : List UInt8)).length : Int) - 1) ∧ w64 (((splitS u0 ([10] : List UInt8)).length : Int) - 1) < ((splitS u0 ([10] : List UInt8)).length : Int)) ∧
          (∀ q220, (splitS u0 ([10] : List UInt8))[(w64 (((splitS u0 ([10] : List UInt8)).length : Int) - 1)).toNat]? = some q220 →
          (((q220 != ([] : List UInt8)) = true →
            (K ([], w64 (((splitS u0 ([10] : List UInt8)).length : Int) - 1), 1))) ∧
          ((q220 != ([] : List UInt8)) = false →
            ((((checkS x2) != 0) = true →
              (K ([], 0, (checkS x2)))) ∧
            (((checkS x2) != 0) = false →
              (K (x2, 0, 0)))))))))))))))))))

/-! Pure proofs: no program in sight. -/
def leqfS (a b : List Line) (p : Line → Line → Bool) : Bool := decide (a.length = b.length) && (a.zip b).all fun x => p x.1 x.2
theorem leqf_ok (a b : List Line) (p : Line → Line → Bool) : leqf_vc a b p (fun r => r = leqfS a b p) := by
  intro ha hb
  refine ⟨fun h => ?_, fun h => ?_⟩
  · have h : ¬ (a.length : Int) = (b.length : Int) := by simpa using h
    have h : a.length ≠ b.length := by omega
    simp [leqfS, h]
  · have h : a.length = b.length := by
      have h : (a.length : Int) = (b.length : Int) := by simpa only [bne_eq_false_iff_eq] using h
      omega
    refine rg0 ha (fun k => ∀ x ∈ (a.zip b).take k, p x.1 x.2 = true) (fun x hx => by simp at hx) ?_ ?_
    · intro k q hk hq hj inv mu hn
      refine fun _ => ⟨by omega, fun y hy _ => ?_⟩
      rw [Int.toNat_natCast] at hy
      have hz : (a.zip b)[k]? = some (q, y) := by rw [List.getElem?_zip_eq_some]; exact ⟨hq, hy⟩
      refine ⟨fun h2 => ?_, fun h2 => hn fun x hx => ?_⟩
      · have h2 : p q y = false := by simpa using h2
        have : (a.zip b).all (fun x => p x.1 x.2) = false := List.all_eq_false.2 ⟨(q, y), List.mem_of_getElem? hz, by simp [h2]⟩
        simp [leqfS, this]
      · have h2 : p q y = true := by simpa using h2
        rw [List.take_add_one, hz] at hx
        rcases List.mem_append.1 hx with hx | hx
        · exact hj x hx
        · obtain rfl : x = (q, y) := by simpa using hx
          exact h2
    · intro hj
      rw [List.take_of_length_le (by simp; omega)] at hj
      have : (a.zip b).all (fun x => p x.1 x.2) = true := List.all_eq_true.2 hj
      simp [leqfS, this, h]
/-! ### Lines are printed -/
def hex2 (b : Int) : List UInt8 := [hexd (b.toNat / 16), hexd (b.toNat % 16)]
def headP (x : Line) : List UInt8 := (((((itoaS x.Time) ++ ([32] : List UInt8)) ++ (itoaS x.Bus)) ++ ([32] : List UInt8)) ++ (numS x.F.ID x.F.Long))
def midP (x : Line) : List UInt8 := if x.F.Remote = true then ([63] : List UInt8) ++ (itoaS x.F.Size) else if x.F.Fast = true then [35, 35] else [35]
def dataP (d : List Int) : List UInt8 := (d.map hex2).flatten
def lineP (x : Line) : List UInt8 := headP x ++ (midP x ++ (dataP x.F.Data ++ [10]))
def linesP (l : List Line) : List UInt8 := (l.map lineP).flatten
def printS (l : List Line) : List UInt8 × Int := if checkS l = 0 then (linesP l, 0) else ([], checkS l)
/-- What is known of a line that is right. -/
def okL (x : Line) : Prop := (0 ≤ x.Time ∧ x.Time ≤ 1000000) ∧ (0 ≤ x.Bus ∧ x.Bus ≤ 3) ∧ fcheckfr x.F = 0
theorem chkF_ok : ∀ (l : List Line) (t : Int), chkF t l = 0 → ∀ x ∈ l, okL x
  | [], _, _, x, hx => by cases hx
  | y :: r, t, h, x, hx => by
    rw [chkF] at h
    split at h
    · cases h
    · next h1 =>
      split at h
      · cases h
      · split at h
        · next h3 => rw [h] at h3; cases h3
        · next h3 =>
          rcases List.mem_cons.1 hx with rfl | hx
          · refine ⟨?_, ?_, by simpa using h3⟩
            · simp at h1; omega
            · simp at h1; omega
          · exact chkF_ok r _ h x hx
theorem checkS_ok {l : List Line} (h : checkS l = 0) : l.length ≤ 100 ∧ chkF 0 l = 0 := by
  unfold checkS at h
  split at h
  · cases h
  · exact ⟨by omega, h⟩
theorem fcheck0 {f : Frame} (h : fcheckfr f = 0) : (0 ≤ f.ID ∧ f.ID ≤ 536870911 ∧ (f.Long = false → f.ID ≤ 2047)) ∧ (f.Remote = true → f.Fast = false ∧ f.Data = []) ∧ (0 ≤ f.Size ∧ f.Size ≤ 8 ∧ (f.Remote = false → f.Size = 0)) ∧ f.Data.length ≤ 64 := by
  unfold fcheckfr at h
  cases h1 : ((decide (f.ID < 0)) || ((!f.Long) && (decide (f.ID > 2047)))) || (decide (f.ID > 536870911)) with
  | true => rw [h1] at h; cases h
  | false =>
    cases h2 : f.Remote && (f.Fast || (decide ((f.Data.length : Int) > 0))) with
    | true => rw [h1, h2] at h; cases h
    | false =>
      cases h3 : ((decide (f.Size < 0)) || (decide (f.Size > 8))) || ((!f.Remote) && (f.Size != 0)) with
      | true => rw [h1, h2, h3] at h; cases h
      | false =>
        cases h4 : (decide ((f.Data.length : Int) > 64)) || ((!f.Fast) && (decide ((f.Data.length : Int) > 8))) with
        | true => rw [h1, h2, h3, h4] at h; cases h
        | false =>
          clear h
          refine ⟨⟨?_, ?_, fun h => ?_⟩, fun h => ?_, ⟨?_, ?_, fun h => ?_⟩, ?_⟩
          · simp at h1; omega
          · simp at h1; omega
          · rw [h] at h1; simp at h1; omega
          · rw [h] at h2
            simp at h2
            exact h2
          · simp at h3; omega
          · simp at h3; omega
          · rw [h] at h3; simp at h3; omega
          · simp at h4; omega
theorem digsF_len : ∀ k u, (digsF k u).length ≤ k + 1
  | 0, _ => by simp [digsF]
  | k + 1, u => by
    rw [digsF]
    split
    · simp
    · have := digsF_len k (u / 10)
      rw [List.length_append, List.length_cons, List.length_nil]; omega
theorem itoaS_len (n : Int) : (itoaS n).length ≤ 22 := by
  unfold itoaS
  split
  · have := digsF_len 20 n.natAbs; rw [List.length_cons]; omega
  · have := digsF_len 20 n.toNat; omega
theorem headP_len (x : Line) : (headP x).length ≤ 60 := by
  have h1 := itoaS_len x.Time; have h2 := itoaS_len x.Bus; have h3 := numS_len x.F.ID x.F.Long
  unfold headP
  simp only [List.length_append, List.length_cons, List.length_nil]
  omega
theorem midP_len (x : Line) : (midP x).length ≤ 23 := by
  have h1 := itoaS_len x.F.Size
  unfold midP
  split
  · simp only [List.length_append, List.length_cons, List.length_nil]; omega
  · split <;> simp
theorem dataP_len (d : List Int) : (dataP d).length = 2 * d.length := by
  unfold dataP
  induction d with
  | nil => rfl
  | cons b r ih => rw [List.map_cons, List.flatten_cons, List.length_append, ih, List.length_cons]; simp [hex2]; omega
theorem lineP_len {x : Line} (h : okL x) : (lineP x).length ≤ 220 := by
  have h1 := headP_len x; have h2 := midP_len x; have h3 := dataP_len x.F.Data; have h4 := (fcheck0 h.2.2).2.2.2
  unfold lineP
  simp only [List.length_append, List.length_cons, List.length_nil]
  omega
theorem linesP_len : ∀ l : List Line, (∀ x ∈ l, okL x) → (linesP l).length ≤ 220 * l.length
  | [], _ => by simp [linesP]
  | x :: r, h => by
    have h1 := lineP_len (h x List.mem_cons_self)
    have h2 := linesP_len r fun y hy => h y (List.mem_cons_of_mem _ hy)
    show (lineP x ++ linesP r).length ≤ _
    rw [List.length_append, List.length_cons]; omega
theorem dig_hi : ∀ b : Fin 256, (0 ≤ bShr .u8 ((b.val : Nat) : Int) 4 ∧ bShr .u8 ((b.val : Nat) : Int) 4 ≤ (w8 ((bShr .u8 ((b.val : Nat) : Int) 4) + 1)) ∧ (w8 ((bShr .u8 ((b.val : Nat) : Int) 4) + 1)) ≤ (dgt.length : Int)) ∧
    (dgt.take (w8 ((bShr .u8 ((b.val : Nat) : Int) 4) + 1)).toNat).drop (bShr .u8 ((b.val : Nat) : Int) 4).toNat = [hexd (b.val / 16)] := by decide +kernel
theorem dig_lo : ∀ b : Fin 256, (0 ≤ bAnd .u8 ((b.val : Nat) : Int) 15 ∧ bAnd .u8 ((b.val : Nat) : Int) 15 ≤ (w8 ((bAnd .u8 ((b.val : Nat) : Int) 15) + 1)) ∧ (w8 ((bAnd .u8 ((b.val : Nat) : Int) 15) + 1)) ≤ (dgt.length : Int)) ∧
    (dgt.take (w8 ((bAnd .u8 ((b.val : Nat) : Int) 15) + 1)).toNat).drop (bAnd .u8 ((b.val : Nat) : Int) 15).toNat = [hexd (b.val % 16)] := by decide +kernel
def bytesL (l : List Line) : Prop := ∀ x ∈ l, ∀ b ∈ x.F.Data, 0 ≤ b ∧ b ≤ 255
theorem take_one {α : Type} {l : List α} {k : Nat} {q : α} (h : l[k]? = some q) : l.take (k + 1) = l.take k ++ [q] := by rw [List.take_add_one, h]; rfl
theorem tprint_ok (l : List Line) (hB : bytesL l) : tprint_vc l (fun r => r = printS l) := by
  intro hl
  refine ⟨fun h => ?_, fun h => ?_⟩
  · have h : checkS l ≠ 0 := by simpa using h
    unfold printS; rw [if_neg h]
  have h : checkS l = 0 := by simpa using h
  have hP : printS l = (linesP l, 0) := by unfold printS; rw [if_pos h]
  obtain ⟨h100, hc⟩ := checkS_ok h
  have hok := chkF_ok l 0 hc
  refine ⟨fun i acc => ∃ k : Nat, i = k ∧ k ≤ l.length ∧ acc = linesP (l.take k), fun i _ => l.length - i.toNat, ⟨0, rfl, by omega, rfl⟩, ?_⟩
  rintro _ _ ⟨k, rfl, hk, rfl⟩
  refine ⟨fun h1 => ?_, fun h1 => ?_⟩
  · have hkm : k < l.length := by simpa using h1
    have hacc : (linesP (l.take k)).length ≤ 22000 := by
      have := linesP_len (l.take k) fun x hx => hok x (List.mem_of_mem_take hx)
      rw [List.length_take] at this
      omega
    refine ⟨fun v => v = linesP (l.take (k + 1)), ⟨by omega, fun q hq _ => ?_⟩, fun v hv => ?_⟩
    · rw [Int.toNat_natCast] at hq
      have hm := List.mem_of_getElem? hq
      have hq2 := hok q hm
      obtain ⟨ho1, ho2, ho3⟩ := hq2
      obtain ⟨hf1, hf2, hf3, hf4⟩ := fcheck0 ho3
      have hqb := hB q hm
      have l1 := itoaS_len q.Time; have l2 := itoaS_len q.Bus; have l3 := numS_len q.F.ID q.F.Long; have l4 := itoaS_len q.F.Size; have l5 := headP_len q
      have hlen : (headP q).length = (itoaS q.Time).length + 1 + (itoaS q.Bus).length + 1 + (numS q.F.ID q.F.Long).length := by unfold headP; simp only [List.length_append, List.length_cons, List.length_nil]
      refine ⟨by omega, by simp only [List.length_cons, List.length_nil]; omega, by omega, by simp only [List.length_append, List.length_cons, List.length_nil]; omega, by simp only [List.length_append, List.length_cons, List.length_nil]; omega, by omega, by simp only [List.length_append, List.length_cons, List.length_nil]; omega, ?_, fun v => v = linesP (l.take k) ++ headP q ++ midP q, ⟨fun hr => ?_, fun hr => ?_⟩, ?_⟩
      · show (linesP (l.take k)).length + (headP q).length ≤ _
        omega
      · refine ⟨by omega, by simp only [List.length_cons, List.length_nil]; omega, ?_, ?_⟩
        · show (linesP (l.take k) ++ headP q).length + (([63] : List UInt8) ++ itoaS q.F.Size).length ≤ _
          simp only [List.length_append, List.length_cons, List.length_nil]; omega
        · show linesP (l.take k) ++ headP q ++ _ = _
          unfold midP; rw [if_pos hr]
      · refine ⟨fun hf => ⟨?_, ?_⟩, fun hf => ⟨?_, ?_⟩⟩
        · show (linesP (l.take k) ++ headP q).length + _ ≤ _
          simp only [List.length_append, List.length_cons, List.length_nil]; omega
        · show linesP (l.take k) ++ headP q ++ _ = _
          unfold midP; rw [if_neg (by rw [hr]; decide), if_pos hf]
        · show (linesP (l.take k) ++ headP q).length + _ ≤ _
          simp only [List.length_append, List.length_cons, List.length_nil]; omega
        · show linesP (l.take k) ++ headP q ++ _ = _
          unfold midP; rw [if_neg (by rw [hr]; decide), if_neg (by rw [hf]; decide)]
      · rintro _ rfl
        have l6 := midP_len q
        refine ⟨fun j v => ∃ m : Nat, j = m ∧ m ≤ q.F.Data.length ∧ v = linesP (l.take k) ++ headP q ++ midP q ++ dataP (q.F.Data.take m), fun j _ => q.F.Data.length - j.toNat, ⟨0, rfl, by omega, by simp [dataP]⟩, ?_⟩
        rintro _ _ ⟨m, rfl, hm2, rfl⟩
        have l7 := dataP_len (q.F.Data.take m)
        rw [List.length_take] at l7
        refine ⟨fun h2 => ?_, fun h2 => ?_⟩
        · have hmm : m < q.F.Data.length := by simpa using h2
          refine ⟨by omega, fun b hb => ?_⟩
          rw [Int.toNat_natCast] at hb
          have hb2 := hqb b (List.mem_of_getElem? hb)
          obtain ⟨c, hc9, rfl⟩ : ∃ c : Nat, c < 256 ∧ b = (c : Int) := ⟨b.toNat, by omega, by omega⟩
          obtain ⟨d1, d2⟩ := dig_hi ⟨c, hc9⟩
          obtain ⟨d3, d4⟩ := dig_lo ⟨c, hc9⟩
          have d2' : (([48, 49, 50, 51, 52, 53, 54, 55, 56, 57, 97, 98, 99, 100, 101, 102] : List UInt8).take (w8 ((bShr .u8 (c : Int) 4) + 1)).toNat).drop (bShr .u8 (c : Int) 4).toNat = [hexd (c / 16)] := d2
          have d4' : (([48, 49, 50, 51, 52, 53, 54, 55, 56, 57, 97, 98, 99, 100, 101, 102] : List UInt8).take (w8 ((bAnd .u8 (c : Int) 15) + 1)).toNat).drop (bAnd .u8 (c : Int) 15).toNat = [hexd (c % 16)] := d4
          rw [d2', d4', w64_succ m (by omega)]
          refine ⟨d1, d3, by simp only [List.length_cons, List.length_nil]; omega, by simp only [List.length_append, List.length_cons, List.length_nil]; omega, ⟨m + 1, rfl, by omega, ?_⟩, by dsimp only; omega⟩
          have e9 : dataP (q.F.Data.take (m + 1)) = dataP (q.F.Data.take m) ++ [hexd (c / 16), hexd (c % 16)] := by
            rw [take_one hb]
            unfold dataP
            rw [List.map_append, List.flatten_append]
            simp [hex2]
          rw [e9]
          simp
        · have h3 : m = q.F.Data.length := by simp at h2; omega
          subst h3
          rw [List.take_length] at l7 ⊢
          refine ⟨by simp only [List.length_append, List.length_cons, List.length_nil]; omega, ?_⟩
          rw [take_one hq]
          unfold linesP
          rw [List.map_append, List.flatten_append]
          simp [lineP]
    · subst hv
      rw [w64_succ k (by omega)]
      exact ⟨⟨k + 1, rfl, by omega, rfl⟩, by dsimp only; omega⟩
  · have : k = l.length := by simp at h1; omega
    subst this
    rw [hP, List.take_length]
/-! ### A text is read -/
def parseF : List Line → Int → List (List UInt8) → List Line × Int × Int
  | _, _, [] => ([], 0, 0)
  | acc, i, [w] => if (w != ([] : List UInt8)) = true then ([], i, 1) else if ((checkS acc) != 0) = true then ([], 0, checkS acc) else (acc, 0, 0)
  | acc, i, w :: y :: r => if (!(lineS w).2) = true then ([], i, 1) else parseF (acc ++ [(lineS w).1]) (i + 1) (y :: r)
def parseS (u : List UInt8) : List Line × Int × Int := if (u.length : Int) > 40000 then ([], 0, 2) else if (u == ([] : List UInt8)) = true then ([], 0, 0) else parseF [] 0 (splitA 10 u)
theorem tparse_ok (u : List UInt8) : tparse_vc u (fun r => r = parseS u) := by
  have hS : parseS u = parseS u := rfl
  conv at hS => rhs; unfold parseS
  refine ⟨fun h => by rw [if_pos (of_decide_eq_true h)] at hS; exact hS.symm, fun h => ?_⟩
  have hu := of_decide_eq_false h
  rw [if_neg hu] at hS
  refine ⟨fun h => by rw [if_pos h] at hS; exact hS.symm, fun h => ?_⟩
  rw [if_neg (by rw [h]; decide)] at hS
  have e : splitS u ([10] : List UInt8) = splitA 10 u := rfl
  rw [e]
  have hn := splitA_len 10 u
  have hct : u.count 10 ≤ u.length := List.count_le_length
  generalize hp : splitA 10 u = p at *
  have ew : w64 ((p.length : Int) - 1) = ((p.length - 1 : Nat) : Int) := by rw [w64_eq _ (by omega)]; omega
  rw [ew, Int.toNat_natCast, List.length_take]
  refine ⟨⟨by omega, rfl⟩, fun _ => ⟨by omega, fun x i => ∃ k : Nat, i = k ∧ k ≤ p.length - 1 ∧ x.length = k ∧ parseF x (k : Int) (p.drop k) = parseF [] 0 p, fun _ i => p.length - i.toNat, ⟨0, rfl, by omega, rfl, rfl⟩, ?_⟩⟩
  rintro x _ ⟨k, rfl, hk, hx, hf⟩
  refine ⟨fun h1 => ?_, fun h1 => ?_⟩
  · have h1 : k < p.length - 1 := by have := of_decide_eq_true h1; omega
    refine ⟨by omega, fun q hq => ?_⟩
    rw [Int.toNat_natCast, List.getElem?_take_of_lt (by omega)] at hq
    have hm : q ∈ splitA 10 u := by rw [hp]; exact List.mem_of_getElem? hq
    obtain ⟨y, r, hy⟩ : ∃ y r, p.drop (k + 1) = y :: r := by
      have h2 : k + 1 < p.length := by omega
      exact ⟨_, _, List.drop_eq_getElem_cons h2⟩
    rw [drop_cons hq, hy, parseF] at hf
    have hlq := split_mem_len 10 u q hm
    refine ⟨by omega, fun _ => ⟨fun h2 => ?_, fun h2 => ?_⟩⟩
    · rw [if_pos h2] at hf
      rw [hS, ← hf]
    · rw [if_neg (by rw [h2]; decide)] at hf
      rw [w64_succ k (by omega)]
      refine ⟨by omega, ⟨k + 1, rfl, by omega, by simp [hx], ?_⟩, by dsimp only; omega⟩
      rw [hy, ← hf]
      rfl
  · have h1 : k = p.length - 1 := by have := of_decide_eq_false h1; omega
    refine ⟨by omega, fun q hq => ?_⟩
    rw [← h1] at hq ⊢
    have hd : p.drop (k + 1) = [] := List.drop_eq_nil_of_le (by omega)
    rw [drop_cons hq, hd, parseF] at hf
    refine ⟨fun h2 => ?_, fun h2 => ?_⟩
    · rw [if_pos h2] at hf; rw [hS, ← hf]
    · rw [if_neg (by rw [h2]; decide)] at hf
      refine ⟨fun h3 => ?_, fun h3 => ?_⟩
      · rw [if_pos h3] at hf; rw [hS, ← hf]
      · rw [if_neg (by rw [h3]; decide)] at hf; rw [hS, ← hf]

end Go.Proofs.YtdenmllkjdijlaaGreatDoor
set_option linter.unusedVariables false
set_option linter.unusedSimpArgs false
namespace Go.Proofs.YtdenmllkjdijlaaGreatDoor
open Go.Sy Go.RowKit
def slines_vc (u0 : List Line) (u1 : List Line) (K : Bool → Prop) : Prop :=
  (u0.length ≤ 140737488355328 →
    (u1.length ≤ 140737488355328 →
    (K (leqfS u0 u1 (fun x0 x1 => sl1 x0 x1 )))))

/-! Pure proofs: no program in sight. -/
def slinesS (a b : List Line) : Bool := leqfS a b (fun x0 x1 => sl1 x0 x1 )
theorem slines_ok (a b : List Line) : slines_vc a b (fun r => r = slinesS a b) := fun _ _ => rfl

end Go.Proofs.YtdenmllkjdijlaaGreatDoor
set_option linter.unusedVariables false
set_option linter.unusedSimpArgs false
namespace Go.Proofs.YtdenmllkjdijlaaGreatDoor
open Go.Sy Go.RowKit
def traced_vc  (K : Bool → Prop) : Prop :=
  ((bytesL ([(⟨7, 1, (⟨18, false, false, false, 0, ([171] : List Int)⟩ : Frame)⟩ : Line)] : List Line)) ∧
    ((parseS (printS ([(⟨7, 1, (⟨18, false, false, false, 0, ([171] : List Int)⟩ : Frame)⟩ : Line)] : List Line)).1).1.length ≤ 140737488355328 →
    (K ((((((printS ([(⟨7, 1, (⟨18, false, false, false, 0, ([171] : List Int)⟩ : Frame)⟩ : Line)] : List Line)).2 == 0) && ((parseS (printS ([(⟨7, 1, (⟨18, false, false, false, 0, ([171] : List Int)⟩ : Frame)⟩ : Line)] : List Line)).1).2.2 == 0)) && ((parseS (printS ([(⟨7, 1, (⟨18, false, false, false, 0, ([171] : List Int)⟩ : Frame)⟩ : Line)] : List Line)).1).2.1 == 0)) && ((printS ([(⟨7, 1, (⟨18, false, false, false, 0, ([171] : List Int)⟩ : Frame)⟩ : Line)] : List Line)).1 == ([55, 32, 49, 32, 48, 49, 50, 35, 97, 98, 10] : List UInt8))) && (slinesS ([(⟨7, 1, (⟨18, false, false, false, 0, ([171] : List Int)⟩ : Frame)⟩ : Line)] : List Line) (parseS (printS ([(⟨7, 1, (⟨18, false, false, false, 0, ([171] : List Int)⟩ : Frame)⟩ : Line)] : List Line)).1).1)))))

/-! Pure proofs: no program in sight. -/
theorem traced_ok : traced_vc (fun r => r = true) := by
  refine ⟨?_, fun _ => by decide +kernel⟩
  intro x hx b hb
  obtain rfl := List.mem_singleton.1 hx
  obtain rfl := List.mem_singleton.1 hb
  decide

end Go.Proofs.YtdenmllkjdijlaaGreatDoor
set_option linter.unusedVariables false
set_option linter.unusedSimpArgs false
namespace Go.Proofs.YtdenmllkjdijlaaGreatDoor
open Go.Sy Go.RowKit
structure BInt where
  neg : Bool
  abs : List Int
  deriving DecidableEq, Inhabited
def BInt.rep (Z : Fz) (cs : List Value) (x : BInt) : Prop := ∃ (ao0 : Option Addr) (cap0 : Nat), cs = [.bool x.neg, .slice ao0 x.abs.length cap0] ∧ SlR (tyInt .u32) Z ao0 cap0 x.abs
def gtrim_vc (u0 : List Int) (K : (List Int) → Prop) : Prop :=
  (u0.length ≤ 140737488355328 →
    (∃ inv16 : Int → Prop, ∃ mu16 : Int → Nat, inv16 (u0.length : Int) ∧
    (∀ (x3 : Int), inv16 x3 →
    (((decide (x3 > 0)) = true →
      ((0 ≤ w64 (x3 - 1) ∧ w64 (x3 - 1) < (u0.length : Int)) ∧
      (∀ q50, u0[(w64 (x3 - 1)).toNat]? = some q50 →
      (((q50 == 0) = true →
        (inv16 (w64 (x3 - 1)) ∧ mu16 (w64 (x3 - 1)) < mu16 x3)) ∧
      ((q50 == 0) = false →
        ((0 ≤ x3 ∧ x3 ≤ (u0.length : Int)) ∧
        (K (u0.take x3.toNat)))))))) ∧
    ((decide (x3 > 0)) = false →
      ((0 ≤ x3 ∧ x3 ≤ (u0.length : Int)) ∧
      (K (u0.take x3.toNat))))))))

def glength_vc (u0 : List Int) (K : Int → Prop) : Prop :=
  (u0.length ≤ 140737488355328 →
    ((((u0.length : Int) == 0) = true →
      (K 0)) ∧
    (((u0.length : Int) == 0) = false →
      ((0 ≤ w64 ((u0.length : Int) - 1) ∧ w64 ((u0.length : Int) - 1) < (u0.length : Int)) ∧
      (∀ q38, u0[(w64 ((u0.length : Int) - 1)).toNat]? = some q38 →
      (∃ inv50 : Int → Int → Prop, ∃ mu50 : Int → Int → Nat, inv50 0 q38 ∧
      (∀ (x3 : Int) (x4 : Int), inv50 x3 x4 →
      (((x4 != 0) = true →
        (inv50 (w64 (x3 + 1)) (bShr .u32 x4 1) ∧ mu50 (w64 (x3 + 1)) (bShr .u32 x4 1) < mu50 x3 x4)) ∧
      ((x4 != 0) = false →
        (K (w64 ((w64 ((w64 ((u0.length : Int) - 1)) * 32)) + x3))))))))))))

/-! Pure proofs: no program in sight. -/
/-! Numbers in words of 32 bits, the least first. -/
def wv : List Int → Nat
  | [] => 0
  | x :: r => x.toNat + 4294967296 * wv r
def wok (l : List Int) : Prop := ∀ x ∈ l, 0 ≤ x ∧ x < 4294967296
def ws (n : Nat) : List Int := if n = 0 then [] else ((n % 4294967296 : Nat) : Int) :: ws (n / 4294967296)
 termination_by n
 decreasing_by omega
theorem ws_zero : ws 0 = [] := by rw [ws]; rfl
theorem ws_pos {n : Nat} (h : n ≠ 0) : ws n = ((n % 4294967296 : Nat) : Int) :: ws (n / 4294967296) := by rw [ws, if_neg h]
theorem wv_ws : ∀ n : Nat, wv (ws n) = n := by
  intro n
  induction n using Nat.strongRecOn with
  | ind n ih =>
    by_cases h : n = 0
    · subst h; rw [ws_zero]; rfl
    · rw [ws_pos h, wv, ih _ (by omega), Int.toNat_natCast]
      omega
theorem ws_wok : ∀ n : Nat, wok (ws n) := by
  intro n
  induction n using Nat.strongRecOn with
  | ind n ih =>
    by_cases h : n = 0
    · subst h; rw [ws_zero]; intro x hx; cases hx
    · rw [ws_pos h]
      intro x hx
      rcases List.mem_cons.1 hx with rfl | hx
      · omega
      · exact ih _ (by omega) x hx
theorem ws_len : ∀ (k n : Nat), n < 4294967296 ^ k → (ws n).length ≤ k := by
  intro k
  induction k with
  | zero => intro n h; have : n = 0 := by simpa using h
            subst this; rw [ws_zero]; simp
  | succ k ih =>
    intro n h
    by_cases h0 : n = 0
    · subst h0; rw [ws_zero]; simp
    · rw [ws_pos h0, List.length_cons]
      have : n / 4294967296 < 4294967296 ^ k := by
        rw [Nat.div_lt_iff_lt_mul (by decide)]
        rwa [Nat.pow_succ] at h
      have := ih _ this
      omega
theorem wok_cons {x : Int} {r : List Int} (h : wok (x :: r)) : (0 ≤ x ∧ x < 4294967296) ∧ wok r := ⟨h x (List.mem_cons_self ..), fun y hy => h y (List.mem_cons_of_mem _ hy)⟩
theorem wok_at {l : List Int} (h : wok l) {k : Nat} {q : Int} (hq : l[k]? = some q) : ∃ n : Nat, q = n ∧ n < 4294967296 := by
  have := h q (List.mem_of_getElem? hq)
  exact ⟨q.toNat, by omega, by omega⟩
theorem wok_set {l : List Int} (h : wok l) (k : Nat) (n : Nat) (hn : n < 4294967296) : wok (l.set k (n : Int)) := by
  intro x hx
  rcases List.mem_or_eq_of_mem_set hx with hx | rfl
  · exact h x hx
  · omega
theorem wok_rep (n : Nat) : wok (List.replicate n (0 : Int)) := fun x hx => by rw [(List.mem_replicate.1 hx).2]; omega
theorem wv_append (a b : List Int) : wv (a ++ b) = wv a + 4294967296 ^ a.length * wv b := by
  induction a with
  | nil => simp [wv]
  | cons x r ih => rw [List.cons_append, wv, ih, wv, List.length_cons, Nat.pow_succ, Nat.mul_add, Nat.add_assoc, Nat.mul_comm (4294967296 ^ r.length) 4294967296, Nat.mul_assoc]
theorem wv_rep (n : Nat) : wv (List.replicate n (0 : Int)) = 0 := by
  induction n with
  | zero => rfl
  | succ n ih => rw [List.replicate_succ, wv, ih]; rfl
theorem wv_next {l : List Int} {k n : Nat} (h : l[k]? = some (n : Int)) : wv (l.take (k + 1)) = wv (l.take k) + 4294967296 ^ k * n := by
  have hk := (List.getElem?_eq_some_iff.1 h).1
  rw [take_next l k _ h, wv_append, List.length_take, Nat.min_eq_left (by omega)]
  simp [wv]
theorem wv_set : ∀ (l : List Int) (k q n : Nat), l[k]? = some (q : Int) → wv (l.set k (n : Int)) + 4294967296 ^ k * q = wv l + 4294967296 ^ k * n := by
  intro l
  induction l with
  | nil => intro k q n h; simp at h
  | cons x r ih =>
    intro k q n h
    cases k with
    | zero =>
      cases h
      simp [wv]
      omega
    | succ k =>
      have := ih k q n (by simpa using h)
      rw [List.set_cons_succ, wv, wv, Nat.pow_succ, Nat.mul_comm (4294967296 ^ k) 4294967296, Nat.mul_assoc, Nat.mul_assoc]
      omega
theorem wv_lt {l : List Int} (h : wok l) : wv l < 4294967296 ^ l.length := by
  induction l with
  | nil => simp [wv]
  | cons x r ih =>
    obtain ⟨h1, h2⟩ := wok_cons h
    have := ih h2
    rw [wv, List.length_cons, Nat.pow_succ]
    omega
/-- Without the noughts at the end. -/
def gtrimS : List Int → List Int
  | [] => []
  | x :: r => match gtrimS r with
    | [] => if x = 0 then [] else [x]
    | y :: q => x :: y :: q
theorem gtrim_ws {l : List Int} (h : wok l) : gtrimS l = ws (wv l) := by
  induction l with
  | nil => rw [wv, ws_zero]; rfl
  | cons x r ih =>
    obtain ⟨h1, h2⟩ := wok_cons h
    rw [gtrimS, ih h2, wv]
    by_cases h0 : wv r = 0
    · rw [h0, ws_zero]
      by_cases hx : x = 0
      · subst hx
        rw [if_pos rfl]
        show [] = ws 0
        rw [ws_zero]
      · rw [if_neg hx, ws_pos (by omega)]
        have e1 : (x.toNat + 4294967296 * 0) % 4294967296 = x.toNat := by omega
        have e2 : (x.toNat + 4294967296 * 0) / 4294967296 = 0 := by omega
        rw [e1, e2, ws_zero, Int.toNat_of_nonneg h1.1]
    · have e1 : (x.toNat + 4294967296 * wv r) % 4294967296 = x.toNat := by omega
      have e2 : (x.toNat + 4294967296 * wv r) / 4294967296 = wv r := by omega
      rw [ws_pos (n := x.toNat + 4294967296 * wv r) (by omega), e1, e2]
      have e3 : ((x.toNat : Nat) : Int) = x := Int.toNat_of_nonneg h1.1
      rw [e3]
      rw [ws_pos h0]
theorem ws_trim (n : Nat) : gtrimS (ws n) = ws n := by rw [gtrim_ws (ws_wok n), wv_ws]
theorem gtrim_len (l : List Int) : (gtrimS l).length ≤ l.length := by
  induction l with
  | nil => exact Nat.le_refl _
  | cons x r ih =>
    rw [gtrimS]
    split
    · split <;> simp
    · rename_i y q e
      rw [e] at ih
      simpa using ih
theorem gtrim_snoc0 (l : List Int) : gtrimS (l ++ [0]) = gtrimS l := by
  induction l with
  | nil => rfl
  | cons x r ih => rw [List.cons_append, gtrimS, ih, gtrimS]
theorem gtrim_snoc (l : List Int) (x : Int) (hx : x ≠ 0) : gtrimS (l ++ [x]) = l ++ [x] := by
  induction l with
  | nil => show (if x = 0 then [] else [x]) = [x]; rw [if_neg hx]
  | cons y r ih =>
    rw [List.cons_append, gtrimS, ih]
    cases hr : r ++ [x] with
    | nil => simp at hr
    | cons a b => rfl
theorem gtrim_ok (l : List Int) : gtrim_vc l (fun r => r = gtrimS l) := by
  intro hl
  refine ⟨fun i => ∃ k : Nat, i = k ∧ k ≤ l.length ∧ gtrimS (l.take k) = gtrimS l, fun i => i.toNat, ⟨l.length, rfl, Nat.le_refl _, by rw [List.take_length]⟩, ?_⟩
  rintro _ ⟨k, rfl, hk, hg⟩
  refine ⟨fun h => ?_, fun h => ?_⟩
  · have h : 0 < k := by have := of_decide_eq_true h; omega
    have e : w64 ((k : Int) - 1) = ((k - 1 : Nat) : Int) := by rw [w64_eq _ (by omega)]; omega
    rw [e]
    refine ⟨by omega, fun q hq => ?_⟩
    rw [Int.toNat_natCast] at hq
    have ht := take_next l (k - 1) q hq
    have e1 : k - 1 + 1 = k := by omega
    rw [e1] at ht
    refine ⟨fun h1 => ?_, fun h1 => ?_⟩
    · have h1 : q = 0 := by simpa using h1
      subst h1
      rw [ht, gtrim_snoc0] at hg
      exact ⟨⟨k - 1, rfl, by omega, hg⟩, by (try dsimp only); omega⟩
    · have h1 : q ≠ 0 := by simpa using h1
      refine ⟨by omega, ?_⟩
      rw [Int.toNat_natCast, ← hg, ht, gtrim_snoc _ _ h1]
  · have h : k = 0 := by have := of_decide_eq_false h; omega
    subst h
    refine ⟨by omega, ?_⟩
    rw [← hg]
    rfl
/-- How many bits a number has. -/
def blen (n : Nat) : Nat := if n = 0 then 0 else Nat.log2 n + 1
theorem blen_lt (n : Nat) : n < 2 ^ blen n := by
  unfold blen
  split
  · subst_vars; decide
  · rename_i h
    exact (Nat.log2_lt h).1 (by omega)
theorem blen_ge {n : Nat} (h : n ≠ 0) : 2 ^ (blen n - 1) ≤ n := by
  unfold blen
  rw [if_neg h, Nat.add_sub_cancel]
  exact (Nat.le_log2 h).1 (Nat.le_refl _)
theorem blen_eq {n k : Nat} (h1 : n < 2 ^ (k + 1)) (h2 : 2 ^ k ≤ n) : blen n = k + 1 := by
  have p := Nat.two_pow_pos k
  have h0 : n ≠ 0 := by omega
  unfold blen
  rw [if_neg h0, (Nat.log2_eq_iff h0).2 ⟨h2, h1⟩]
def glengthS (l : List Int) : Int := (blen (wv l) : Int)
theorem shru (n s : Nat) (hs : s ≤ 64) (k : IntKind) (hk : s ≤ k.bits) : bShr k (n : Int) (s : Int) = ((n / 2 ^ s : Nat) : Int) := by
  unfold bShr
  have : min (s : Int).toNat k.bits = s := by rw [Int.toNat_natCast]; omega
  rw [this, Int.fdiv_eq_ediv_of_nonneg _ (Int.le_of_lt (Int.pow_pos (by decide)))]
  norm_cast
theorem wu32_nat (n : Nat) : wu32 (n : Int) = ((n % 4294967296 : Nat) : Int) := by
  show IntKind.u32.wrap (n : Int) = _
  rw [IntKind.wrap_u32]
  omega
theorem ws_last {n : Nat} (h : n ≠ 0) : ∃ (p : List Int) (q : Nat), ws n = p ++ [(q : Int)] ∧ q ≠ 0 ∧ q < 4294967296 := by
  have hne : ws n ≠ [] := by rw [ws_pos h]; simp
  obtain ⟨p, x, hp⟩ : ∃ p x, ws n = p ++ [x] := ⟨(ws n).dropLast, (ws n).getLast hne, (List.dropLast_concat_getLast hne).symm⟩
  have hx := ws_wok n x (by rw [hp]; simp)
  refine ⟨p, x.toNat, by rw [hp]; congr 2; omega, fun h0 => ?_, by omega⟩
  have h1 : x = 0 := by omega
  have h2 := ws_trim n
  rw [hp, h1, gtrim_snoc0] at h2
  have h3 := gtrim_len p
  rw [h2] at h3
  rw [List.length_append, List.length_singleton] at h3
  omega
theorem glength_ok (l : List Int) (h : l = ws (wv l) ∧ l.length ≤ 1000000) : glength_vc l (fun r => r = glengthS l) := by
  obtain ⟨h, hb⟩ := h
  intro hl
  refine ⟨fun h1 => ?_, fun h1 => ?_⟩
  · have h2 : (l.length : Int) = 0 := by simpa only [beq_iff_eq] using h1
    have h1 : l = [] := List.eq_nil_of_length_eq_zero (by omega)
    subst h1
    rfl
  · have h0 : wv l ≠ 0 := by
      intro e
      rw [e, ws_zero] at h
      subst h
      cases h1
    obtain ⟨p, q, hp, hq0, hq1⟩ := ws_last h0
    rw [← h] at hp
    have hpl : l.length = p.length + 1 := by rw [hp]; simp
    have e : w64 ((l.length : Int) - 1) = (p.length : Int) := by rw [w64_eq _ (by omega)]; omega
    rw [e]
    refine ⟨by omega, fun x hx => ?_⟩
    have hx : x = (q : Int) := by
      rw [Int.toNat_natCast, hp] at hx
      simp at hx
      exact hx.symm
    subst hx
    refine ⟨fun i t => ∃ k : Nat, i = k ∧ k ≤ 32 ∧ t = ((q / 2 ^ k : Nat) : Int) ∧ (k = 0 ∨ q / 2 ^ (k - 1) ≠ 0), fun _ t => t.toNat, ⟨0, rfl, by omega, by simp, .inl rfl⟩, ?_⟩
    rintro _ _ ⟨k, rfl, hk, rfl, hge⟩
    refine ⟨fun h2 => ?_, fun h2 => ?_⟩
    · have h2 : q / 2 ^ k ≠ 0 := by
        intro e2
        rw [e2] at h2
        cases h2
      have hk2 : k < 32 := by
        rcases Nat.lt_or_ge k 32 with hc | hc
        · exact hc
        · exfalso
          have : k = 32 := by omega
          subst this
          exact h2 (Nat.div_eq_of_lt hq1)
      have e3 : bShr .u32 ((q / 2 ^ k : Nat) : Int) 1 = ((q / 2 ^ k / 2 : Nat) : Int) := shru (q / 2 ^ k) 1 (by omega) .u32 (by decide)
      rw [e3, w64_succ k (by omega)]
      refine ⟨⟨k + 1, rfl, by omega, by rw [Nat.pow_succ, Nat.div_div_eq_div_mul], .inr (by rw [Nat.add_sub_cancel]; exact h2)⟩, ?_⟩
      show (((q / 2 ^ k / 2 : Nat)) : Int).toNat < (((q / 2 ^ k : Nat)) : Int).toNat
      rw [Int.toNat_natCast, Int.toNat_natCast]
      exact Nat.div_lt_self (Nat.pos_of_ne_zero h2) (by decide)
    · have h2 : q / 2 ^ k = 0 := by
        have : (((q / 2 ^ k : Nat) : Int)) = 0 := by simpa only [bne_eq_false_iff_eq] using h2
        omega
      have hk0 : k ≠ 0 := by
        rintro rfl
        rw [Nat.pow_zero, Nat.div_one] at h2
        exact hq0 h2
      obtain ⟨j, rfl⟩ : ∃ j, k = j + 1 := ⟨k - 1, by omega⟩
      have hge : q / 2 ^ j ≠ 0 := by
        rcases hge with hge | hge
        · omega
        · simpa using hge
      have a1 : q < 2 ^ (j + 1) := by
        rcases Nat.lt_or_ge q (2 ^ (j + 1)) with hc | hc
        · exact hc
        · have := Nat.div_pos hc (Nat.two_pow_pos _)
          omega
      have a2 : 2 ^ j ≤ q := by
        rcases Nat.lt_or_ge q (2 ^ j) with hc | hc
        · exact absurd (Nat.div_eq_of_lt hc) hge
        · exact hc
      rw [w64_eq ((p.length : Int) * 32) (by omega), w64_eq _ (by omega)]
      unfold glengthS
      have hpw : (4294967296 : Nat) ^ p.length = 2 ^ (32 * p.length) := by rw [Nat.pow_mul]
      have hvl : wv l = wv p + 2 ^ (32 * p.length) * q := by
        rw [hp, wv_append, hpw]
        simp [wv]
      have hpl2 : wv p < 2 ^ (32 * p.length) := by
        have : wok p := fun y hy => by
          have := ws_wok (wv l) y (by rw [← h, hp]; exact List.mem_append_left _ hy)
          exact this
        have := wv_lt this
        rwa [hpw] at this
      have b1 : wv l < 2 ^ (32 * p.length + j + 1) := by
        rw [hvl, Nat.add_assoc, Nat.pow_add]
        have : 2 ^ (32 * p.length) * (q + 1) ≤ 2 ^ (32 * p.length) * 2 ^ (j + 1) := Nat.mul_le_mul_left _ (by omega)
        rw [Nat.mul_add] at this
        omega
      have b2 : 2 ^ (32 * p.length + j) ≤ wv l := by
        rw [hvl, Nat.pow_add]
        have : 2 ^ (32 * p.length) * 2 ^ j ≤ 2 ^ (32 * p.length) * q := Nat.mul_le_mul_left _ a2
        omega
      rw [blen_eq b1 b2]
      omega

end Go.Proofs.YtdenmllkjdijlaaGreatDoor
set_option linter.unusedVariables false
set_option linter.unusedSimpArgs false
namespace Go.Proofs.YtdenmllkjdijlaaGreatDoor
open Go.Sy Go.RowKit
def gtwin_vc (u0 : List Int) (K : (List Int) → Prop) : Prop :=
  (u0.length ≤ 140737488355328 →
    (((([] : List Int).length + u0.length) * 4 ≤ 140737488355328) ∧
    (K (([] : List Int) ++ u0))))

def gwords_vc (u0 : Int) (K : (List Int) → Prop) : Prop :=
  ((gtrimS ([wu32 u0, wu32 (bShr .u64 u0 32)] : List Int)).length ≤ 140737488355328 →
    (K (gtrimS ([wu32 u0, wu32 (bShr .u64 u0 32)] : List Int))))

def gadd_vc (u0 : List Int) (u1 : List Int) (K : (List Int) → Prop) : Prop :=
  (u0.length ≤ 140737488355328 →
    (u1.length ≤ 140737488355328 →
    (((decide ((u0.length : Int) < (u1.length : Int))) = true →
      ((0 ≤ (w64 ((u1.length : Int) + 1)) ∧ (w64 ((u1.length : Int) + 1)) ≤ (w64 ((u1.length : Int) + 1)) ∧ (w64 ((u1.length : Int) + 1)) * 4 ≤ 140737488355328) ∧
      (∃ inv58 : Int → Int → (List Int) → Prop, ∃ mu58 : Int → Int → (List Int) → Nat, inv58 0 0 (List.replicate (w64 ((u1.length : Int) + 1)).toNat (0 : Int)) ∧
      (∀ (x6 : Int) (x7 : Int) (zg430 : List Int), inv58 x6 x7 zg430 →
      (((decide (x7 < (u1.length : Int))) = true →
        ((0 ≤ x7 ∧ x7 < (u1.length : Int)) ∧
        (∀ q94, u1[x7.toNat]? = some q94 →
        (((decide (x7 < (u0.length : Int))) = true →
          ((0 ≤ x7 ∧ x7 < (u0.length : Int)) ∧
          (∀ q132, u0[x7.toNat]? = some q132 →
          ((0 ≤ x7 ∧ x7 < (zg430.length : Int)) ∧
          (inv58 (bShr .u64 (wu64 ((wu64 (x6 + (wu64 q94))) + (wu64 q132))) 32) (w64 (x7 + 1)) (zg430.set x7.toNat (wu32 (wu64 ((wu64 (x6 + (wu64 q94))) + (wu64 q132))))) ∧ mu58 (bShr .u64 (wu64 ((wu64 (x6 + (wu64 q94))) + (wu64 q132))) 32) (w64 (x7 + 1)) (zg430.set x7.toNat (wu32 (wu64 ((wu64 (x6 + (wu64 q94))) + (wu64 q132))))) < mu58 x6 x7 zg430))))) ∧
        ((decide (x7 < (u0.length : Int))) = false →
          ((0 ≤ x7 ∧ x7 < (zg430.length : Int)) ∧
          (inv58 (bShr .u64 (wu64 (x6 + (wu64 q94))) 32) (w64 (x7 + 1)) (zg430.set x7.toNat (wu32 (wu64 (x6 + (wu64 q94))))) ∧ mu58 (bShr .u64 (wu64 (x6 + (wu64 q94))) 32) (w64 (x7 + 1)) (zg430.set x7.toNat (wu32 (wu64 (x6 + (wu64 q94))))) < mu58 x6 x7 zg430))))))) ∧
      ((decide (x7 < (u1.length : Int))) = false →
        ((0 ≤ (u1.length : Int) ∧ (u1.length : Int) < (zg430.length : Int)) ∧
        ((gtrimS (zg430.set (u1.length : Int).toNat (wu32 x6))).length ≤ 140737488355328 →
        (K (gtrimS (zg430.set (u1.length : Int).toNat (wu32 x6)))))))))))) ∧
    ((decide ((u0.length : Int) < (u1.length : Int))) = false →
      ((0 ≤ (w64 ((u0.length : Int) + 1)) ∧ (w64 ((u0.length : Int) + 1)) ≤ (w64 ((u0.length : Int) + 1)) ∧ (w64 ((u0.length : Int) + 1)) * 4 ≤ 140737488355328) ∧
      (∃ inv282 : Int → Int → (List Int) → Prop, ∃ mu282 : Int → Int → (List Int) → Nat, inv282 0 0 (List.replicate (w64 ((u0.length : Int) + 1)).toNat (0 : Int)) ∧
      (∀ (x6 : Int) (x7 : Int) (zg2670 : List Int), inv282 x6 x7 zg2670 →
      (((decide (x7 < (u0.length : Int))) = true →
        ((0 ≤ x7 ∧ x7 < (u0.length : Int)) ∧
        (∀ q318, u0[x7.toNat]? = some q318 →
        (((decide (x7 < (u1.length : Int))) = true →
          ((0 ≤ x7 ∧ x7 < (u1.length : Int)) ∧
          (∀ q356, u1[x7.toNat]? = some q356 →
          ((0 ≤ x7 ∧ x7 < (zg2670.length : Int)) ∧
          (inv282 (bShr .u64 (wu64 ((wu64 (x6 + (wu64 q318))) + (wu64 q356))) 32) (w64 (x7 + 1)) (zg2670.set x7.toNat (wu32 (wu64 ((wu64 (x6 + (wu64 q318))) + (wu64 q356))))) ∧ mu282 (bShr .u64 (wu64 ((wu64 (x6 + (wu64 q318))) + (wu64 q356))) 32) (w64 (x7 + 1)) (zg2670.set x7.toNat (wu32 (wu64 ((wu64 (x6 + (wu64 q318))) + (wu64 q356))))) < mu282 x6 x7 zg2670))))) ∧
        ((decide (x7 < (u1.length : Int))) = false →
          ((0 ≤ x7 ∧ x7 < (zg2670.length : Int)) ∧
          (inv282 (bShr .u64 (wu64 (x6 + (wu64 q318))) 32) (w64 (x7 + 1)) (zg2670.set x7.toNat (wu32 (wu64 (x6 + (wu64 q318))))) ∧ mu282 (bShr .u64 (wu64 (x6 + (wu64 q318))) 32) (w64 (x7 + 1)) (zg2670.set x7.toNat (wu32 (wu64 (x6 + (wu64 q318))))) < mu282 x6 x7 zg2670))))))) ∧
      ((decide (x7 < (u0.length : Int))) = false →
        ((0 ≤ (u0.length : Int) ∧ (u0.length : Int) < (zg2670.length : Int)) ∧
        ((gtrimS (zg2670.set (u0.length : Int).toNat (wu32 x6))).length ≤ 140737488355328 →
        (K (gtrimS (zg2670.set (u0.length : Int).toNat (wu32 x6)))))))))))))))

def gmul_vc (u0 : List Int) (u1 : List Int) (K : (List Int) → Prop) : Prop :=
  (u0.length ≤ 140737488355328 →
    (u1.length ≤ 140737488355328 →
    (((((u0.length : Int) == 0) || ((u1.length : Int) == 0)) = true →
      (K [])) ∧
    ((((u0.length : Int) == 0) || ((u1.length : Int) == 0)) = false →
      ((0 ≤ (w64 ((u0.length : Int) + (u1.length : Int))) ∧ (w64 ((u0.length : Int) + (u1.length : Int))) ≤ (w64 ((u0.length : Int) + (u1.length : Int))) ∧ (w64 ((u0.length : Int) + (u1.length : Int))) * 4 ≤ 140737488355328) ∧
      (∃ inv61 : Int → (List Int) → Prop, ∃ mu61 : Int → (List Int) → Nat, inv61 0 (List.replicate (w64 ((u0.length : Int) + (u1.length : Int))).toNat (0 : Int)) ∧
      (∀ (x6 : Int) (zg490 : List Int), inv61 x6 zg490 →
      (((decide (x6 < (u0.length : Int))) = true →
        (∃ inv92 : Int → Int → (List Int) → Prop, ∃ mu92 : Int → Int → (List Int) → Nat, inv92 0 0 zg490 ∧
        (∀ (x7 : Int) (x8 : Int) (zg490v : List Int), inv92 x7 x8 zg490v →
        (((decide (x8 < (u1.length : Int))) = true →
          ((0 ≤ x6 ∧ x6 < (u0.length : Int)) ∧
          (∀ q145, u0[x6.toNat]? = some q145 →
          ((0 ≤ x8 ∧ x8 < (u1.length : Int)) ∧
          (∀ q163, u1[x8.toNat]? = some q163 →
          ((0 ≤ w64 (x6 + x8) ∧ w64 (x6 + x8) < (zg490v.length : Int)) ∧
          (∀ q183, zg490v[(w64 (x6 + x8)).toNat]? = some q183 →
          ((0 ≤ w64 (x6 + x8) ∧ w64 (x6 + x8) < (zg490v.length : Int)) ∧
          (inv92 (bShr .u64 (wu64 (x7 + (wu64 ((wu64 ((wu64 q145) * (wu64 q163))) + (wu64 q183))))) 32) (w64 (x8 + 1)) (zg490v.set (w64 (x6 + x8)).toNat (wu32 (wu64 (x7 + (wu64 ((wu64 ((wu64 q145) * (wu64 q163))) + (wu64 q183))))))) ∧ mu92 (bShr .u64 (wu64 (x7 + (wu64 ((wu64 ((wu64 q145) * (wu64 q163))) + (wu64 q183))))) 32) (w64 (x8 + 1)) (zg490v.set (w64 (x6 + x8)).toNat (wu32 (wu64 (x7 + (wu64 ((wu64 ((wu64 q145) * (wu64 q163))) + (wu64 q183))))))) < mu92 x7 x8 zg490v))))))))) ∧
        ((decide (x8 < (u1.length : Int))) = false →
          ((0 ≤ w64 (x6 + (u1.length : Int)) ∧ w64 (x6 + (u1.length : Int)) < (zg490v.length : Int)) ∧
          (inv61 (w64 (x6 + 1)) (zg490v.set (w64 (x6 + (u1.length : Int))).toNat (wu32 x7)) ∧ mu61 (w64 (x6 + 1)) (zg490v.set (w64 (x6 + (u1.length : Int))).toNat (wu32 x7)) < mu61 x6 zg490))))))) ∧
      ((decide (x6 < (u0.length : Int))) = false →
        ((gtrimS zg490).length ≤ 140737488355328 →
        (K (gtrimS zg490))))))))))))

def gsmall_vc (u0 : List Int) (u1 : Int) (K : ((List Int) × Int) → Prop) : Prop :=
  (u0.length ≤ 140737488355328 →
    ((0 ≤ (u0.length : Int) ∧ (u0.length : Int) ≤ (u0.length : Int) ∧ (u0.length : Int) * 4 ≤ 140737488355328) ∧
    (∃ inv38 : Int → Int → (List Int) → Prop, ∃ mu38 : Int → Int → (List Int) → Nat, inv38 0 (w64 ((u0.length : Int) - 1)) (List.replicate (u0.length : Int).toNat (0 : Int)) ∧
    (∀ (x7 : Int) (x8 : Int) (zg170 : List Int), inv38 x7 x8 zg170 →
    (((decide (x8 ≥ 0)) = true →
      ((0 ≤ x8 ∧ x8 < (u0.length : Int)) ∧
      (∀ q72, u0[x8.toNat]? = some q72 →
      ((wu64 u1 ≠ 0) ∧
      ((0 ≤ x8 ∧ x8 < (zg170.length : Int)) ∧
      ((wu64 u1 ≠ 0) ∧
      (inv38 ((bOr .u64 (bShl .u64 x7 32) (wu64 q72)).tmod (wu64 u1)) (w64 (x8 - 1)) (zg170.set x8.toNat (wu32 (wu64 ((bOr .u64 (bShl .u64 x7 32) (wu64 q72)).tdiv (wu64 u1))))) ∧ mu38 ((bOr .u64 (bShl .u64 x7 32) (wu64 q72)).tmod (wu64 u1)) (w64 (x8 - 1)) (zg170.set x8.toNat (wu32 (wu64 ((bOr .u64 (bShl .u64 x7 32) (wu64 q72)).tdiv (wu64 u1))))) < mu38 x7 x8 zg170))))))) ∧
    ((decide (x8 ≥ 0)) = false →
      ((gtrimS zg170).length ≤ 140737488355328 →
      (K ((gtrimS zg170), wu32 x7)))))))))

def ggive_vc (u0 : BInt) (u1 : Bool) (u2 : List Int) (K : BInt → Prop) : Prop :=
  (u0.abs.length ≤ 140737488355328 →
    (u2.length ≤ 140737488355328 →
    (K (⟨u1 && (decide ((u2.length : Int) > 0)), u2⟩ : BInt))))
def ggive (u0 : BInt) (u1 : Bool) (u2 : List Int) : BInt :=
  (⟨u1 && (decide ((u2.length : Int) > 0)), u2⟩ : BInt)
theorem ggive_ok (u0 : BInt) (u1 : Bool) (u2 : List Int) : ggive_vc u0 u1 u2 (fun r => r = ggive u0 u1 u2) := (fun _ => (fun _ => (by rfl)))

def guint64_vc (u0 : BInt) (K : (Int × BInt) → Prop) : Prop :=
  (u0.abs.length ≤ 140737488355328 →
    (((decide ((u0.abs.length : Int) > 0)) = true →
      ((0 ≤ (0 : Int) ∧ (0 : Int) < (u0.abs.length : Int)) ∧
      (∀ q41, u0.abs[(0 : Int).toNat]? = some q41 →
      (((decide ((u0.abs.length : Int) > 1)) = true →
        ((0 ≤ (1 : Int) ∧ (1 : Int) < (u0.abs.length : Int)) ∧
        (∀ q85, u0.abs[(1 : Int).toNat]? = some q85 →
        (K (bOr .u64 (wu64 q41) (bShl .u64 (wu64 q85) 32), u0))))) ∧
      ((decide ((u0.abs.length : Int) > 1)) = false →
        (K (wu64 q41, u0))))))) ∧
    ((decide ((u0.abs.length : Int) > 0)) = false →
      (((decide ((u0.abs.length : Int) > 1)) = true →
        ((0 ≤ (1 : Int) ∧ (1 : Int) < (u0.abs.length : Int)) ∧
        (∀ q145, u0.abs[(1 : Int).toNat]? = some q145 →
        (K (bOr .u64 0 (bShl .u64 (wu64 q145) 32), u0))))) ∧
      ((decide ((u0.abs.length : Int) > 1)) = false →
        (K (0, u0)))))))

def gbit_vc (u0 : List Int) (u1 : Int) (K : Int → Prop) : Prop :=
  (u0.length ≤ 140737488355328 →
    ((((decide (u1 < 0)) || (decide ((w64 (u1.tdiv 32)) ≥ (u0.length : Int)))) = true →
      (K 0)) ∧
    (((decide (u1 < 0)) || (decide ((w64 (u1.tdiv 32)) ≥ (u0.length : Int)))) = false →
      ((0 ≤ w64 (u1.tdiv 32) ∧ w64 (u1.tdiv 32) < (u0.length : Int)) ∧
      (∀ q46, u0[(w64 (u1.tdiv 32)).toNat]? = some q46 →
      ((0 ≤ (wu64 u1).tmod 32) ∧
      (K (bAnd .u64 (wu64 (bShr .u32 q46 ((wu64 u1).tmod 32))) 1))))))))

/-! Pure proofs: no program in sight. -/
theorem shr32 (n : Nat) : bShr .u64 (n : Int) 32 = ((n / 2 ^ 32 : Nat) : Int) := shru n 32 (by omega) .u64 (by decide)
theorem take_set_self {α : Type} (l : List α) (k : Nat) (x : α) : (l.set k x).take k = l.take k := by
  apply List.ext_getElem?
  intro j
  rw [List.getElem?_take, List.getElem?_take]
  split
  · rw [List.getElem?_set_ne (by omega)]
  · rfl
theorem wv_take_set {l : List Int} {k d : Nat} (h : k < l.length) : wv ((l.set k (d : Int)).take (k + 1)) = wv (l.take k) + 4294967296 ^ k * d := by
  have h1 : (l.set k (d : Int))[k]? = some (d : Int) := by rw [List.getElem?_set_self (by omega)]
  rw [wv_next h1, take_set_self]
theorem bor64 (x y : Nat) (hx : x < 18446744073709551616) (hy : y < 18446744073709551616) : bOr .u64 (x : Int) (y : Int) = ((x ||| y : Nat) : Int) := by
  have e : (BitVec.ofInt IntKind.u64.bits (x : Int) ||| BitVec.ofInt IntKind.u64.bits (y : Int)).toNat = x ||| y := by
    rw [BitVec.toNat_or]
    show (BitVec.ofInt 64 (x : Int)).toNat ||| (BitVec.ofInt 64 (y : Int)).toNat = _
    rw [ofInt_toNat x hx, ofInt_toNat y hy]
  unfold bOr
  rw [e]
  have := Nat.or_lt_two_pow (x := x) (y := y) (n := 64) hx hy
  exact wu64_eq _ (by omega)
theorem wu32_eq (n : Nat) (h : n < 4294967296) : wu32 (n : Int) = (n : Int) := by rw [wu32_nat, Nat.mod_eq_of_lt h]
theorem shlu (n s : Nat) (hs : s ≤ 64) (h : n * 2 ^ s < 18446744073709551616) : bShl .u64 (n : Int) (s : Int) = ((n * 2 ^ s : Nat) : Int) := by
  unfold bShl
  have e : min (s : Int).toNat IntKind.u64.bits = s := by rw [Int.toNat_natCast]; exact Nat.min_eq_left hs
  rw [e]
  have e2 : (n : Int) * 2 ^ s = ((n * 2 ^ s : Nat) : Int) := by norm_cast
  rw [e2]
  exact wu64_eq _ (by omega)
def gtwinS (l : List Int) : List Int := l
theorem gtwin_ok (l : List Int) (h : l.length ≤ 1000000) : gtwin_vc l (fun r => r = gtwinS l) := fun _ => ⟨by simp; omega, rfl⟩
def gwordsS (x : Int) : List Int := ws x.toNat
theorem gwords_ok (x : Int) (h : 0 ≤ x ∧ x ≤ 18446744073709551615) : gwords_vc x (fun r => r = gwordsS x) := by
  intro _
  obtain ⟨n, rfl⟩ : ∃ n : Nat, x = n := ⟨x.toNat, by omega⟩
  have e : bShr .u64 (n : Int) 32 = ((n / 2 ^ 32 : Nat) : Int) := shru n 32 (by omega) .u64 (by decide)
  rw [e, wu32_nat, wu32_nat]
  have hw : wok [((n % 4294967296 : Nat) : Int), ((n / 2 ^ 32 % 4294967296 : Nat) : Int)] := by
    intro y hy
    rcases List.mem_cons.1 hy with rfl | hy
    · omega
    · rw [List.mem_singleton.1 hy]; omega
  rw [gtrim_ws hw]
  unfold gwordsS
  congr 1
  simp only [wv, Int.toNat_natCast]
  omega
def gaddS (a b : List Int) : List Int := ws (wv a + wv b)
theorem gadd_loop (a b : List Int) (hab : b.length ≤ a.length) (ha : wok a) (hb : wok b) (hl : a.length ≤ 1000000) {Q : List Int → Prop} (hQ : ∀ l, l = ws (wv a + wv b) → Q l) :
      ((0 ≤ (w64 ((a.length : Int) + 1)) ∧ (w64 ((a.length : Int) + 1)) ≤ (w64 ((a.length : Int) + 1)) ∧ (w64 ((a.length : Int) + 1)) * 4 ≤ 140737488355328) ∧
      (∃ inv59 : Int → Int → (List Int) → Prop, ∃ mu59 : Int → Int → (List Int) → Nat, inv59 0 0 (List.replicate (w64 ((a.length : Int) + 1)).toNat (0 : Int)) ∧
      (∀ (x6 : Int) (x7 : Int) (zg430 : List Int), inv59 x6 x7 zg430 →
      (((decide (x7 < (a.length : Int))) = true →
        ((0 ≤ x7 ∧ x7 < (a.length : Int)) ∧
        (∀ q95, a[x7.toNat]? = some q95 →
        (((decide (x7 < (b.length : Int))) = true →
          ((0 ≤ x7 ∧ x7 < (b.length : Int)) ∧
          (∀ q134, b[x7.toNat]? = some q134 →
          ((0 ≤ x7 ∧ x7 < (zg430.length : Int)) ∧
          (inv59 (bShr .u64 (wu64 ((wu64 (x6 + (wu64 q95))) + (wu64 q134))) 32) (w64 (x7 + 1)) (zg430.set x7.toNat (wu32 (wu64 ((wu64 (x6 + (wu64 q95))) + (wu64 q134))))) ∧ mu59 (bShr .u64 (wu64 ((wu64 (x6 + (wu64 q95))) + (wu64 q134))) 32) (w64 (x7 + 1)) (zg430.set x7.toNat (wu32 (wu64 ((wu64 (x6 + (wu64 q95))) + (wu64 q134))))) < mu59 x6 x7 zg430))))) ∧
        ((decide (x7 < (b.length : Int))) = false →
          ((0 ≤ x7 ∧ x7 < (zg430.length : Int)) ∧
          (inv59 (bShr .u64 (wu64 (x6 + (wu64 q95))) 32) (w64 (x7 + 1)) (zg430.set x7.toNat (wu32 (wu64 (x6 + (wu64 q95))))) ∧ mu59 (bShr .u64 (wu64 (x6 + (wu64 q95))) 32) (w64 (x7 + 1)) (zg430.set x7.toNat (wu32 (wu64 (x6 + (wu64 q95))))) < mu59 x6 x7 zg430))))))) ∧
      ((decide (x7 < (a.length : Int))) = false →
        ((0 ≤ (a.length : Int) ∧ (a.length : Int) < (zg430.length : Int)) ∧
        ((gtrimS (zg430.set (a.length : Int).toNat (wu32 x6))).length ≤ 140737488355328 →
        (Q (gtrimS (zg430.set (a.length : Int).toNat (wu32 x6))))))))))) := by
  have e0 : w64 ((a.length : Int) + 1) = ((a.length + 1 : Nat) : Int) := w64_succ _ (by omega)
  rw [e0]
  refine ⟨by omega, fun c i z => ∃ (cn k : Nat), c = cn ∧ i = k ∧ k ≤ a.length ∧ cn ≤ 1 ∧ z.length = a.length + 1 ∧ wok z ∧ wv (z.take k) + 4294967296 ^ k * cn = wv (a.take k) + wv (b.take k), fun _ i _ => a.length - i.toNat, ⟨0, 0, rfl, rfl, by omega, by omega, by simp, wok_rep _, by simp [wv]⟩, ?_⟩
  rintro _ _ z ⟨c, k, rfl, rfl, hk, hc, hz, hw, hv⟩
  have hmax : k < a.length → ∀ s : Nat, s ≤ 8589934591 → ∀ p n : Nat, s = c + n + p → a[k]? = some (n : Int) → wv (b.take (k + 1)) = wv (b.take k) + 4294967296 ^ k * p →
      (∃ (cn j : Nat), bShr .u64 (s : Int) 32 = cn ∧ w64 ((k : Int) + 1) = j ∧ j ≤ a.length ∧ cn ≤ 1 ∧ (z.set k (wu32 (s : Int))).length = a.length + 1 ∧ wok (z.set k (wu32 (s : Int))) ∧ wv ((z.set k (wu32 (s : Int))).take j) + 4294967296 ^ j * cn = wv (a.take j) + wv (b.take j)) ∧ a.length - (w64 ((k : Int) + 1)).toNat < a.length - k := by
    intro hka s hs p n hsum hn hp
    rw [w64_succ k (by omega), wu32_nat, shr32 s]
    refine ⟨⟨s / 2 ^ 32, k + 1, rfl, rfl, by omega, by omega, by rw [List.length_set]; exact hz, wok_set hw _ _ (Nat.mod_lt _ (by decide)), ?_⟩, by rw [Int.toNat_natCast]; omega⟩
    rw [wv_take_set (by omega), wv_next hn, hp, Nat.pow_succ]
    have h1 : 4294967296 ^ k * s = 4294967296 ^ k * (s % 4294967296) + 4294967296 ^ k * 4294967296 * (s / 2 ^ 32) := by
      rw [Nat.mul_assoc, ← Nat.mul_add]
      congr 1
      omega
    have h2 : 4294967296 ^ k * s = 4294967296 ^ k * c + 4294967296 ^ k * n + 4294967296 ^ k * p := by rw [hsum, Nat.mul_add, Nat.mul_add]
    generalize 4294967296 ^ k * s = A1 at *
    omega
  refine ⟨fun h1 => ?_, fun h1 => ?_⟩
  · have hka : k < a.length := by have := of_decide_eq_true h1; omega
    refine ⟨by omega, fun q hq => ?_⟩
    rw [Int.toNat_natCast] at hq
    obtain ⟨n, rfl, hn⟩ := wok_at ha hq
    rw [wu64_eq (n : Int) (by omega), wu64_eq ((c : Int) + n) (by omega)]
    refine ⟨fun h2 => ⟨by have := of_decide_eq_true h2; omega, fun p hp => ⟨by omega, ?_⟩⟩, fun h2 => ⟨by omega, ?_⟩⟩
    · rw [Int.toNat_natCast] at hp ⊢
      obtain ⟨m, rfl, hm⟩ := wok_at hb hp
      rw [wu64_eq (m : Int) (by omega), wu64_eq ((c : Int) + n + m) (by omega)]
      exact hmax hka (c + n + m) (by omega) m n rfl hq (wv_next hp)
    · rw [Int.toNat_natCast]
      have hkb : b.length ≤ k := by have := of_decide_eq_false h2; omega
      refine hmax hka (c + n) (by omega) 0 n rfl hq ?_
      have t1 : b.take (k + 1) = b := List.take_of_length_le (by omega)
      have t2 : b.take k = b := List.take_of_length_le hkb
      rw [t1, t2]
      rfl
  · have hka : k = a.length := by have := of_decide_eq_false h1; omega
    subst hka
    refine ⟨by omega, fun _ => hQ _ ?_⟩
    rw [Int.toNat_natCast, wu32_nat, gtrim_ws (wok_set hw _ _ (Nat.mod_lt _ (by decide)))]
    congr 1
    have h2 := wv_take_set (l := z) (k := a.length) (d := c % 4294967296) (by omega)
    have t1 : (z.set a.length ((c % 4294967296 : Nat) : Int)).take (a.length + 1) = z.set a.length ((c % 4294967296 : Nat) : Int) := List.take_of_length_le (by rw [List.length_set]; omega)
    have t2 : b.take a.length = b := List.take_of_length_le hab
    rw [t1] at h2
    rw [List.take_length, t2] at hv
    rw [h2, Nat.mod_eq_of_lt (by omega)]
    exact hv
theorem gadd_ok (a b : List Int) (h : wok a ∧ wok b ∧ a.length ≤ 1000000 ∧ b.length ≤ 1000000) : gadd_vc a b (fun r => r = gaddS a b) := by
  obtain ⟨ha, hb, la, lb⟩ := h
  intro _ _
  refine ⟨fun h1 => ?_, fun h1 => ?_⟩
  · exact gadd_loop (Q := fun r => r = gaddS a b) b a (by have := of_decide_eq_true h1; omega) hb ha lb fun l h => by
      show l = ws (wv a + wv b)
      rw [h, Nat.add_comm]
  · exact gadd_loop (Q := fun r => r = gaddS a b) a b (by have := of_decide_eq_false h1; omega) ha hb la fun l h => h
def gmulS (a b : List Int) : List Int := ws (wv a * wv b)
theorem mul_lt32 {n p : Nat} (hn : n < 4294967296) (hp : p < 4294967296) : n * p ≤ 18446744065119617025 :=
  Nat.mul_le_mul (Nat.le_of_lt_succ hn) (Nat.le_of_lt_succ hp)
theorem gmul_okB (a b : List Int) (h : wok a ∧ wok b ∧ a.length ≤ 100000 ∧ b.length ≤ 1000) : gmul_vc a b (fun r => r = gmulS a b) := by
  obtain ⟨ha, hb, la, lb⟩ := h
  intro _ _
  refine ⟨fun h1 => ?_, fun h1 => ?_⟩
  · have : a = [] ∨ b = [] := by
      rcases (show ((a.length : Int) == 0) = true ∨ ((b.length : Int) == 0) = true by simpa only [Bool.or_eq_true] using h1) with h1 | h1
      · have h2 : (a.length : Int) = 0 := by simpa only [beq_iff_eq] using h1
        exact .inl (List.eq_nil_of_length_eq_zero (by omega))
      · have h2 : (b.length : Int) = 0 := by simpa only [beq_iff_eq] using h1
        exact .inr (List.eq_nil_of_length_eq_zero (by omega))
    unfold gmulS
    rcases this with rfl | rfl
    · rw [wv, Nat.zero_mul, ws_zero]
    · rw [wv, Nat.mul_zero, ws_zero]
  · have e0 : w64 ((a.length : Int) + (b.length : Int)) = ((a.length + b.length : Nat) : Int) := by rw [w64_eq _ (by omega)]; rfl
    rw [e0]
    refine ⟨by omega, fun i z => ∃ k : Nat, i = k ∧ k ≤ a.length ∧ z.length = a.length + b.length ∧ wok z ∧ wv z = wv (a.take k) * wv b ∧ ∀ j, k + b.length ≤ j → j < a.length + b.length → z[j]? = some 0, fun i _ => a.length - i.toNat, ⟨0, rfl, by omega, by rw [List.length_replicate, Int.toNat_natCast], wok_rep _, by rw [wv_rep]; simp [wv], fun j _ hj => by rw [Int.toNat_natCast, List.getElem?_replicate, if_pos hj]⟩, ?_⟩
    rintro _ z ⟨k, rfl, hk, hz, hw, hv, h0⟩
    refine ⟨fun h2 => ?_, fun h2 => ?_⟩
    · have hka : k < a.length := by have := of_decide_eq_true h2; omega
      obtain ⟨x, hx⟩ : ∃ x, a[k]? = some x := ⟨_, List.getElem?_eq_getElem hka⟩
      obtain ⟨n, rfl, hn⟩ := wok_at ha hx
      refine ⟨fun c j y => ∃ (cn m : Nat), c = cn ∧ j = m ∧ m ≤ b.length ∧ cn < 4294967296 ∧ y.length = a.length + b.length ∧ wok y ∧ wv y + 4294967296 ^ (k + m) * cn = wv z + 4294967296 ^ k * (n * wv (b.take m)) ∧ ∀ i, k + b.length ≤ i → i < a.length + b.length → y[i]? = some 0, fun _ j _ => b.length - j.toNat, ⟨0, 0, rfl, rfl, by omega, by omega, hz, hw, by simp [wv], h0⟩, ?_⟩
      rintro _ _ y ⟨c, m, rfl, rfl, hm, hc, hy, hwy, hvy, h0y⟩
      refine ⟨fun h3 => ?_, fun h3 => ?_⟩
      · have hmb : m < b.length := by have := of_decide_eq_true h3; omega
        have e1 : w64 ((k : Int) + (m : Int)) = ((k + m : Nat) : Int) := by rw [w64_eq _ (by omega)]; rfl
        rw [e1]
        refine ⟨by omega, fun q hq => ⟨by omega, fun p hp => ⟨by omega, fun t ht => ⟨by omega, ?_⟩⟩⟩⟩
        rw [Int.toNat_natCast] at hq hp ht ⊢
        rw [hx] at hq
        cases hq
        obtain ⟨p, rfl, hpp⟩ := wok_at hb hp
        obtain ⟨t, rfl, htt⟩ := wok_at hwy ht
        have hnp := mul_lt32 hn hpp
        have e2 : (n : Int) * (p : Int) = ((n * p : Nat) : Int) := by norm_cast
        rw [wu64_eq (n : Int) (by omega), wu64_eq (p : Int) (by omega), wu64_eq (t : Int) (by omega), e2]
        have hvb := wv_next hp
        generalize hs : n * p = np at *
        rw [wu64_eq (np : Int) (by omega), wu64_eq ((np : Int) + t) (by omega), wu64_eq ((c : Int) + ((np : Int) + t)) (by omega)]
        have e3 : ((c : Int) + ((np : Int) + t)) = ((c + (np + t) : Nat) : Int) := by norm_cast
        rw [e3, w64_succ m (by omega), wu32_nat, shr32]
        have hset := wv_set y (k + m) t ((c + (np + t)) % 4294967296) ht
        refine ⟨⟨(c + (np + t)) / 2 ^ 32, m + 1, rfl, rfl, by omega, by omega, by rw [List.length_set]; exact hy, wok_set hwy _ _ (Nat.mod_lt _ (by decide)), ?_, fun i hi1 hi2 => ?_⟩, by (try dsimp only); omega⟩
        · rw [hvb, Nat.mul_add, Nat.mul_add, ← Nat.add_assoc k m 1, Nat.pow_succ]
          have h4 : 4294967296 ^ k * (n * (4294967296 ^ m * p)) = 4294967296 ^ (k + m) * np := by
            rw [Nat.pow_add, Nat.mul_left_comm n, hs, Nat.mul_assoc]
          rw [h4]
          have h5 : 4294967296 ^ (k + m) * (c + (np + t)) = 4294967296 ^ (k + m) * ((c + (np + t)) % 4294967296) + 4294967296 ^ (k + m) * 4294967296 * ((c + (np + t)) / 2 ^ 32) := by
            rw [Nat.mul_assoc, ← Nat.mul_add]
            congr 1
            omega
          rw [Nat.mul_add, Nat.mul_add] at h5
          generalize 4294967296 ^ (k + m) * np = A1 at *
          generalize 4294967296 ^ (k + m) * t = A2 at *
          generalize 4294967296 ^ (k + m) * c = A3 at *
          generalize 4294967296 ^ (k + m) * ((c + (np + t)) % 4294967296) = A4 at *
          generalize 4294967296 ^ (k + m) * 4294967296 * ((c + (np + t)) / 2 ^ 32) = A5 at *
          generalize 4294967296 ^ k * (n * wv (b.take m)) = A6 at *
          omega
        · rw [List.getElem?_set_ne (by omega)]
          exact h0y i hi1 hi2
      · have hmb : m = b.length := by have := of_decide_eq_false h3; omega
        subst hmb
        have e1 : w64 ((k : Int) + (b.length : Int)) = ((k + b.length : Nat) : Int) := by rw [w64_eq _ (by omega)]; rfl
        have hz0 : y[k + b.length]? = some ((0 : Nat) : Int) := h0y (k + b.length) (by omega) (by omega)
        rw [e1]
        refine ⟨by omega, ?_⟩
        rw [Int.toNat_natCast, w64_succ k (by omega), wu32_eq c hc]
        have hset := wv_set y (k + b.length) 0 c hz0
        rw [Nat.mul_zero, Nat.add_zero] at hset
        refine ⟨⟨k + 1, rfl, by omega, by rw [List.length_set]; exact hy, wok_set hwy _ _ hc, ?_, fun j hj1 hj2 => ?_⟩, by (try dsimp only); omega⟩
        · rw [hset, hvy, List.take_length, wv_next hx, hv, Nat.add_mul, Nat.mul_assoc]
        · rw [List.getElem?_set_ne (by omega)]
          exact h0y j (by omega) hj2
    · have hka : k = a.length := by have := of_decide_eq_false h2; omega
      subst hka
      intro _
      rw [gtrim_ws hw, hv, List.take_length]
      rfl
theorem or_add {t lo r m : Nat} (ht : t < 2 ^ r) (hlo : lo = m * 2 ^ r) : t ||| lo = t + lo := by
  have := Nat.shiftLeft_add_eq_or_of_lt (i := r) (b := t) ht m
  rw [Nat.shiftLeft_eq, ← hlo] at this
  rw [Nat.or_comm, ← this, Nat.add_comm]
def guint64S (x : BInt) : Int × BInt := (((wv x.abs % 18446744073709551616 : Nat) : Int), x)
theorem guint64_ok (x : BInt) (h : wok x.abs) : guint64_vc x (fun r => r = guint64S x) := by
  intro _
  unfold guint64S
  have key : ∀ n m : Nat, n < 4294967296 → m < 4294967296 → bOr .u64 (n : Int) (bShl .u64 (m : Int) 32) = ((n + 4294967296 * m : Nat) : Int) := by
    intro n m hn hm
    have e1 : bShl .u64 (m : Int) 32 = ((m * 2 ^ 32 : Nat) : Int) := shlu m 32 (by omega) (by omega)
    rw [e1, bor64 n _ (by omega) (by omega), or_add (r := 32) hn rfl]
    congr 1
    omega
  obtain ⟨neg, l⟩ := x
  cases l with
  | nil => exact ⟨fun h1 => (by cases h1), fun _ => ⟨fun h1 => (by cases h1), fun _ => rfl⟩⟩
  | cons a l =>
    obtain ⟨h1, h2⟩ := wok_cons h
    obtain ⟨a, rfl⟩ : ∃ n : Nat, a = n := ⟨a.toNat, by omega⟩
    refine ⟨fun _ => ⟨by (simp <;> omega), fun q hq => ?_⟩, fun h3 => ?_⟩
    · cases hq
      rw [wu64_eq (a : Int) (by omega)]
      cases l with
      | nil => exact ⟨fun h3 => absurd h3 (by simp), fun _ => by simp only [wv, Int.toNat_natCast, Nat.mul_zero, Nat.add_zero]; rw [Nat.mod_eq_of_lt (by omega)]⟩
      | cons b l =>
        obtain ⟨h3, h4⟩ := wok_cons h2
        obtain ⟨b, rfl⟩ : ∃ n : Nat, b = n := ⟨b.toNat, by omega⟩
        refine ⟨fun _ => ⟨by (simp <;> omega), fun p hp => ?_⟩, fun h5 => absurd (of_decide_eq_false h5) (by simp <;> omega)⟩
        cases hp
        rw [wu64_eq (b : Int) (by omega), key a b (by omega) (by omega)]
        simp only [wv, Int.toNat_natCast]
        congr 2
        omega
    · exact absurd (of_decide_eq_false h3) (by simp <;> omega)
/-! Division by one digit; one bit. -/
theorem drop_set_self {α : Type} : ∀ (l : List α) (k : Nat) (x : α), k < l.length → (l.set k x).drop k = x :: l.drop (k + 1)
  | [], _, _, h => absurd h (by simp)
  | _ :: _, 0, _, _ => rfl
  | _ :: r, k + 1, x, h => by simpa using drop_set_self r k x (by simpa using h)
theorem drop_at {α : Type} {l : List α} {k : Nat} {q : α} (h : l[k]? = some q) : l.drop k = q :: l.drop (k + 1) := by
  obtain ⟨hk, rfl⟩ := List.getElem?_eq_some_iff.1 h
  exact List.drop_eq_getElem_cons hk
def gsmallS (l : List Int) (d : Int) : List Int × Int := (ws (wv l / d.toNat), ((wv l % d.toNat : Nat) : Int))
theorem gsmall_ok (l : List Int) (d : Int) (h : wok l ∧ l.length ≤ 100000 ∧ d = 10) : gsmall_vc l d (fun r => r = gsmallS l d) := by
  obtain ⟨hw, hl, rfl⟩ := h
  intro _
  have e10 : wu64 10 = 10 := rfl
  refine ⟨by omega, fun r i z => ∃ k rn : Nat, i = (k : Int) - 1 ∧ r = rn ∧ rn < 10 ∧ k ≤ l.length ∧ z.length = l.length ∧ wok z ∧ wv (l.drop k) = 10 * wv (z.drop k) + rn, fun _ i _ => (i + 1).toNat,
    ⟨l.length, 0, by rw [w64_eq _ (by omega)], rfl, by omega, Nat.le_refl _, by simp, wok_rep _, by simp [wv]⟩, ?_⟩
  rintro _ _ z ⟨k, rn, rfl, rfl, hr, hk, hz, hwz, hv⟩
  refine ⟨fun h1 => ?_, fun h1 => ?_⟩
  · have hk0 : 0 < k := by have := of_decide_eq_true h1; omega
    have ek : ((k : Int) - 1).toNat = k - 1 := by omega
    rw [ek]
    refine ⟨by omega, fun q hq => ⟨by rw [e10]; decide, by omega, by rw [e10]; decide, ?_⟩⟩
    obtain ⟨n, rfl, hn⟩ := wok_at hw hq
    have hd := drop_at hq
    rw [show k - 1 + 1 = k by omega] at hd
    have e1 : bShl .u64 (rn : Int) 32 = ((rn * 2 ^ 32 : Nat) : Int) := shlu rn 32 (by omega) (by omega)
    have e2 : bOr .u64 ((rn * 2 ^ 32 : Nat) : Int) (n : Int) = ((rn * 2 ^ 32 + n : Nat) : Int) := by
      rw [bor64 _ _ (by omega) (by omega), Nat.or_comm, or_add (r := 32) hn rfl, Nat.add_comm]
    rw [e1, wu64_eq (n : Int) (by omega), e2, e10]
    have ht2 : rn * 2 ^ 32 + n < 10 * 4294967296 := by omega
    have hv2 : 4294967296 * rn + n = rn * 2 ^ 32 + n := by omega
    generalize rn * 2 ^ 32 + n = t at *
    have e3 : ((t : Nat) : Int).tmod 10 = ((t % 10 : Nat) : Int) := rfl
    have e4 : ((t : Nat) : Int).tdiv 10 = ((t / 10 : Nat) : Int) := rfl
    rw [e3, e4, wu64_eq ((t / 10 : Nat) : Int) (by omega), wu32_eq (t / 10) (by omega), w64_eq ((k : Int) - 1 - 1) (by omega)]
    refine ⟨⟨k - 1, t % 10, by omega, rfl, by omega, by omega, by rw [List.length_set]; exact hz, wok_set hwz _ _ (by omega), ?_⟩, by (try dsimp only); omega⟩
    rw [hd, drop_set_self _ _ _ (by omega), show k - 1 + 1 = k by omega, wv, wv, hv, Int.toNat_natCast, Int.toNat_natCast]
    omega
  · have : k = 0 := by have := of_decide_eq_false h1; omega
    subst this
    intro _
    rw [gtrim_ws hwz]
    rw [List.drop_zero, List.drop_zero] at hv
    unfold gsmallS
    have a0 : (10 : Int).toNat = 10 := rfl
    have a1 : wv l / 10 = wv z := by omega
    have a2 : wv l % 10 = rn := by omega
    rw [a0, a1, a2, wu32_eq rn (by omega)]
theorem wv_bit : ∀ {l : List Int}, wok l → ∀ {j q b : Nat}, l[j]? = some (q : Int) → b < 32 → (wv l).testBit (32 * j + b) = q.testBit b
  | [], _, _, _, _, h, _ => by simp at h
  | x :: r, hw, 0, q, b, h, hb => by
    obtain ⟨h1, h2⟩ := wok_cons hw
    simp only [List.getElem?_cons_zero, Option.some.injEq] at h
    subst h
    rw [wv, Int.toNat_natCast, show 32 * 0 + b = b by omega, Nat.add_comm, show (4294967296 : Nat) = 2 ^ 32 from rfl, Nat.testBit_two_pow_mul_add _ (by omega), if_pos hb]
  | x :: r, hw, j + 1, q, b, h, hb => by
    obtain ⟨h1, h2⟩ := wok_cons hw
    rw [List.getElem?_cons_succ] at h
    have ih := wv_bit h2 h hb
    rw [wv, Nat.add_comm, show (4294967296 : Nat) = 2 ^ 32 from rfl, Nat.testBit_two_pow_mul_add _ (by omega), if_neg (by omega), show 32 * (j + 1) + b - 32 = 32 * j + b by omega, ih]
def gbitS (l : List Int) (i : Int) : Int := if (wv l).testBit i.toNat then 1 else 0
theorem gbit_ok (l : List Int) (i : Int) (h : wok l ∧ 0 ≤ i ∧ i ≤ 1000000) : gbit_vc l i (fun r => r = gbitS l i) := by
  obtain ⟨hw, h0, h1⟩ := h
  obtain ⟨m, rfl⟩ := Int.eq_ofNat_of_zero_le h0
  intro _
  have e1 : ((m : Nat) : Int).tdiv 32 = ((m / 32 : Nat) : Int) := rfl
  have e2 : ((m : Nat) : Int).tmod 32 = ((m % 32 : Nat) : Int) := rfl
  rw [e1, w64_eq ((m / 32 : Nat) : Int) (by omega), wu64_eq (m : Int) (by omega), e2, Int.toNat_natCast]
  unfold gbitS
  rw [Int.toNat_natCast]
  refine ⟨fun h2 => ?_, fun h2 => ?_⟩
  · have h2 : l.length ≤ m / 32 := by simp only [Bool.or_eq_true, decide_eq_true_eq] at h2; omega
    rw [Nat.testBit_lt_two_pow, if_neg (by decide)]
    have h3 := wv_lt hw
    rw [show (4294967296 : Nat) = 2 ^ 32 from rfl, ← Nat.pow_mul] at h3
    exact Nat.lt_of_lt_of_le h3 (Nat.pow_le_pow_right (by decide) (by omega))
  · have h2 : m / 32 < l.length := by simp only [Bool.or_eq_false_iff, decide_eq_false_iff_not] at h2; omega
    refine ⟨by omega, fun q hq => ⟨by omega, ?_⟩⟩
    obtain ⟨n, rfl, hn⟩ := wok_at hw hq
    have hb := wv_bit hw hq (Nat.mod_lt m (by decide : 32 > 0))
    rw [show 32 * (m / 32) + m % 32 = m by omega] at hb
    have hs : n / 2 ^ (m % 32) ≤ n := Nat.div_le_self _ _
    rw [shru n (m % 32) (by omega) .u32 (by show _ ≤ 32; omega), hb, Nat.testBit_eq_decide_div_mod_eq]
    generalize n / 2 ^ (m % 32) = t at *
    rw [wu64_eq (t : Int) (by omega), and1 _ (by omega)]
    by_cases h3 : t % 2 = 1
    · rw [h3]; simp
    · have h4 : t % 2 = 0 := by omega
      rw [h4]; simp

end Go.Proofs.YtdenmllkjdijlaaGreatDoor
set_option linter.unusedVariables false
set_option linter.unusedSimpArgs false
namespace Go.Proofs.YtdenmllkjdijlaaGreatDoor
open Go.Sy Go.RowKit
def gint64_vc (u0 : BInt) (K : (Int × BInt) → Prop) : Prop :=
  (u0.abs.length ≤ 140737488355328 →
    ((wok u0.abs) ∧
    (∀ r18, (guint64S u0) = r18 →
    (r18.2.abs.length ≤ 140737488355328 →
    ((r18.2.neg = true →
      (K (w64 (0 - (w64 r18.1)), r18.2))) ∧
    (r18.2.neg = false →
      (K (w64 r18.1, r18.2))))))))

def gtz_vc (u0 : BInt) (K : (Int × BInt) → Prop) : Prop :=
  (u0.abs.length ≤ 140737488355328 →
    ((((u0.abs.length : Int) == 0) = true →
      (K (0, u0))) ∧
    (((u0.abs.length : Int) == 0) = false →
      (∃ inv32 : Int → Prop, ∃ mu32 : Int → Nat, inv32 0 ∧
      (∀ (x3 : Int), inv32 x3 →
      ((wok u0.abs ∧ 0 ≤ (w64 x3) ∧ (w64 x3) ≤ 1000000) ∧
      ((((gbitS u0.abs (w64 x3)) == 0) = true →
        (inv32 (wu64 (x3 + 1)) ∧ mu32 (wu64 (x3 + 1)) < mu32 x3)) ∧
      (((gbitS u0.abs (w64 x3)) == 0) = false →
        (K (x3, u0))))))))))

def gsetstr_vc (u0 : BInt) (u1 : List UInt8) (K : (Bool × Bool × BInt) → Prop) : Prop :=
  (u0.abs.length ≤ 140737488355328 →
    (((decide ((u1.length : Int) > 0)) = true →
      ((0 ≤ (0 : Int) ∧ (0 : Int) < (u1.length : Int)) ∧
      (∀ c30, u1[(0 : Int).toNat]? = some c30 →
      ((((c30.toNat : Int) == 45) = true →
        ((0 ≤ (0 : Int) ∧ (0 : Int) < (u1.length : Int)) ∧
        (∀ c57, u1[(0 : Int).toNat]? = some c57 →
        ((0 ≤ (1 : Int) ∧ (1 : Int) ≤ (u1.length : Int)) ∧
        (((((((u1.drop (1 : Int).toNat).length : Int) == 0) || false) || false) = true →
          (K (false, false, u0))) ∧
        ((((((u1.drop (1 : Int).toNat).length : Int) == 0) || false) || false) = false →
          (∃ inv120 : (List Int) → Int → Prop, ∃ mu120 : (List Int) → Int → Nat, inv120 ([] : List Int) 0 ∧
          (∀ (x9 : List Int) (x10 : Int), inv120 x9 x10 →
          (((decide (x10 < ((u1.drop (1 : Int).toNat).length : Int))) = true →
            ((0 ≤ x10 ∧ x10 < ((u1.drop (1 : Int).toNat).length : Int)) ∧
            (∀ c155, (u1.drop (1 : Int).toNat)[x10.toNat]? = some c155 →
            ((((decide ((c155.toNat : Int) ≥ 48)) && (decide ((c155.toNat : Int) ≤ 57))) = true →
              (((decide ((w64 (w8 ((c155.toNat : Int) - 48))) ≥ 10)) = false) ∧
              ((0 ≤ (10 : Int) ∧ (10 : Int) ≤ 18446744073709551615) ∧
              ((gwordsS 10).length ≤ 140737488355328 →
              ((wok x9 ∧ wok (gwordsS 10) ∧ x9.length ≤ 100000 ∧ (gwordsS 10).length ≤ 1000) ∧
              ((gmulS x9 (gwordsS 10)).length ≤ 140737488355328 →
              ((0 ≤ (wu64 (w64 (w8 ((c155.toNat : Int) - 48)))) ∧ (wu64 (w64 (w8 ((c155.toNat : Int) - 48)))) ≤ 18446744073709551615) ∧
              ((gwordsS (wu64 (w64 (w8 ((c155.toNat : Int) - 48))))).length ≤ 140737488355328 →
              ((wok (gmulS x9 (gwordsS 10)) ∧ wok (gwordsS (wu64 (w64 (w8 ((c155.toNat : Int) - 48))))) ∧ (gmulS x9 (gwordsS 10)).length ≤ 1000000 ∧ (gwordsS (wu64 (w64 (w8 ((c155.toNat : Int) - 48))))).length ≤ 1000000) ∧
              ((gaddS (gmulS x9 (gwordsS 10)) (gwordsS (wu64 (w64 (w8 ((c155.toNat : Int) - 48)))))).length ≤ 140737488355328 →
              (inv120 (gaddS (gmulS x9 (gwordsS 10)) (gwordsS (wu64 (w64 (w8 ((c155.toNat : Int) - 48)))))) (w64 (x10 + 1)) ∧ mu120 (gaddS (gmulS x9 (gwordsS 10)) (gwordsS (wu64 (w64 (w8 ((c155.toNat : Int) - 48)))))) (w64 (x10 + 1)) < mu120 x9 x10))))))))))) ∧
            (((decide ((c155.toNat : Int) ≥ 48)) && (decide ((c155.toNat : Int) ≤ 57))) = false →
              ((((decide ((c155.toNat : Int) ≥ 97)) && (decide ((c155.toNat : Int) ≤ 122))) = true →
                (((decide ((w64 ((w64 (w8 ((c155.toNat : Int) - 97))) + 10)) ≥ 10)) = true) ∧
                (K (false, false, u0)))) ∧
              (((decide ((c155.toNat : Int) ≥ 97)) && (decide ((c155.toNat : Int) ≤ 122))) = false →
                ((((decide ((c155.toNat : Int) ≥ 65)) && (decide ((c155.toNat : Int) ≤ 90))) = true →
                  (((decide ((w64 ((w64 (w8 ((c155.toNat : Int) - 65))) + 10)) ≥ 10)) = true) ∧
                  (K (false, false, u0)))) ∧
                (((decide ((c155.toNat : Int) ≥ 65)) && (decide ((c155.toNat : Int) ≤ 90))) = false →
                  (K (false, false, u0))))))))))) ∧
          ((decide (x10 < ((u1.drop (1 : Int).toNat).length : Int))) = false →
            (∀ r386, (ggive u0 ((c57.toNat : Int) == 45) x9) = r386 →
            (r386.abs.length ≤ 140737488355328 →
            (K (true, true, r386)))))))))))))) ∧
      (((c30.toNat : Int) == 45) = false →
        ((0 ≤ (0 : Int) ∧ (0 : Int) < (u1.length : Int)) ∧
        (∀ c407, u1[(0 : Int).toNat]? = some c407 →
        ((((c407.toNat : Int) == 43) = true →
          ((0 ≤ (0 : Int) ∧ (0 : Int) < (u1.length : Int)) ∧
          (∀ c425, u1[(0 : Int).toNat]? = some c425 →
          ((0 ≤ (1 : Int) ∧ (1 : Int) ≤ (u1.length : Int)) ∧
          (((((((u1.drop (1 : Int).toNat).length : Int) == 0) || false) || false) = true →
            (K (false, false, u0))) ∧
          ((((((u1.drop (1 : Int).toNat).length : Int) == 0) || false) || false) = false →
            (∃ inv488 : (List Int) → Int → Prop, ∃ mu488 : (List Int) → Int → Nat, inv488 ([] : List Int) 0 ∧
            (∀ (x9 : List Int) (x10 : Int), inv488 x9 x10 →
            (((decide (x10 < ((u1.drop (1 : Int).toNat).length : Int))) = true →
              ((0 ≤ x10 ∧ x10 < ((u1.drop (1 : Int).toNat).length : Int)) ∧
              (∀ c523, (u1.drop (1 : Int).toNat)[x10.toNat]? = some c523 →
              ((((decide ((c523.toNat : Int) ≥ 48)) && (decide ((c523.toNat : Int) ≤ 57))) = true →
                (((decide ((w64 (w8 ((c523.toNat : Int) - 48))) ≥ 10)) = false) ∧
                ((0 ≤ (10 : Int) ∧ (10 : Int) ≤ 18446744073709551615) ∧
                ((gwordsS 10).length ≤ 140737488355328 →
                ((wok x9 ∧ wok (gwordsS 10) ∧ x9.length ≤ 100000 ∧ (gwordsS 10).length ≤ 1000) ∧
                ((gmulS x9 (gwordsS 10)).length ≤ 140737488355328 →
                ((0 ≤ (wu64 (w64 (w8 ((c523.toNat : Int) - 48)))) ∧ (wu64 (w64 (w8 ((c523.toNat : Int) - 48)))) ≤ 18446744073709551615) ∧
                ((gwordsS (wu64 (w64 (w8 ((c523.toNat : Int) - 48))))).length ≤ 140737488355328 →
                ((wok (gmulS x9 (gwordsS 10)) ∧ wok (gwordsS (wu64 (w64 (w8 ((c523.toNat : Int) - 48))))) ∧ (gmulS x9 (gwordsS 10)).length ≤ 1000000 ∧ (gwordsS (wu64 (w64 (w8 ((c523.toNat : Int) - 48))))).length ≤ 1000000) ∧
                ((gaddS (gmulS x9 (gwordsS 10)) (gwordsS (wu64 (w64 (w8 ((c523.toNat : Int) - 48)))))).length ≤ 140737488355328 →
                (inv488 (gaddS (gmulS x9 (gwordsS 10)) (gwordsS (wu64 (w64 (w8 ((c523.toNat : Int) - 48)))))) (w64 (x10 + 1)) ∧ mu488 (gaddS (gmulS x9 (gwordsS 10)) (gwordsS (wu64 (w64 (w8 ((c523.toNat : Int) - 48)))))) (w64 (x10 + 1)) < mu488 x9 x10))))))))))) ∧
              (((decide ((c523.toNat : Int) ≥ 48)) && (decide ((c523.toNat : Int) ≤ 57))) = false →
                ((((decide ((c523.toNat : Int) ≥ 97)) && (decide ((c523.toNat : Int) ≤ 122))) = true →
                  (((decide ((w64 ((w64 (w8 ((c523.toNat : Int) - 97))) + 10)) ≥ 10)) = true) ∧
                  (K (false, false, u0)))) ∧
                (((decide ((c523.toNat : Int) ≥ 97)) && (decide ((c523.toNat : Int) ≤ 122))) = false →
                  ((((decide ((c523.toNat : Int) ≥ 65)) && (decide ((c523.toNat : Int) ≤ 90))) = true →
                    (((decide ((w64 ((w64 (w8 ((c523.toNat : Int) - 65))) + 10)) ≥ 10)) = true) ∧
                    (K (false, false, u0)))) ∧
                  (((decide ((c523.toNat : Int) ≥ 65)) && (decide ((c523.toNat : Int) ≤ 90))) = false →
                    (K (false, false, u0))))))))))) ∧
            ((decide (x10 < ((u1.drop (1 : Int).toNat).length : Int))) = false →
              (∀ r754, (ggive u0 ((c425.toNat : Int) == 45) x9) = r754 →
              (r754.abs.length ≤ 140737488355328 →
              (K (true, true, r754)))))))))))))) ∧
        (((c407.toNat : Int) == 43) = false →
          ((((((u1.length : Int) == 0) || false) || false) = true →
            (K (false, false, u0))) ∧
          (((((u1.length : Int) == 0) || false) || false) = false →
            (∃ inv815 : (List Int) → Int → Prop, ∃ mu815 : (List Int) → Int → Nat, inv815 ([] : List Int) 0 ∧
            (∀ (x9 : List Int) (x10 : Int), inv815 x9 x10 →
            (((decide (x10 < (u1.length : Int))) = true →
              ((0 ≤ x10 ∧ x10 < (u1.length : Int)) ∧
              (∀ c850, u1[x10.toNat]? = some c850 →
              ((((decide ((c850.toNat : Int) ≥ 48)) && (decide ((c850.toNat : Int) ≤ 57))) = true →
                (((decide ((w64 (w8 ((c850.toNat : Int) - 48))) ≥ 10)) = false) ∧
                ((0 ≤ (10 : Int) ∧ (10 : Int) ≤ 18446744073709551615) ∧
                ((gwordsS 10).length ≤ 140737488355328 →
                ((wok x9 ∧ wok (gwordsS 10) ∧ x9.length ≤ 100000 ∧ (gwordsS 10).length ≤ 1000) ∧
                ((gmulS x9 (gwordsS 10)).length ≤ 140737488355328 →
                ((0 ≤ (wu64 (w64 (w8 ((c850.toNat : Int) - 48)))) ∧ (wu64 (w64 (w8 ((c850.toNat : Int) - 48)))) ≤ 18446744073709551615) ∧
                ((gwordsS (wu64 (w64 (w8 ((c850.toNat : Int) - 48))))).length ≤ 140737488355328 →
                ((wok (gmulS x9 (gwordsS 10)) ∧ wok (gwordsS (wu64 (w64 (w8 ((c850.toNat : Int) - 48))))) ∧ (gmulS x9 (gwordsS 10)).length ≤ 1000000 ∧ (gwordsS (wu64 (w64 (w8 ((c850.toNat : Int) - 48))))).length ≤ 1000000) ∧
                ((gaddS (gmulS x9 (gwordsS 10)) (gwordsS (wu64 (w64 (w8 ((c850.toNat : Int) - 48)))))).length ≤ 140737488355328 →
                (inv815 (gaddS (gmulS x9 (gwordsS 10)) (gwordsS (wu64 (w64 (w8 ((c850.toNat : Int) - 48)))))) (w64 (x10 + 1)) ∧ mu815 (gaddS (gmulS x9 (gwordsS 10)) (gwordsS (wu64 (w64 (w8 ((c850.toNat : Int) - 48)))))) (w64 (x10 + 1)) < mu815 x9 x10))))))))))) ∧
              (((decide ((c850.toNat : Int) ≥ 48)) && (decide ((c850.toNat : Int) ≤ 57))) = false →
                ((((decide ((c850.toNat : Int) ≥ 97)) && (decide ((c850.toNat : Int) ≤ 122))) = true →
                  (((decide ((w64 ((w64 (w8 ((c850.toNat : Int) - 97))) + 10)) ≥ 10)) = true) ∧
                  (K (false, false, u0)))) ∧
                (((decide ((c850.toNat : Int) ≥ 97)) && (decide ((c850.toNat : Int) ≤ 122))) = false →
                  ((((decide ((c850.toNat : Int) ≥ 65)) && (decide ((c850.toNat : Int) ≤ 90))) = true →
                    (((decide ((w64 ((w64 (w8 ((c850.toNat : Int) - 65))) + 10)) ≥ 10)) = true) ∧
                    (K (false, false, u0)))) ∧
                  (((decide ((c850.toNat : Int) ≥ 65)) && (decide ((c850.toNat : Int) ≤ 90))) = false →
                    (K (false, false, u0))))))))))) ∧
            ((decide (x10 < (u1.length : Int))) = false →
              (∀ r1081, (ggive u0 false x9) = r1081 →
              (r1081.abs.length ≤ 140737488355328 →
              (K (true, true, r1081))))))))))))))))))) ∧
    ((decide ((u1.length : Int) > 0)) = false →
      ((((((u1.length : Int) == 0) || false) || false) = true →
        (K (false, false, u0))) ∧
      (((((u1.length : Int) == 0) || false) || false) = false →
        (∃ inv1161 : (List Int) → Int → Prop, ∃ mu1161 : (List Int) → Int → Nat, inv1161 ([] : List Int) 0 ∧
        (∀ (x9 : List Int) (x10 : Int), inv1161 x9 x10 →
        (((decide (x10 < (u1.length : Int))) = true →
          ((0 ≤ x10 ∧ x10 < (u1.length : Int)) ∧
          (∀ c1196, u1[x10.toNat]? = some c1196 →
          ((((decide ((c1196.toNat : Int) ≥ 48)) && (decide ((c1196.toNat : Int) ≤ 57))) = true →
            (((decide ((w64 (w8 ((c1196.toNat : Int) - 48))) ≥ 10)) = false) ∧
            ((0 ≤ (10 : Int) ∧ (10 : Int) ≤ 18446744073709551615) ∧
            ((gwordsS 10).length ≤ 140737488355328 →
            ((wok x9 ∧ wok (gwordsS 10) ∧ x9.length ≤ 100000 ∧ (gwordsS 10).length ≤ 1000) ∧
            ((gmulS x9 (gwordsS 10)).length ≤ 140737488355328 →
            ((0 ≤ (wu64 (w64 (w8 ((c1196.toNat : Int) - 48)))) ∧ (wu64 (w64 (w8 ((c1196.toNat : Int) - 48)))) ≤ 18446744073709551615) ∧
            ((gwordsS (wu64 (w64 (w8 ((c1196.toNat : Int) - 48))))).length ≤ 140737488355328 →
            ((wok (gmulS x9 (gwordsS 10)) ∧ wok (gwordsS (wu64 (w64 (w8 ((c1196.toNat : Int) - 48))))) ∧ (gmulS x9 (gwordsS 10)).length ≤ 1000000 ∧ (gwordsS (wu64 (w64 (w8 ((c1196.toNat : Int) - 48))))).length ≤ 1000000) ∧
            ((gaddS (gmulS x9 (gwordsS 10)) (gwordsS (wu64 (w64 (w8 ((c1196.toNat : Int) - 48)))))).length ≤ 140737488355328 →
            (inv1161 (gaddS (gmulS x9 (gwordsS 10)) (gwordsS (wu64 (w64 (w8 ((c1196.toNat : Int) - 48)))))) (w64 (x10 + 1)) ∧ mu1161 (gaddS (gmulS x9 (gwordsS 10)) (gwordsS (wu64 (w64 (w8 ((c1196.toNat : Int) - 48)))))) (w64 (x10 + 1)) < mu1161 x9 x10))))))))))) ∧
          (((decide ((c1196.toNat : Int) ≥ 48)) && (decide ((c1196.toNat : Int) ≤ 57))) = false →
            ((((decide ((c1196.toNat : Int) ≥ 97)) && (decide ((c1196.toNat : Int) ≤ 122))) = true →
              (((decide ((w64 ((w64 (w8 ((c1196.toNat : Int) - 97))) + 10)) ≥ 10)) = true) ∧
              (K (false, false, u0)))) ∧
            (((decide ((c1196.toNat : Int) ≥ 97)) && (decide ((c1196.toNat : Int) ≤ 122))) = false →
              ((((decide ((c1196.toNat : Int) ≥ 65)) && (decide ((c1196.toNat : Int) ≤ 90))) = true →
                (((decide ((w64 ((w64 (w8 ((c1196.toNat : Int) - 65))) + 10)) ≥ 10)) = true) ∧
                (K (false, false, u0)))) ∧
              (((decide ((c1196.toNat : Int) ≥ 65)) && (decide ((c1196.toNat : Int) ≤ 90))) = false →
                (K (false, false, u0))))))))))) ∧
        ((decide (x10 < (u1.length : Int))) = false →
          (∀ r1427, (ggive u0 false x9) = r1427 →
          (r1427.abs.length ≤ 140737488355328 →
          (K (true, true, r1427)))))))))))))

def gtext_vc (u0 : BInt) (K : ((List UInt8) × BInt) → Prop) : Prop :=
  (u0.abs.length ≤ 140737488355328 →
    ((((u0.abs.length : Int) == 0) = true →
      (K (([48] : List UInt8), u0))) ∧
    (((u0.abs.length : Int) == 0) = false →
      ((u0.abs.length ≤ 1000000) ∧
      ((gtwinS u0.abs).length ≤ 140737488355328 →
      (∃ inv60 : (List Int) → (List Int) → Prop, ∃ mu60 : (List Int) → (List Int) → Nat, inv60 ([] : List Int) (gtwinS u0.abs) ∧
      (∀ (x5 : List Int) (x6 : List Int), inv60 x5 x6 →
      (((decide ((x6.length : Int) > 0)) = true →
        ((wok x6 ∧ x6.length ≤ 100000 ∧ (10 : Int) = 10) ∧
        ((gsmallS x6 10).1.length ≤ 140737488355328 →
        (((decide ((gsmallS x6 10).2 < 10)) = true →
          (((x5.length + 1) * 1 ≤ 140737488355328) ∧
          (inv60 (x5 ++ [w8 (wu32 (48 + (gsmallS x6 10).2))]) (gsmallS x6 10).1 ∧ mu60 (x5 ++ [w8 (wu32 (48 + (gsmallS x6 10).2))]) (gsmallS x6 10).1 < mu60 x5 x6))) ∧
        ((decide ((gsmallS x6 10).2 < 10)) = false →
          (((x5.length + 1) * 1 ≤ 140737488355328) ∧
          (inv60 (x5 ++ [w8 (wu32 ((wu32 (97 + (gsmallS x6 10).2)) - 10))]) (gsmallS x6 10).1 ∧ mu60 (x5 ++ [w8 (wu32 ((wu32 (97 + (gsmallS x6 10).2)) - 10))]) (gsmallS x6 10).1 < mu60 x5 x6))))))) ∧
      ((decide ((x6.length : Int) > 0)) = false →
        ((u0.neg = true →
          (((x5.length + 1) * 1 ≤ 140737488355328) ∧
          (∃ inv229 : Int → Int → (List Int) → Prop, ∃ mu229 : Int → Int → (List Int) → Nat, inv229 0 (w64 (((x5 ++ [45]).length : Int) - 1)) (x5 ++ [45]) ∧
          (∀ (x8 : Int) (x9 : Int) (zao207 : List Int), inv229 x8 x9 zao207 →
          (((decide (x8 < x9)) = true →
            ((0 ≤ x8 ∧ x8 < (zao207.length : Int)) ∧
            (∀ q262, zao207[x8.toNat]? = some q262 →
            ((0 ≤ x9 ∧ x9 < (zao207.length : Int)) ∧
            (∀ q287, zao207[x9.toNat]? = some q287 →
            ((0 ≤ x8 ∧ x8 < (zao207.length : Int)) ∧
            ((0 ≤ x9 ∧ x9 < ((zao207.set x8.toNat q287).length : Int)) ∧
            (inv229 (w64 (x8 + 1)) (w64 (x9 - 1)) ((zao207.set x8.toNat q287).set x9.toNat q262) ∧ mu229 (w64 (x8 + 1)) (w64 (x9 - 1)) ((zao207.set x8.toNat q287).set x9.toNat q262) < mu229 x8 x9 zao207)))))))) ∧
          ((decide (x8 < x9)) = false →
            (K (bstr zao207, u0)))))))) ∧
        (u0.neg = false →
          (∃ inv356 : Int → Int → (List Int) → Prop, ∃ mu356 : Int → Int → (List Int) → Nat, inv356 0 (w64 ((x5.length : Int) - 1)) x5 ∧
          (∀ (x8 : Int) (x9 : Int) (zaox5 : List Int), inv356 x8 x9 zaox5 →
          (((decide (x8 < x9)) = true →
            ((0 ≤ x8 ∧ x8 < (zaox5.length : Int)) ∧
            (∀ q389, zaox5[x8.toNat]? = some q389 →
            ((0 ≤ x9 ∧ x9 < (zaox5.length : Int)) ∧
            (∀ q414, zaox5[x9.toNat]? = some q414 →
            ((0 ≤ x8 ∧ x8 < (zaox5.length : Int)) ∧
            ((0 ≤ x9 ∧ x9 < ((zaox5.set x8.toNat q414).length : Int)) ∧
            (inv356 (w64 (x8 + 1)) (w64 (x9 - 1)) ((zaox5.set x8.toNat q414).set x9.toNat q389) ∧ mu356 (w64 (x8 + 1)) (w64 (x9 - 1)) ((zaox5.set x8.toNat q414).set x9.toNat q389) < mu356 x8 x9 zaox5)))))))) ∧
          ((decide (x8 < x9)) = false →
            (K (bstr zaox5, u0)))))))))))))))))

/-! Pure proofs: no program in sight. -/
/-! Numbers to base 10. -/
def gint64D (x : BInt) : Int × BInt := (if x.neg = true then w64 (0 - w64 ((wv x.abs % 18446744073709551616 : Nat) : Int)) else w64 ((wv x.abs % 18446744073709551616 : Nat) : Int), x)
theorem gint64_okD (x : BInt) (h : wok x.abs) : gint64_vc x (fun r => r = gint64D x) := by
  intro _
  refine ⟨h, ?_⟩
  rintro _ rfl _
  unfold guint64S gint64D
  dsimp only
  exact ⟨fun e => by rw [if_pos e], fun e => by rw [if_neg (by rw [e]; decide)]⟩
def tzF : Nat → Nat → Nat
  | 0, _ => 0
  | f + 1, n => if n.testBit 0 = true then 0 else tzF f (n / 2) + 1
theorem tzF_at : ∀ (k f n : Nat), (∀ j, j < k → n.testBit j = false) → n.testBit k = true → k < f → tzF f n = k
  | _, 0, _, _, _, h3 => absurd h3 (Nat.not_lt_zero _)
  | 0, f + 1, n, _, h2, _ => by rw [tzF, if_pos h2]
  | k + 1, f + 1, n, h1, h2, h3 => by
    rw [tzF, if_neg (by rw [h1 0 (by omega)]; decide), tzF_at k f (n / 2) (fun j hj => by rw [← Nat.testBit_succ]; exact h1 (j + 1) (by omega)) (by rw [← Nat.testBit_succ]; exact h2) (by omega)]
def gtzS (x : BInt) : Int × BInt := (if wv x.abs = 0 then 0 else ((tzF 64 (wv x.abs) : Nat) : Int), x)
theorem gtz_ok (x : BInt) (h : x.abs = ws (wv x.abs) ∧ x.abs.length ≤ 2) : gtz_vc x (fun r => r = gtzS x) := by
  obtain ⟨h1, h2⟩ := h
  have hw : wok x.abs := by rw [h1]; exact ws_wok _
  have hlt : wv x.abs < 2 ^ 64 := Nat.lt_of_lt_of_le (wv_lt hw) (Nat.le_trans (Nat.pow_le_pow_right (by decide) h2) (by decide))
  intro _
  unfold gtzS
  refine ⟨fun h3 => ?_, fun h3 => ?_⟩
  · have h3 : (x.abs.length : Int) = 0 := by simpa only [beq_iff_eq] using h3
    have h3 : x.abs = [] := List.eq_nil_of_length_eq_zero (by omega)
    rw [h3]
    rfl
  · have h3 : ¬ wv x.abs = 0 := by
      intro e
      rw [e, ws_zero] at h1
      rw [h1] at h3
      cases h3
    rw [if_neg h3]
    have hex : ∀ k, 64 ≤ k → ¬ ∀ j, j < k → (wv x.abs).testBit j = false := fun k hk hj => h3 (Nat.eq_of_testBit_eq fun i => by
      rw [Nat.zero_testBit]
      rcases Nat.lt_or_ge i k with hi | hi
      · exact hj i hi
      · exact Nat.testBit_lt_two_pow (Nat.lt_of_lt_of_le hlt (Nat.pow_le_pow_right (by decide) (by omega))))
    refine ⟨fun i => ∃ k : Nat, i = k ∧ k < 64 ∧ ∀ j, j < k → (wv x.abs).testBit j = false, fun i => 64 - i.toNat, ⟨0, rfl, by omega, fun j hj => absurd hj (Nat.not_lt_zero _)⟩, ?_⟩
    rintro _ ⟨k, rfl, hk, hj⟩
    rw [w64_eq (k : Int) (by omega)]
    unfold gbitS
    rw [Int.toNat_natCast]
    refine ⟨⟨hw, by omega, by omega⟩, fun h4 => ?_, fun h4 => ?_⟩
    · have hb : (wv x.abs).testBit k = false := by
        cases hb : (wv x.abs).testBit k with
        | false => rfl
        | true => rw [hb] at h4; cases h4
      have hj2 : ∀ j, j < k + 1 → (wv x.abs).testBit j = false := fun j hjj => by
        rcases Nat.lt_or_ge j k with hc | hc
        · exact hj j hc
        · have : j = k := by omega
          rw [this, hb]
      have hk2 : k + 1 < 64 := by
        rcases Nat.lt_or_ge (k + 1) 64 with hc | hc
        · exact hc
        · exact absurd hj2 (hex _ hc)
      rw [wu64_eq ((k : Int) + 1) (by omega)]
      exact ⟨⟨k + 1, rfl, hk2, hj2⟩, by dsimp only; omega⟩
    · have hb : (wv x.abs).testBit k = true := by
        cases hb : (wv x.abs).testBit k with
        | true => rfl
        | false => rw [hb] at h4; cases h4
      rw [tzF_at k 64 _ hj hb hk]
theorem ten_words : gwordsS 10 = [10] := by
  unfold gwordsS
  rw [ws_pos (by decide)]
  show [((10 : Nat) : Int)] ++ ws 0 = [10]
  rw [ws_zero]
  rfl
def isD (c : UInt8) : Bool := (decide ((c.toNat : Int) ≥ 48)) && (decide ((c.toNat : Int) ≤ 57))
def dval (s : List UInt8) : Nat := s.foldl (fun a c => 10 * a + (c.toNat - 48)) 0
theorem dval_snoc (s : List UInt8) (c : UInt8) : dval (s ++ [c]) = 10 * dval s + (c.toNat - 48) := by simp [dval, List.foldl_append]
theorem dval_lt : ∀ (k : Nat) (s : List UInt8), s.length = k → (∀ c ∈ s, isD c = true) → dval s < 10 ^ k
  | 0, s, h, _ => by rw [List.eq_nil_of_length_eq_zero h]; decide
  | k + 1, s, h, hd => by
    have hne : s ≠ [] := by intro e; rw [e] at h; cases h
    have e := List.dropLast_concat_getLast hne
    generalize s.dropLast = a at e
    generalize s.getLast hne = c at e
    subst e
    have ih := dval_lt k a (by simpa using h) fun c hc => hd c (List.mem_append_left _ hc)
    have hc := hd c (by simp)
    unfold isD at hc
    simp only [Bool.and_eq_true, decide_eq_true_eq] at hc
    rw [dval_snoc, Nat.pow_succ]
    omega
theorem dval_words {s : List UInt8} {k m : Nat} (h : s.length = k) (hd : ∀ c ∈ s, isD c = true) (hk : k ≤ m) : (ws (dval s)).length ≤ m :=
  Nat.le_trans (ws_len k _ (Nat.lt_of_lt_of_le (dval_lt k s h hd) (Nat.pow_le_pow_left (by decide) k))) hk
theorem dloop (s : List UInt8) (hs : s.length ≤ 90000) {P0 : Prop} {P1 : List Int → Prop} (h0 : s.all isD = false → P0) (h1 : s.all isD = true → P1 (ws (dval s))) :
    (∃ inv : (List Int) → Int → Prop, ∃ mu : (List Int) → Int → Nat, inv ([] : List Int) 0 ∧
          (∀ (x9 : List Int) (x10 : Int), inv x9 x10 →
          (((decide (x10 < (s.length : Int))) = true →
            ((0 ≤ x10 ∧ x10 < (s.length : Int)) ∧
            (∀ c, s[x10.toNat]? = some c →
            ((((decide ((c.toNat : Int) ≥ 48)) && (decide ((c.toNat : Int) ≤ 57))) = true →
              (((decide ((w64 (w8 ((c.toNat : Int) - 48))) ≥ 10)) = false) ∧
              ((0 ≤ (10 : Int) ∧ (10 : Int) ≤ 18446744073709551615) ∧
              ((gwordsS 10).length ≤ 140737488355328 →
              ((wok x9 ∧ wok (gwordsS 10) ∧ x9.length ≤ 100000 ∧ (gwordsS 10).length ≤ 1000) ∧
              ((gmulS x9 (gwordsS 10)).length ≤ 140737488355328 →
              ((0 ≤ (wu64 (w64 (w8 ((c.toNat : Int) - 48)))) ∧ (wu64 (w64 (w8 ((c.toNat : Int) - 48)))) ≤ 18446744073709551615) ∧
              ((gwordsS (wu64 (w64 (w8 ((c.toNat : Int) - 48))))).length ≤ 140737488355328 →
              ((wok (gmulS x9 (gwordsS 10)) ∧ wok (gwordsS (wu64 (w64 (w8 ((c.toNat : Int) - 48))))) ∧ (gmulS x9 (gwordsS 10)).length ≤ 1000000 ∧ (gwordsS (wu64 (w64 (w8 ((c.toNat : Int) - 48))))).length ≤ 1000000) ∧
              ((gaddS (gmulS x9 (gwordsS 10)) (gwordsS (wu64 (w64 (w8 ((c.toNat : Int) - 48)))))).length ≤ 140737488355328 →
              (inv (gaddS (gmulS x9 (gwordsS 10)) (gwordsS (wu64 (w64 (w8 ((c.toNat : Int) - 48)))))) (w64 (x10 + 1)) ∧ mu (gaddS (gmulS x9 (gwordsS 10)) (gwordsS (wu64 (w64 (w8 ((c.toNat : Int) - 48)))))) (w64 (x10 + 1)) < mu x9 x10))))))))))) ∧
            (((decide ((c.toNat : Int) ≥ 48)) && (decide ((c.toNat : Int) ≤ 57))) = false →
              ((((decide ((c.toNat : Int) ≥ 97)) && (decide ((c.toNat : Int) ≤ 122))) = true →
                (((decide ((w64 ((w64 (w8 ((c.toNat : Int) - 97))) + 10)) ≥ 10)) = true) ∧ P0)) ∧
              (((decide ((c.toNat : Int) ≥ 97)) && (decide ((c.toNat : Int) ≤ 122))) = false →
                ((((decide ((c.toNat : Int) ≥ 65)) && (decide ((c.toNat : Int) ≤ 90))) = true →
                  (((decide ((w64 ((w64 (w8 ((c.toNat : Int) - 65))) + 10)) ≥ 10)) = true) ∧ P0)) ∧
                (((decide ((c.toNat : Int) ≥ 65)) && (decide ((c.toNat : Int) ≤ 90))) = false → P0))))))))) ∧
          ((decide (x10 < (s.length : Int))) = false → P1 x9)))) := by
  refine ⟨fun x i => ∃ k : Nat, i = k ∧ k ≤ s.length ∧ (∀ c ∈ s.take k, isD c = true) ∧ x = ws (dval (s.take k)), fun _ i => s.length - i.toNat, ⟨0, rfl, by omega, by simp, by show [] = ws 0; rw [ws_zero]⟩, ?_⟩
  rintro _ _ ⟨k, rfl, hk, hd, rfl⟩
  refine ⟨fun h2 => ?_, fun h2 => ?_⟩
  · have hks : k < s.length := by have := of_decide_eq_true h2; omega
    refine ⟨by omega, fun c hc => ?_⟩
    rw [Int.toNat_natCast] at hc
    have hbad : isD c = false → s.all isD = false := fun hb => List.all_eq_false.2 ⟨c, List.mem_of_getElem? hc, by rw [hb]; decide⟩
    refine ⟨fun h3 => ?_, fun h3 => ?_⟩
    · have hc2 := h3
      simp only [Bool.and_eq_true, decide_eq_true_eq] at hc2
      have ed : w64 (w8 ((c.toNat : Int) - 48)) = ((c.toNat - 48 : Nat) : Int) := by
        rw [w8_eq _ (by omega), w64_eq _ (by omega)]; omega
      have hl1 : (s.take k).length = k := by rw [List.length_take]; omega
      have hwl : (ws (dval (s.take k))).length ≤ 100000 := dval_words hl1 hd (by omega)
      have hd2 : ∀ x ∈ s.take (k + 1), isD x = true := fun x hx => by
        rw [take_next s k c hc] at hx
        rcases List.mem_append.1 hx with hx | hx
        · exact hd x hx
        · rw [List.mem_singleton.1 hx]; exact h3
      rw [ed, wu64_eq _ (by omega), ten_words]
      have hlt := dval_lt k (s.take k) hl1 hd
      have hm : gmulS (ws (dval (s.take k))) [10] = ws (10 * dval (s.take k)) := by
        unfold gmulS
        rw [wv_ws, Nat.mul_comm]
        rfl
      have hml : (ws (10 * dval (s.take k))).length ≤ k + 1 := by
        refine ws_len (k + 1) _ (Nat.lt_of_lt_of_le ?_ (Nat.pow_le_pow_left (show 10 ≤ 4294967296 by decide) (k + 1)))
        rw [Nat.pow_succ]; omega
      have hdl : (gwordsS ((c.toNat - 48 : Nat) : Int)).length ≤ 1 := by
        unfold gwordsS
        rw [Int.toNat_natCast]
        exact ws_len 1 _ (by omega)
      have w10 : wok [(10 : Int)] := fun y hy => by rw [List.mem_singleton.1 hy]; omega
      rw [hm]
      refine ⟨by simp only [decide_eq_false_iff_not]; omega, by omega, fun _ => ⟨⟨ws_wok _, w10, hwl, by decide⟩, fun _ => ⟨by omega, fun _ => ⟨⟨ws_wok _, ws_wok _, by omega, by omega⟩, fun _ => ?_⟩⟩⟩⟩
      unfold gaddS gwordsS
      rw [wv_ws, wv_ws, Int.toNat_natCast, w64_succ k (by omega)]
      exact ⟨⟨k + 1, rfl, by omega, hd2, by rw [take_next s k c hc, dval_snoc]⟩, by (try dsimp only); omega⟩
    · have hP := h0 (hbad h3)
      refine ⟨fun h4 => ⟨?_, hP⟩, fun _ => ⟨fun h4 => ⟨?_, hP⟩, fun _ => hP⟩⟩
      · simp only [Bool.and_eq_true, decide_eq_true_eq] at h4 ⊢
        rw [w8_eq _ (by omega), w64_eq ((c.toNat : Int) - 97) (by omega), w64_eq _ (by omega)]; omega
      · simp only [Bool.and_eq_true, decide_eq_true_eq] at h4 ⊢
        rw [w8_eq _ (by omega), w64_eq ((c.toNat : Int) - 65) (by omega), w64_eq _ (by omega)]; omega
  · have hks : k = s.length := by have := of_decide_eq_false h2; omega
    subst hks
    rw [List.take_length] at hd ⊢
    exact h1 (List.all_eq_true.2 hd)
def dset (z : BInt) (neg : Bool) (t : List UInt8) : Bool × Bool × BInt := if t = [] ∨ t.all isD = false then (false, false, z) else (true, true, ggive z neg (ws (dval t)))
def gsetstrD (z : BInt) : List UInt8 → Bool × Bool × BInt
  | [] => (false, false, z)
  | c :: r => if (c.toNat : Int) = 45 then dset z true r else if (c.toNat : Int) = 43 then dset z false r else dset z false (c :: r)
theorem gsetstr_okD (z : BInt) (s : List UInt8) (h : s.length ≤ 90000) : gsetstr_vc z s (fun r => r = gsetstrD z s) := by
  intro _
  cases s with
  | nil => exact ⟨fun h1 => (by cases h1), fun _ => ⟨fun _ => rfl, fun h1 => (by cases h1)⟩⟩
  | cons c r =>
    have hr : ((c :: r).drop (1 : Int).toNat) = r := rfl
    have hc0 : (c :: r)[(0 : Int).toNat]? = some c := rfl
    have hl : ((c :: r).length : Int) = (r.length : Int) + 1 := rfl
    rw [List.length_cons] at h
    have hnil : ∀ t : List UInt8, ((((t.length : Int) == 0) || false) || false) = true → t = [] := fun t e => by
      simp only [Bool.or_false, beq_iff_eq] at e
      exact List.eq_nil_of_length_eq_zero (by omega)
    have hnnil : ∀ t : List UInt8, ((((t.length : Int) == 0) || false) || false) = false → t ≠ [] := fun t e e2 => by
      rw [e2] at e; cases e
    refine ⟨fun _ => ?_, fun h1 => ?_⟩
    rotate_left
    · exfalso
      have := of_decide_eq_false h1
      omega
    refine ⟨by omega, fun c1 hc1 => ?_⟩
    rw [hc0] at hc1
    cases hc1
    refine ⟨fun h1 => ⟨by omega, fun c2 hc2 => ⟨by omega, ?_⟩⟩, fun h1 => ⟨by omega, fun c2 hc2 => ?_⟩⟩
    · rw [hc0] at hc2
      cases hc2
      have h1 : (c.toNat : Int) = 45 := by simpa only [beq_iff_eq] using h1
      have eS : gsetstrD z (c :: r) = dset z true r := by rw [gsetstrD, if_pos h1]
      rw [hr, eS]
      refine ⟨fun h2 => ?_, fun h2 => ?_⟩
      · unfold dset; rw [if_pos (.inl (hnil r h2))]
      · refine dloop r (by omega) (fun hb => ?_) (fun hg => ?_)
        · unfold dset; rw [if_pos (.inr hb)]
        · rintro _ rfl _
          unfold dset
          rw [if_neg (by rw [hg]; simp [hnnil r h2]), h1]
          rfl
    · rw [hc0] at hc2
      cases hc2
      have h1 : ¬ (c.toNat : Int) = 45 := by simpa only [beq_eq_false_iff_ne] using h1
      refine ⟨fun h3 => ⟨by omega, fun c2 hc2 => ⟨by omega, ?_⟩⟩, fun h3 => ?_⟩
      · rw [hc0] at hc2
        cases hc2
        have h3 : (c.toNat : Int) = 43 := by simpa only [beq_iff_eq] using h3
        have eS : gsetstrD z (c :: r) = dset z false r := by rw [gsetstrD, if_neg h1, if_pos h3]
        rw [hr, eS]
        refine ⟨fun h2 => ?_, fun h2 => ?_⟩
        · unfold dset; rw [if_pos (.inl (hnil r h2))]
        · refine dloop r (by omega) (fun hb => ?_) (fun hg => ?_)
          · unfold dset; rw [if_pos (.inr hb)]
          · rintro _ rfl _
            unfold dset
            rw [if_neg (by rw [hg]; simp [hnnil r h2]), h3]
            rfl
      · have h3 : ¬ (c.toNat : Int) = 43 := by simpa only [beq_eq_false_iff_ne] using h3
        have eS : gsetstrD z (c :: r) = dset z false (c :: r) := by rw [gsetstrD, if_neg h1, if_neg h3]
        rw [eS]
        refine ⟨fun h2 => absurd (hnil _ h2) (by simp), fun h2 => ?_⟩
        refine dloop (c :: r) (by rw [List.length_cons]; omega) (fun hb => ?_) (fun hg => ?_)
        · unfold dset; rw [if_pos (.inr hb)]
        · rintro _ rfl _
          unfold dset
          rw [if_neg (by rw [hg]; simp)]
def RevB {α : Type} (u : List α) (k : Nat) (z : List α) : Prop := z.length = u.length ∧ ∀ j, j < u.length → z[j]? = if j < k ∨ u.length ≤ j + k then u[u.length - 1 - j]? else u[j]?
theorem RevB.start {α : Type} (u : List α) : RevB u 0 u := ⟨rfl, fun j hj => by rw [if_neg (by omega)]⟩
theorem RevB.step {α : Type} {u z : List α} {k : Nat} {x y : α} (h : RevB u k z) (hk : 2 * k + 1 < u.length) (hx : z[u.length - 1 - k]? = some x) (hy : z[k]? = some y) : RevB u (k + 1) ((z.set k x).set (u.length - 1 - k) y) := by
  obtain ⟨h1, h2⟩ := h
  refine ⟨by simp [h1], fun j hj => ?_⟩
  have ex := h2 (u.length - 1 - k) (by omega)
  have ey := h2 k (by omega)
  rw [if_neg (by omega)] at ex ey
  rw [hx] at ex
  rw [hy] at ey
  rw [List.getElem?_set, List.getElem?_set]
  by_cases e1 : u.length - 1 - k = j
  · subst e1
    rw [if_pos rfl, if_pos (by rw [List.length_set]; omega), if_pos (by omega), ey]
    congr 1
    omega
  · rw [if_neg e1]
    by_cases e2 : k = j
    · subst e2
      rw [if_pos rfl, if_pos (by omega), if_pos (by omega), ex]
    · rw [if_neg e2, h2 j hj]
      have : (j < k + 1 ∨ u.length ≤ j + (k + 1)) ↔ (j < k ∨ u.length ≤ j + k) := by omega
      simp only [this]
theorem RevB.done {α : Type} {u z : List α} {k : Nat} (h : RevB u k z) (hk : u.length ≤ 2 * k + 1) : z = u.reverse := by
  obtain ⟨h1, h2⟩ := h
  apply List.ext_getElem?
  intro j
  rcases Nat.lt_or_ge j u.length with hj | hj
  · rw [h2 j hj, List.getElem?_reverse hj]
    split
    · rfl
    · congr 1
      omega
  · rw [List.getElem?_eq_none (by omega), List.getElem?_eq_none (by rw [List.length_reverse]; omega)]
theorem revloop (u : List Int) (hu : u.length ≤ 4000000000) {P : List Int → Prop} (hP : P u.reverse) :
    (∃ inv : Int → Int → (List Int) → Prop, ∃ mu : Int → Int → (List Int) → Nat, inv 0 (w64 ((u.length : Int) - 1)) u ∧
          (∀ (x8 : Int) (x9 : Int) (z : List Int), inv x8 x9 z →
          (((decide (x8 < x9)) = true →
            ((0 ≤ x8 ∧ x8 < (z.length : Int)) ∧
            (∀ q, z[x8.toNat]? = some q →
            ((0 ≤ x9 ∧ x9 < (z.length : Int)) ∧
            (∀ p, z[x9.toNat]? = some p →
            ((0 ≤ x8 ∧ x8 < (z.length : Int)) ∧
            ((0 ≤ x9 ∧ x9 < ((z.set x8.toNat p).length : Int)) ∧
            (inv (w64 (x8 + 1)) (w64 (x9 - 1)) ((z.set x8.toNat p).set x9.toNat q) ∧ mu (w64 (x8 + 1)) (w64 (x9 - 1)) ((z.set x8.toNat p).set x9.toNat q) < mu x8 x9 z)))))))) ∧
          ((decide (x8 < x9)) = false → P z)))) := by
  refine ⟨fun x y z => ∃ k : Nat, x = k ∧ y = (u.length : Int) - 1 - k ∧ 2 * k ≤ u.length + 1 ∧ RevB u k z, fun x _ _ => u.length - x.toNat, ⟨0, rfl, by rw [w64_eq _ (by omega)]; omega, by omega, RevB.start u⟩, ?_⟩
  rintro _ _ z ⟨k, rfl, rfl, hk, hR⟩
  refine ⟨fun h1 => ?_, fun h1 => ?_⟩
  · have h1 := of_decide_eq_true h1
    have e1 : (((u.length : Int) - 1 - (k : Int))).toNat = u.length - 1 - k := by omega
    have hz := hR.1
    rw [e1, Int.toNat_natCast]
    refine ⟨by omega, fun y hy => ⟨by omega, fun x hx => ⟨by omega, by rw [List.length_set]; omega, ?_, ?_⟩⟩⟩
    · rw [w64_succ k (by omega), w64_eq _ (by omega)]
      exact ⟨k + 1, rfl, by omega, by omega, hR.step (by omega) hx hy⟩
    · rw [w64_succ k (by omega)]
      (try dsimp only)
      omega
  · have h1 := of_decide_eq_false h1
    rw [hR.done (by omega)]
    exact hP
def decR (n : Nat) : List Int := if n = 0 then [] else ((48 + n % 10 : Nat) : Int) :: decR (n / 10)
 termination_by n
 decreasing_by omega
theorem decR_zero : decR 0 = [] := by rw [decR]; rfl
theorem decR_pos {n : Nat} (h : n ≠ 0) : decR n = ((48 + n % 10 : Nat) : Int) :: decR (n / 10) := by rw [decR, if_neg h]
theorem decR_len : ∀ (k n : Nat), n < 2 ^ k → (decR n).length ≤ k
  | 0, n, h => by
    have : n = 0 := by simpa using h
    rw [this, decR_zero]; simp
  | k + 1, n, h => by
    by_cases h0 : n = 0
    · rw [h0, decR_zero]; simp
    · rw [decR_pos h0, List.length_cons]
      have := decR_len k (n / 10) (by rw [Nat.pow_succ] at h; omega)
      omega
def gtextS (x : BInt) : List UInt8 × BInt := (if wv x.abs = 0 then [48] else bstr (decR (wv x.abs) ++ if x.neg = true then [45] else []).reverse, x)
theorem gtext_ok (x : BInt) (h : x.abs = ws (wv x.abs) ∧ x.abs.length ≤ 100000) : gtext_vc x (fun r => r = gtextS x) := by
  obtain ⟨h1, h2⟩ := h
  have hw : wok x.abs := by rw [h1]; exact ws_wok _
  have hlt := wv_lt hw
  have hdl : (decR (wv x.abs)).length ≤ 3200000 := by
    have := decR_len (32 * x.abs.length) (wv x.abs) (by rw [Nat.pow_mul]; exact hlt)
    omega
  intro _
  unfold gtextS
  refine ⟨fun h3 => ?_, fun h3 => ⟨by omega, fun _ => ?_⟩⟩
  · have h3 : (x.abs.length : Int) = 0 := by simpa only [beq_iff_eq] using h3
    have h3 : x.abs = [] := List.eq_nil_of_length_eq_zero (by omega)
    rw [if_pos (by rw [h3]; rfl)]
  · have h3 : ¬ wv x.abs = 0 := by
      intro e
      rw [e, ws_zero] at h1
      rw [h1] at h3
      cases h3
    rw [if_neg h3]
    refine ⟨fun p q => ∃ m : Nat, q = ws m ∧ m ≤ wv x.abs ∧ p ++ decR m = decR (wv x.abs), fun _ q => wv q, ⟨wv x.abs, h1, Nat.le_refl _, rfl⟩, ?_⟩
    rintro p _ ⟨m, rfl, hm, hp⟩
    have hpl : p.length ≤ 3200000 := by
      have := congrArg List.length hp
      rw [List.length_append] at this
      omega
    have e : gsmallS (ws m) 10 = (ws (m / 10), ((m % 10 : Nat) : Int)) := by unfold gsmallS; rw [wv_ws]; rfl
    rw [e]
    refine ⟨fun h4 => ⟨⟨ws_wok _, Nat.le_trans (ws_len _ _ (Nat.lt_of_le_of_lt hm hlt)) h2, rfl⟩, fun _ => ⟨fun _ => ⟨by omega, ?_⟩, fun h5 => ?_⟩⟩, fun h4 => ?_⟩
    · have hm0 : m ≠ 0 := by
        rintro rfl
        rw [ws_zero] at h4
        cases h4
      have e2 : (48 : Int) + ((m % 10 : Nat) : Int) = ((48 + m % 10 : Nat) : Int) := rfl
      rw [e2, wu32_eq _ (by omega), w8_eq _ (by omega)]
      refine ⟨⟨m / 10, rfl, by omega, ?_⟩, ?_⟩
      · rw [List.append_assoc, List.singleton_append, ← decR_pos hm0, hp]
      · show wv (ws (m / 10)) < wv (ws m)
        rw [wv_ws, wv_ws]
        omega
    · exfalso
      have h5 := of_decide_eq_false h5
      have : m % 10 < 10 := Nat.mod_lt _ (by decide)
      dsimp only at h5
      omega
    · have hm0 : m = 0 := by
        apply Decidable.byContradiction
        intro hm0
        rw [ws_pos hm0] at h4
        have := of_decide_eq_false h4
        rw [List.length_cons] at this
        omega
      subst hm0
      rw [decR_zero, List.append_nil] at hp
      subst hp
      refine ⟨fun h5 => ⟨by omega, ?_⟩, fun h5 => ?_⟩
      · rw [if_pos h5]
        exact revloop _ (by rw [List.length_append, List.length_singleton]; omega) rfl
      · rw [if_neg (by rw [h5]; decide), List.append_nil]
        exact revloop _ (by omega) rfl

end Go.Proofs.YtdenmllkjdijlaaGreatDoor
set_option linter.unusedVariables false
set_option linter.unusedSimpArgs false
namespace Go.Proofs.YtdenmllkjdijlaaGreatDoor
open Go.Sy Go.RowKit
def gisint_vc (u0 : BInt) (K : (Bool × BInt) → Prop) : Prop :=
  (u0.abs.length ≤ 140737488355328 →
    ((u0.abs = ws (wv u0.abs) ∧ u0.abs.length ≤ 1000000) ∧
    (((decide ((glengthS u0.abs) < 64)) = true →
      (K (true, u0))) ∧
    ((decide ((glengthS u0.abs) < 64)) = false →
      (((((glengthS u0.abs) == 64) && u0.neg) = true →
        ((u0.abs = ws (wv u0.abs) ∧ u0.abs.length ≤ 2) ∧
        (∀ r98, (gtzS u0) = r98 →
        (r98.2.abs.length ≤ 140737488355328 →
        (K (r98.1 == 63, r98.2)))))) ∧
      ((((glengthS u0.abs) == 64) && u0.neg) = false →
        (K (false, u0))))))))

def gstring_vc (u0 : BInt) (K : ((List UInt8) × BInt) → Prop) : Prop :=
  (u0.abs.length ≤ 140737488355328 →
    ((u0.abs = ws (wv u0.abs) ∧ u0.abs.length ≤ 100000) ∧
    (∀ r18, (gtextS u0) = r18 →
    (r18.2.abs.length ≤ 140737488355328 →
    (K (r18.1, r18.2))))))

/-! Pure proofs: no program in sight. -/
/-! Does it fit; its text. -/
def gisintS (x : BInt) : Bool × BInt := (decide (glengthS x.abs < 64) || ((glengthS x.abs == 64 && x.neg) && ((gtzS x).1 == 63)), x)
theorem gisint_ok (x : BInt) (h : x.abs = ws (wv x.abs) ∧ x.abs.length ≤ 100000) : gisint_vc x (fun r => r = gisintS x) := by
  obtain ⟨h1, h2⟩ := h
  intro _
  unfold gisintS
  refine ⟨⟨h1, by omega⟩, fun h3 => by rw [h3]; rfl, fun h3 => ?_⟩
  rw [h3]
  refine ⟨fun h4 => ⟨⟨h1, ?_⟩, ?_⟩, fun h4 => by rw [h4]; rfl⟩
  · have h5 : glengthS x.abs = 64 := by simp only [Bool.and_eq_true, beq_iff_eq] at h4; exact h4.1
    unfold glengthS at h5
    have h6 := blen_lt (wv x.abs)
    have h7 : blen (wv x.abs) = 64 := by omega
    rw [h7] at h6
    rw [h1]
    exact ws_len 2 _ (Nat.lt_of_lt_of_le h6 (by decide))
  · rintro _ rfl _
    rw [h4]
    rfl
theorem gstring_ok (x : BInt) (h : x.abs = ws (wv x.abs) ∧ x.abs.length ≤ 100000) : gstring_vc x (fun r => r = gtextS x) := by
  intro _
  refine ⟨h, ?_⟩
  rintro _ rfl _
  rfl

end Go.Proofs.YtdenmllkjdijlaaGreatDoor
set_option linter.unusedVariables false
set_option linter.unusedSimpArgs false
namespace Go.Proofs.YtdenmllkjdijlaaGreatDoor
open Go.Sy Go.RowKit
def integer_vc (u0 : List UInt8) (K : (Int × Bool) → Prop) : Prop :=
  ((u0.length ≤ 90000) ∧
    (∀ r20, (gsetstrD (⟨false, []⟩ : BInt) u0) = r20 →
    (r20.2.2.abs.length ≤ 140737488355328 →
    (((!r20.2.1) = true →
      (K (0, false))) ∧
    ((!r20.2.1) = false →
      ((r20.1 = true) ∧
      ((r20.2.2.abs = ws (wv r20.2.2.abs) ∧ r20.2.2.abs.length ≤ 100000) ∧
      (∀ r88, (gisintS r20.2.2) = r88 →
      (r88.2.abs.length ≤ 140737488355328 →
      (((!r88.1) = true →
        (K (0, false))) ∧
      ((!r88.1) = false →
        ((r88.2.abs = ws (wv r88.2.abs) ∧ r88.2.abs.length ≤ 100000) ∧
        (∀ r133, (gtextS r88.2) = r133 →
        (r133.2.abs.length ≤ 140737488355328 →
        (((r133.1 != u0) = true →
          (K (0, false))) ∧
        ((r133.1 != u0) = false →
          ((wok r133.2.abs) ∧
          (∀ r167, (gint64D r133.2) = r167 →
          (r167.2.abs.length ≤ 140737488355328 →
          (K (r167.1, true)))))))))))))))))))))

/-! Pure proofs: no program in sight. -/
/-! ### Digits of a number, and the number of digits -/
theorem digs_all : ∀ (k u : Nat), ∀ c ∈ digsF k u, 48 ≤ c.toNat ∧ c.toNat ≤ 57
  | 0, _, c, h => by simp only [digsF, List.mem_singleton] at h; subst h; decide
  | k + 1, u, c, h => by
    have hd : ∀ n : Fin 10, 48 ≤ (UInt8.ofNat (48 + n.val)).toNat ∧ (UInt8.ofNat (48 + n.val)).toNat ≤ 57 := by decide
    rw [digsF] at h
    split at h
    · next hu => simp only [List.mem_singleton] at h; subst h; exact hd ⟨u, hu⟩
    · rcases List.mem_append.1 h with h | h
      · exact digs_all k _ c h
      · simp only [List.mem_singleton] at h; subst h; exact hd ⟨u % 10, by omega⟩
theorem digs_ne : ∀ (k u : Nat), digsF k u ≠ []
  | 0, _ => by simp [digsF]
  | k + 1, u => by
    rw [digsF]
    split <;> simp
theorem dig_nat : ∀ n : Fin 10, (UInt8.ofNat (48 + n.val)).toNat = 48 + n.val := by decide
theorem digs_parse : ∀ (k u : Nat) (r : List UInt8), u < 10 ^ k → u < 18446744073709551616 → Lib.parseUint10 0 (digsF k u ++ r) = Lib.parseUint10 u r
  | 0, u, r, h, _ => by
    obtain rfl : u = 0 := by simpa using h
    rfl
  | k + 1, u, r, h, hs => by
    rw [digsF]
    split
    · next hu =>
      have h1 := dig_nat ⟨u, hu⟩
      simp only at h1
      show Lib.parseUint10 0 (UInt8.ofNat (48 + u) :: r) = _
      rw [Lib.parseUint10, if_pos (by omega), if_neg (by omega), if_neg (by omega), h1]
      congr 1; omega
    · next hu =>
      have h1 := dig_nat ⟨u % 10, by omega⟩
      simp only at h1
      have h2 : u / 10 < 10 ^ k := by rw [Nat.div_lt_iff_lt_mul (by omega)]; rw [Nat.pow_succ] at h; exact h
      rw [List.append_assoc, digs_parse k (u / 10) _ h2 (by omega)]
      show Lib.parseUint10 (u / 10) (UInt8.ofNat (48 + u % 10) :: r) = _
      rw [Lib.parseUint10, if_pos (by omega), if_neg (by omega), if_neg (by omega), h1]
      congr 1; omega
theorem itoa_back {n : Int} (h : 0 ≤ n ∧ n ≤ 9223372036854775807) : Lib.atoiAll (itoaS n) = .ok n := by
  obtain ⟨u, rfl⟩ : ∃ u : Nat, n = u := ⟨n.toNat, by omega⟩
  have e : itoaS (u : Int) = digsF 20 u := by
    unfold itoaS
    rw [if_neg (by omega), Int.toNat_natCast]
  rw [e]
  have hp := digs_parse 20 u [] (by omega) (by omega)
  rw [List.append_nil] at hp
  cases hd : digsF 20 u with
  | nil => exact absurd hd (digs_ne 20 u)
  | cons c r =>
    have hc := digs_all 20 u c (by rw [hd]; exact List.mem_cons_self)
    rw [hd] at hp
    unfold Lib.atoiAll
    have hm : Lib.parseMag (c :: r) = .ok u := by
      unfold Lib.parseMag
      rw [if_neg (by simp), hp]
      rfl
    simp only
    rw [if_neg (by omega), hm]
    simp only
    rw [if_neg (by omega), if_neg (by omega), if_neg (by omega)]
/-! ### A number to base 10 that a text tells -/
theorem digs_dec : ∀ (k u : Nat), u < 10 ^ (k + 1) → u ≠ 0 → bstr (decR u).reverse = digsF (k + 1) u
  | 0, u, h, h0 => by
    rw [digsF, if_pos (by omega), decR_pos h0, show u / 10 = 0 by omega, decR_zero, show u % 10 = u by omega]
    rfl
  | k + 1, u, h, h0 => by
    rw [digsF, decR_pos h0]
    by_cases h1 : u < 10
    · rw [if_pos h1, show u / 10 = 0 by omega, decR_zero, show u % 10 = u by omega]
      rfl
    · rw [if_neg h1, List.reverse_cons, bstr_append, digs_dec k (u / 10) (by rw [Nat.pow_succ] at h; omega) (by omega)]
      rfl
theorem dval_digs : ∀ (k u : Nat), u < 10 ^ k → dval (digsF k u) = u
  | 0, u, h => by
    obtain rfl : u = 0 := by simpa using h
    rfl
  | k + 1, u, h => by
    rw [digsF]
    split
    · next hu =>
      have h1 := dig_nat ⟨u, hu⟩
      simp only at h1
      show 10 * 0 + ((UInt8.ofNat (48 + u)).toNat - 48) = u
      rw [h1]; omega
    · have h1 := dig_nat ⟨u % 10, by omega⟩
      simp only at h1
      rw [dval_snoc, dval_digs k (u / 10) (by rw [Nat.pow_succ] at h; omega), h1]
      omega
theorem digs_isD (k u : Nat) : (digsF k u).all isD = true := List.all_eq_true.2 fun c hc => by
  have := digs_all k u c hc
  unfold isD
  simp only [Bool.and_eq_true, decide_eq_true_eq]
  omega
/-- The whole number that a text is, as it is written; false: there is none, or it is too big. -/
def integerS (s : List UInt8) : Int × Bool :=
  let r := gsetstrD ⟨false, []⟩ s
  if r.2.1 = true ∧ (gisintS r.2.2).1 = true ∧ (gtextS r.2.2).1 = s then ((gint64D r.2.2).1, true) else (0, false)
theorem dset_good (z : BInt) (neg : Bool) (t : List UInt8) (hl : t.length ≤ 90000) (h : (dset z neg t).2.1 = true) :
    (dset z neg t).1 = true ∧ ∃ n : Nat, (dset z neg t).2.2 = ⟨neg && decide (n ≠ 0), ws n⟩ ∧ (ws n).length ≤ 100000 := by
  unfold dset at h ⊢
  split at h
  · cases h
  · next h1 =>
    rw [if_neg h1]
    have h2 : t.all isD = true := by
      cases h3 : t.all isD with
      | true => rfl
      | false => exact absurd (.inr h3) h1
    refine ⟨rfl, dval t, ?_, dval_words rfl (List.all_eq_true.1 h2) (by omega)⟩
    unfold ggive
    congr 2
    by_cases h0 : dval t = 0
    · rw [h0, ws_zero]; rfl
    · rw [ws_pos h0, List.length_cons]
      rw [decide_eq_true (p := ((_ : Int) > 0)) (by omega), decide_eq_true h0]
theorem gsetstr_good (s : List UInt8) (hl : s.length ≤ 90000) (h : (gsetstrD ⟨false, []⟩ s).2.1 = true) :
    (gsetstrD ⟨false, []⟩ s).1 = true ∧ ∃ (neg : Bool) (n : Nat), (gsetstrD ⟨false, []⟩ s).2.2 = ⟨neg && decide (n ≠ 0), ws n⟩ ∧ (ws n).length ≤ 100000 := by
  cases s with
  | nil => cases h
  | cons c r =>
    rw [List.length_cons] at hl
    rw [gsetstrD] at h ⊢
    split at h
    · next h1 => rw [if_pos h1]; obtain ⟨a, n, b⟩ := dset_good _ true r (by omega) h; exact ⟨a, _, n, b⟩
    · next h1 =>
      rw [if_neg h1]
      split at h
      · next h2 => rw [if_pos h2]; obtain ⟨a, n, b⟩ := dset_good _ false r (by omega) h; exact ⟨a, _, n, b⟩
      · next h2 => rw [if_neg h2]; obtain ⟨a, n, b⟩ := dset_good _ false (c :: r) (by rw [List.length_cons]; omega) h; exact ⟨a, _, n, b⟩
theorem integer_ok (s : List UInt8) (hl : s.length ≤ 90000) : integer_vc s (fun r => r = integerS s) := by
  refine ⟨hl, ?_⟩
  rintro _ rfl _
  unfold integerS
  dsimp only
  refine ⟨fun h1 => ?_, fun h1 => ?_⟩
  · rw [if_neg]
    rintro ⟨h2, _⟩
    rw [h2] at h1
    cases h1
  · have h1 : (gsetstrD ⟨false, []⟩ s).2.1 = true := by simpa using h1
    obtain ⟨h2, neg, n, h3, h4⟩ := gsetstr_good s hl h1
    refine ⟨h2, ?_⟩
    rw [h3, h1]
    have h5 : (ws n : List Int) = ws (wv (ws n)) := by rw [wv_ws]
    refine ⟨⟨h5, h4⟩, ?_⟩
    rintro _ rfl _
    refine ⟨fun h6 => ?_, fun h6 => ⟨⟨h5, h4⟩, ?_⟩⟩
    · rw [if_neg]
      rintro ⟨_, h7, _⟩
      rw [h7] at h6
      cases h6
    · have h6 : (gisintS ⟨neg && decide (n ≠ 0), ws n⟩).1 = true := by simpa using h6
      rintro _ rfl _
      refine ⟨fun h7 => ?_, fun h7 => ⟨ws_wok _, ?_⟩⟩
      · rw [if_neg]
        rintro ⟨_, _, h8⟩
        have h9 : ((gtextS ⟨neg && decide (n ≠ 0), ws n⟩).1 != s) = true := h7
        rw [h8] at h9
        simp at h9
      · rintro _ rfl _
        have h9 : ((gtextS ⟨neg && decide (n ≠ 0), ws n⟩).1 != s) = false := h7
        have h7 : (gtextS ⟨neg && decide (n ≠ 0), ws n⟩).1 = s := by simpa only [bne_eq_false_iff_eq] using h9
        rw [if_pos ⟨rfl, h6, h7⟩]
        rfl
theorem tzF_dvd : ∀ (f n : Nat), 2 ^ tzF f n ∣ n ∨ n = 0 ∨ tzF f n = f
  | 0, n => .inr (.inr rfl)
  | f + 1, n => by
    rw [tzF]
    split
    · exact .inl (Nat.one_dvd n)
    · next h =>
      have h0 : n % 2 = 0 := by
        rw [Nat.testBit_zero] at h
        simp at h
        omega
      rcases tzF_dvd f (n / 2) with ⟨c, hc⟩ | h1 | h1
      · refine .inl ⟨c, ?_⟩
        rw [Nat.pow_succ, Nat.mul_assoc, Nat.mul_comm 2 c, ← Nat.mul_assoc, ← hc]
        omega
      · exact .inr (.inl (by omega))
      · exact .inr (.inr (by omega))
theorem int_range {neg : Bool} {n : Nat} (h : (gisintS ⟨neg, ws n⟩).1 = true) : n < 9223372036854775808 ∨ neg = true ∧ n = 9223372036854775808 := by
  unfold gisintS glengthS gtzS at h
  simp only [wv_ws, Bool.or_eq_true, decide_eq_true_eq, Bool.and_eq_true, beq_iff_eq] at h
  rcases h with h | ⟨⟨h1, h2⟩, h3⟩
  · refine .inl (Nat.lt_of_lt_of_le (blen_lt n) ?_)
    exact Nat.le_trans (Nat.pow_le_pow_right (by decide) (show blen n ≤ 63 by omega)) (by decide)
  · refine .inr ⟨h2, ?_⟩
    have hb : blen n = 64 := by omega
    have h4 := blen_lt n
    rw [hb] at h4
    have h0 : n ≠ 0 := by
      rintro rfl
      cases hb
    have h5 := blen_ge h0
    rw [hb] at h5
    rw [if_neg h0] at h3
    have h6 : tzF 64 n = 63 := by omega
    rcases tzF_dvd 64 n with ⟨c, hc⟩ | h7 | h7
    · rw [h6] at hc
      have e1 : (2 : Nat) ^ 63 = 9223372036854775808 := by decide
      have e2 : (2 : Nat) ^ 64 = 18446744073709551616 := by decide
      rw [e1] at hc
      rw [e2] at h4
      have e3 : (2 : Nat) ^ (64 - 1) = 9223372036854775808 := by decide
      rw [e3] at h5
      omega
    · exact absurd h7 h0
    · omega
theorem int_core {neg : Bool} {n : Nat} (h : neg = false ∧ n < 9223372036854775808 ∨ neg = true ∧ 0 < n ∧ n ≤ 9223372036854775808) :
    (gtextS ⟨neg, ws n⟩).1 = itoaS (if neg = true then -(n : Int) else n) ∧ (gint64D ⟨neg, ws n⟩).1 = (if neg = true then -(n : Int) else n) := by
  unfold gtextS gint64D
  simp only [wv_ws]
  have hm : n % 18446744073709551616 = n := Nat.mod_eq_of_lt (by omega)
  rw [hm]
  rcases h with ⟨rfl, h⟩ | ⟨rfl, h0, h⟩
  · simp only [Bool.false_eq_true, if_false, List.append_nil]
    refine ⟨?_, w64_eq _ (by omega)⟩
    unfold itoaS
    rw [if_neg (show ¬ (n : Int) < 0 by omega), Int.toNat_natCast]
    split
    · next e => rw [e]; rfl
    · next e => exact digs_dec 19 n (by omega) e
  · simp only [if_true]
    refine ⟨?_, ?_⟩
    · unfold itoaS
      rw [if_neg (show ¬ n = 0 by omega), if_pos (show -(n : Int) < 0 by omega), List.reverse_append, bstr_append, digs_dec 19 n (by omega) (by omega)]
      rw [show (-(n : Int)).natAbs = n by omega]
      rfl
    · by_cases e : n = 9223372036854775808
      · subst e
        decide
      · rw [w64_eq (n : Int) (by omega), w64_eq _ (by omega)]
        omega
theorem integer_is1 {s : List UInt8} (hl : s.length ≤ 90000) (h : (integerS s).2 = true) :
    (-9223372036854775808 ≤ (integerS s).1 ∧ (integerS s).1 ≤ 9223372036854775807) ∧ itoaS (integerS s).1 = s := by
  unfold integerS at h ⊢
  dsimp only at h ⊢
  split at h
  · next h1 =>
    rw [if_pos h1]
    obtain ⟨h1, h2, h3⟩ := h1
    obtain ⟨_, neg, n, h4, _⟩ := gsetstr_good s hl h1
    rw [h4] at h2 h3 ⊢
    have hr := int_range h2
    have hk : ((neg && decide (n ≠ 0)) = false ∧ n < 9223372036854775808) ∨ (neg && decide (n ≠ 0)) = true ∧ 0 < n ∧ n ≤ 9223372036854775808 := by
      by_cases e : n = 0
      · exact .inl ⟨by simp [e], by omega⟩
      · cases neg with
        | false =>
          refine .inl ⟨rfl, ?_⟩
          rcases hr with hr | ⟨hr, _⟩
          · exact hr
          · cases hr
        | true => exact .inr ⟨by simp [e], by omega, by omega⟩
    obtain ⟨c1, c2⟩ := int_core hk
    rw [c1] at h3
    dsimp only
    rw [c2]
    refine ⟨?_, h3⟩
    rcases hk with ⟨e, hk⟩ | ⟨e, hk⟩
    · rw [e]; simp only [Bool.false_eq_true, if_false]; omega
    · rw [e]; simp only [if_true]; omega
  · cases h
theorem blen_le {n k : Nat} (h : n < 2 ^ k) : blen n ≤ k := by
  by_cases h0 : n = 0
  · subst h0; exact Nat.zero_le _
  · have h1 := blen_ge h0
    rcases Nat.lt_or_ge k (blen n) with hc | hc
    · have := Nat.pow_le_pow_right (show 2 > 0 by decide) (show k ≤ blen n - 1 by omega)
      omega
    · exact hc
theorem int_fits {neg : Bool} {n : Nat} (h : neg = false ∧ n < 9223372036854775808 ∨ neg = true ∧ 0 < n ∧ n ≤ 9223372036854775808) : (gisintS ⟨neg, ws n⟩).1 = true := by
  unfold gisintS glengthS gtzS
  simp only [wv_ws]
  by_cases e : n = 9223372036854775808
  · subst e
    rcases h with ⟨_, h⟩ | ⟨rfl, _⟩
    · omega
    · rw [blen_eq (n := 9223372036854775808) (k := 63) (by decide) (by decide)]
      decide +kernel
  · have := blen_le (n := n) (k := 63) (by omega)
    rw [decide_eq_true (by omega)]
    rfl
theorem integer_is2 {v : Int} (h : -9223372036854775808 ≤ v ∧ v ≤ 9223372036854775807) : integerS (itoaS v) = (v, true) := by
  have key : ∀ (neg : Bool) (n : Nat), (neg = false ∧ n < 9223372036854775808 ∨ neg = true ∧ 0 < n ∧ n ≤ 9223372036854775808) → (v = if neg = true then -(n : Int) else n) → gsetstrD ⟨false, []⟩ (itoaS v) = (true, true, ⟨neg, ws n⟩) → integerS (itoaS v) = (v, true) := fun neg n hk hv hg => by
    obtain ⟨c1, c2⟩ := int_core hk
    unfold integerS
    dsimp only
    rw [hg, if_pos ⟨rfl, int_fits hk, by rw [c1, ← hv]⟩]
    dsimp only
    rw [c2, ← hv]
  have hds : ∀ (z : BInt) (neg : Bool) (n : Nat), n < 10 ^ 20 → (neg = true → 0 < n) → dset z neg (digsF 20 n) = (true, true, ⟨neg, ws n⟩) := fun z neg n hn hp => by
    unfold dset
    rw [if_neg (by rw [digs_isD]; simp [digs_ne]), dval_digs 20 n hn]
    unfold ggive
    congr 3
    cases neg with
    | false => rfl
    | true =>
      rw [ws_pos (by have := hp rfl; omega), List.length_cons, decide_eq_true (by omega)]
      rfl
  by_cases hv : v < 0
  · have e : itoaS v = 45 :: digsF 20 v.natAbs := by unfold itoaS; rw [if_pos hv]
    refine key true v.natAbs (.inr ⟨rfl, by omega, by omega⟩) (by rw [if_pos rfl]; omega) ?_
    rw [e, gsetstrD, if_pos (by decide)]
    exact hds _ true _ (by omega) (fun _ => by omega)
  · have e : itoaS v = digsF 20 v.toNat := by unfold itoaS; rw [if_neg hv]
    refine key false v.toNat (.inl ⟨rfl, by omega⟩) (by rw [if_neg (by decide)]; omega) ?_
    rw [e]
    have hds2 := hds ⟨false, []⟩ false v.toNat (by omega) (fun e => by cases e)
    cases hd : digsF 20 v.toNat with
    | nil => exact absurd hd (digs_ne 20 _)
    | cons c r =>
      have hc := digs_all 20 v.toNat c (by rw [hd]; exact List.mem_cons_self)
      rw [gsetstrD, if_neg (by omega), if_neg (by omega), ← hd]
      exact hds2

end Go.Proofs.YtdenmllkjdijlaaGreatDoor
set_option linter.unusedVariables false
set_option linter.unusedSimpArgs false
namespace Go.Proofs.YtdenmllkjdijlaaGreatDoor
open Go.Sy Go.RowKit
def hlower_vc (u0 : Int) (K : Int → Prop) : Prop :=
  (K (bOr .u8 u0 32))
def hlower (u0 : Int) : Int :=
  bOr .u8 u0 32
theorem hlower_ok (u0 : Int) : hlower_vc u0 (fun r => r = hlower u0) := (by rfl)

def hpu_vc (u0 : List UInt8) (K : (Int × Unit) → Prop) : Prop :=
  (((u0 == ([] : List UInt8)) = false) ∧
    ((u0.length ≤ 140737488355328) ∧
    (∃ inv113 : Bool → Int → Int → Prop, ∃ mu113 : Bool → Int → Int → Nat, inv113 false 0 0 ∧
    (∀ (x12 : Bool) (x13 : Int) (x101 : Int), inv113 x12 x13 x101 →
    (((decide (x101 < ((istr u0).length : Int))) = true →
      ((0 ≤ x101 ∧ x101 < ((istr u0).length : Int)) ∧
      (∀ q142, (istr u0)[x101.toNat]? = some q142 →
      ((((q142 == 95) && false) = true →
        (inv113 true x13 (w64 (x101 + 1)) ∧ mu113 true x13 (w64 (x101 + 1)) < mu113 x12 x13 x101)) ∧
      (((q142 == 95) && false) = false →
        ((((decide (48 ≤ q142)) && (decide (q142 ≤ 57))) = true →
          (((decide ((w8 (q142 - 48)) ≥ 16)) = false) ∧
          (((decide (x13 ≥ 1152921504606846976)) = false) ∧
          ((((decide ((wu64 ((wu64 (x13 * 16)) + (wu64 (w8 (q142 - 48))))) < (wu64 (x13 * 16)))) || (decide ((wu64 ((wu64 (x13 * 16)) + (wu64 (w8 (q142 - 48))))) > (wu64 ((bShl .u64 1 64) - 1))))) = false) ∧
          (inv113 x12 (wu64 ((wu64 (x13 * 16)) + (wu64 (w8 (q142 - 48))))) (w64 (x101 + 1)) ∧ mu113 x12 (wu64 ((wu64 (x13 * 16)) + (wu64 (w8 (q142 - 48))))) (w64 (x101 + 1)) < mu113 x12 x13 x101))))) ∧
        (((decide (48 ≤ q142)) && (decide (q142 ≤ 57))) = false →
          ((((decide (97 ≤ (hlower q142))) && (decide ((hlower q142) ≤ 122))) = true) ∧
          (((decide ((w8 ((w8 ((hlower q142) - 97)) + 10)) ≥ 16)) = false) ∧
          (((decide (x13 ≥ 1152921504606846976)) = false) ∧
          ((((decide ((wu64 ((wu64 (x13 * 16)) + (wu64 (w8 ((w8 ((hlower q142) - 97)) + 10))))) < (wu64 (x13 * 16)))) || (decide ((wu64 ((wu64 (x13 * 16)) + (wu64 (w8 ((w8 ((hlower q142) - 97)) + 10))))) > (wu64 ((bShl .u64 1 64) - 1))))) = false) ∧
          (inv113 x12 (wu64 ((wu64 (x13 * 16)) + (wu64 (w8 ((w8 ((hlower q142) - 97)) + 10))))) (w64 (x101 + 1)) ∧ mu113 x12 (wu64 ((wu64 (x13 * 16)) + (wu64 (w8 ((w8 ((hlower q142) - 97)) + 10))))) (w64 (x101 + 1)) < mu113 x12 x13 x101)))))))))))) ∧
    ((decide (x101 < ((istr u0).length : Int))) = false →
      ((x12 = false) ∧
      (K (x13, ())))))))))

/-! Pure proofs: no program in sight. -/
/-! ### Numbers to base 16 -/
def dgtH : List UInt8 := [48, 49, 50, 51, 52, 53, 54, 55, 56, 57, 97, 98, 99, 100, 101, 102]
def isH (c : UInt8) : Bool := dgtH.contains c
def hd (c : UInt8) : Nat := if c.toNat ≤ 57 then c.toNat - 48 else c.toNat - 87
def hval (s : List UInt8) : Nat := s.foldl (fun a c => 16 * a + hd c) 0
theorem hval_snoc (s : List UInt8) (c : UInt8) : hval (s ++ [c]) = 16 * hval s + hd c := by simp [hval, List.foldl_append]
theorem isH_nat : ∀ n : Fin 256, isH (UInt8.ofNat n.val) = decide ((48 ≤ n.val ∧ n.val ≤ 57) ∨ (97 ≤ n.val ∧ n.val ≤ 102)) := by decide +kernel
theorem isH_iff (c : UInt8) : isH c = true ↔ (48 ≤ c.toNat ∧ c.toNat ≤ 57) ∨ (97 ≤ c.toNat ∧ c.toNat ≤ 102) := by
  have h := isH_nat ⟨c.toNat, c.toNat_lt⟩
  simp only [UInt8.ofNat_toNat] at h
  rw [h, decide_eq_true_eq]
theorem hd_lt {c : UInt8} (h : isH c = true) : hd c < 16 := by
  rw [isH_iff] at h
  unfold hd
  split <;> omega
theorem hval_lt : ∀ (k : Nat) (s : List UInt8), s.length = k → (∀ c ∈ s, isH c = true) → hval s < 16 ^ k
  | 0, s, h, _ => by rw [List.eq_nil_of_length_eq_zero h]; decide
  | k + 1, s, h, hd => by
    have hne : s ≠ [] := by intro e; rw [e] at h; cases h
    have e := List.dropLast_concat_getLast hne
    generalize s.dropLast = a at e
    generalize s.getLast hne = c at e
    subst e
    have ih := hval_lt k a (by simpa using h) fun c hc => hd c (List.mem_append_left _ hc)
    have hc := hd_lt (hd c (by simp))
    rw [hval_snoc, Nat.pow_succ]
    omega
theorem hlow_nat : ∀ n : Fin 256, 97 ≤ n.val → n.val ≤ 102 → bOr .u8 (n.val : Int) 32 = (n.val : Int) := by decide +kernel
theorem hlow_is {c : UInt8} (h : 97 ≤ c.toNat ∧ c.toNat ≤ 102) : hlower (c.toNat : Int) = (c.toNat : Int) := hlow_nat ⟨c.toNat, c.toNat_lt⟩ h.1 h.2
def hpuS (s : List UInt8) : Int × Unit := ((hval s : Nat), ())
theorem hpu_ok (s : List UInt8) (h : s ≠ [] ∧ s.length ≤ 8 ∧ s.all isH = true) : hpu_vc s (fun r => r = hpuS s) := by
  obtain ⟨hne, hl, ha⟩ := h
  have ha := List.all_eq_true.1 ha
  have hil : (istr s).length = s.length := by unfold istr; rw [List.length_map]
  refine ⟨by cases s with
    | nil => exact absurd rfl hne
    | cons c r => rfl, by omega, fun b x i => ∃ k : Nat, i = k ∧ k ≤ s.length ∧ b = false ∧ x = ((hval (s.take k) : Nat) : Int), fun _ _ i => s.length - i.toNat, ⟨0, rfl, by omega, rfl, rfl⟩, ?_⟩
  rintro _ _ _ ⟨k, rfl, hk, rfl, rfl⟩
  rw [hil]
  refine ⟨fun h1 => ?_, fun h1 => ?_⟩
  · have hks : k < s.length := by have := of_decide_eq_true h1; omega
    refine ⟨by omega, fun q hq => ?_⟩
    rw [Int.toNat_natCast] at hq
    unfold istr at hq
    rw [List.getElem?_map, Option.map_eq_some_iff] at hq
    obtain ⟨c, hc, rfl⟩ := hq
    have hH := ha c (List.mem_of_getElem? hc)
    have hlt := hval_lt k (s.take k) (by rw [List.length_take]; omega) fun x hx => ha x (List.mem_of_mem_take hx)
    have hp : (16 : Nat) ^ k ≤ 16 ^ 7 := Nat.pow_le_pow_right (by decide) (by omega)
    have e16 : (16 : Nat) ^ 7 = 268435456 := by decide
    have hdl := hd_lt hH
    have hsn := hval_snoc (s.take k) c
    rw [← take_next s k c hc] at hsn
    have hnext : w64 ((k : Int) + 1) = ((k + 1 : Nat) : Int) := w64_succ k (by omega)
    generalize hval (s.take k) = v at *
    have hmul : wu64 ((v : Int) * 16) = ((16 * v : Nat) : Int) := by rw [wu64_eq _ (by omega)]; omega
    have e64 : wu64 (bShl .u64 1 64 - 1) = 18446744073709551615 := by decide +kernel
    have hstep : ∀ d : Int, d = ((hd c : Nat) : Int) → ((decide (w8 d ≥ 16)) = false) ∧ ((decide ((v : Int) ≥ 1152921504606846976)) = false) ∧ ((((decide ((wu64 ((wu64 ((v : Int) * 16)) + (wu64 (w8 d)))) < (wu64 ((v : Int) * 16)))) || (decide ((wu64 ((wu64 ((v : Int) * 16)) + (wu64 (w8 d)))) > (wu64 ((bShl .u64 1 64) - 1))))) = false)) ∧ (wu64 ((wu64 ((v : Int) * 16)) + (wu64 (w8 d)))) = ((hval (s.take (k + 1)) : Nat) : Int) := by
      rintro _ rfl
      rw [w8_eq _ (by omega), wu64_eq ((hd c : Nat) : Int) (by omega), hmul, wu64_eq _ (by omega), e64]
      refine ⟨decide_eq_false (by omega), decide_eq_false (by omega), ?_, by omega⟩
      rw [decide_eq_false (by omega), decide_eq_false (by omega)]
      rfl
    refine ⟨fun h2 => ?_, fun _ => ?_⟩
    · rw [Bool.and_false] at h2
      cases h2
    · rcases (isH_iff c).1 hH with hr | hr
      · have ed : ((c.toNat : Int) - 48) = ((hd c : Nat) : Int) := by unfold hd; rw [if_pos (by omega)]; omega
        obtain ⟨s1, s2, s3, s4⟩ := hstep _ ed
        refine ⟨fun _ => ⟨s1, s2, s3, ?_⟩, fun h3 => ?_⟩
        · rw [s4, hnext]
          exact ⟨⟨k + 1, rfl, by omega, rfl, rfl⟩, by dsimp only; omega⟩
        · exfalso
          rw [decide_eq_true (by omega), decide_eq_true (by omega)] at h3
          cases h3
      · have ed : w8 ((c.toNat : Int) - 97) + 10 = ((hd c : Nat) : Int) := by
          rw [w8_eq _ (by omega)]
          unfold hd; rw [if_neg (by omega)]; omega
        refine ⟨fun h3 => ?_, fun _ => ?_⟩
        · exfalso
          have : decide ((c.toNat : Int) ≤ 57) = false := decide_eq_false (by omega)
          rw [this, Bool.and_false] at h3
          cases h3
        · rw [hlow_is hr]
          obtain ⟨s1, s2, s3, s4⟩ := hstep _ ed
          refine ⟨by rw [decide_eq_true (by omega), decide_eq_true (by omega)]; rfl, s1, s2, s3, ?_⟩
          rw [s4, hnext]
          exact ⟨⟨k + 1, rfl, by omega, rfl, rfl⟩, by dsimp only; omega⟩
  · have : k = s.length := by have := of_decide_eq_false h1; omega
    subst this
    rw [List.take_length]
    exact ⟨rfl, rfl⟩

end Go.Proofs.YtdenmllkjdijlaaGreatDoor
set_option linter.unusedVariables false
set_option linter.unusedSimpArgs false
namespace Go.Proofs.YtdenmllkjdijlaaGreatDoor
open Go.Sy Go.RowKit
def hpi_vc (u0 : List UInt8) (K : (Int × Unit) → Prop) : Prop :=
  (((u0 == ([] : List UInt8)) = false) ∧
    ((0 ≤ (0 : Int) ∧ (0 : Int) < (u0.length : Int)) ∧
    (∀ c22, u0[(0 : Int).toNat]? = some c22 →
    ((((c22.toNat : Int) == 43) = false) ∧
    ((((c22.toNat : Int) == 45) = false) ∧
    ((u0 ≠ [] ∧ u0.length ≤ 8 ∧ u0.all isH = true) ∧
    (((decide ((hpuS u0).1 ≥ (bShl .u64 1 63))) = false) ∧
    (K (w64 (hpuS u0).1, ())))))))))

/-! Pure proofs: no program in sight. -/
theorem hpi_ok (s : List UInt8) (h : s ≠ [] ∧ s.length ≤ 8 ∧ s.all isH = true) : hpi_vc s (fun r => r = hpuS s) := by
  have ⟨hne, hl, ha⟩ := h
  have ha2 := List.all_eq_true.1 ha
  cases s with
  | nil => exact absurd rfl hne
  | cons c r =>
    have hv := hval_lt _ (c :: r) rfl ha2
    have hp : (16 : Nat) ^ (c :: r).length ≤ 16 ^ 8 := Nat.pow_le_pow_right (by decide) hl
    have e16 : (16 : Nat) ^ 8 = 4294967296 := by decide
    have hc := (isH_iff c).1 (ha2 c List.mem_cons_self)
    refine ⟨rfl, ⟨by omega, by rw [List.length_cons]; omega⟩, fun d hd => ?_⟩
    have : c = d := by simpa using hd
    subst this
    have e63 : bShl .u64 1 63 = 9223372036854775808 := by decide +kernel
    unfold hpuS
    rw [e63]
    refine ⟨beq_eq_false_iff_ne.2 (by omega), beq_eq_false_iff_ne.2 (by omega), h, decide_eq_false (by dsimp only; omega), ?_⟩
    rw [w64_eq _ (by dsimp only; omega)]

end Go.Proofs.YtdenmllkjdijlaaGreatDoor
set_option linter.unusedVariables false
set_option linter.unusedSimpArgs false
namespace Go.Proofs.YtdenmllkjdijlaaGreatDoor
open Go.Sy Go.RowKit
def hsi_vc (u0 : List UInt8) (K : (Int × Unit) → Prop) : Prop :=
  ((u0 ≠ [] ∧ u0.length ≤ 8 ∧ u0.all isH = true) ∧
    (K ((hpuS u0).1, ())))

/-! Pure proofs: no program in sight. -/
theorem hsi_ok (s : List UInt8) (h : s ≠ [] ∧ s.length ≤ 8 ∧ s.all isH = true) : hsi_vc s (fun r => r = hpuS s) := ⟨h, rfl⟩
theorem trim_all (b cs : List UInt8) : trimS b cs = [] ↔ b.all (fun x => cs.contains x) = true := by
  unfold trimS
  rw [dropWhile_nil]
  constructor
  · intro h
    have h1 : ∀ l : List UInt8, (l.dropWhile (fun x => cs.contains x)).all (fun x => cs.contains x) = true → l.all (fun x => cs.contains x) = true := by
      intro l
      induction l with
      | nil => exact fun h => h
      | cons x l ih =>
        rw [List.dropWhile_cons]
        split
        · rename_i hx
          intro h
          rw [List.all_cons, ih h, hx]
          rfl
        · exact fun h => h
    rw [List.all_reverse] at h
    have := h1 _ h
    rwa [List.all_reverse] at this
  · intro h
    rw [List.all_eq_true] at h ⊢
    intro x hx
    have hx := List.dropWhile_sublist _ |>.subset (List.mem_reverse.1 hx)
    exact h x (List.mem_reverse.1 hx)
/-- The number that a text of hexadecimal digits is; false: it isn't one. -/
def lhexS (s : List UInt8) : Int × Bool := if s.all isH = true then ((hval s : Nat), true) else (0, false)

end Go.Proofs.YtdenmllkjdijlaaGreatDoor
set_option linter.unusedVariables false
set_option linter.unusedSimpArgs false
namespace Go.Proofs.YtdenmllkjdijlaaGreatDoor
open Go.Sy Go.RowKit
def lhex_vc (u0 : List UInt8) (K : (Int × Bool) → Prop) : Prop :=
  ((u0.length ≤ 9223372036854775807 ∧ ([48, 49, 50, 51, 52, 53, 54, 55, 56, 57, 97, 98, 99, 100, 101, 102] : List UInt8).length < 4294967281 ∧ ([48, 49, 50, 51, 52, 53, 54, 55, 56, 57, 97, 98, 99, 100, 101, 102] : List UInt8).all (fun b => decide (b.toNat < 128)) = true) ∧
    (((((trimS u0 ([48, 49, 50, 51, 52, 53, 54, 55, 56, 57, 97, 98, 99, 100, 101, 102] : List UInt8)) != ([] : List UInt8)) || (u0 == ([] : List UInt8))) = true →
      (K (0, u0 == ([] : List UInt8)))) ∧
    ((((trimS u0 ([48, 49, 50, 51, 52, 53, 54, 55, 56, 57, 97, 98, 99, 100, 101, 102] : List UInt8)) != ([] : List UInt8)) || (u0 == ([] : List UInt8))) = false →
      ((u0 ≠ [] ∧ u0.length ≤ 8 ∧ u0.all isH = true) ∧
      (K ((hpuS u0).1, true))))))

/-! Pure proofs: no program in sight. -/
theorem lhex_ok (s : List UInt8) (hl : s.length ≤ 8) : lhex_vc s (fun r => r = lhexS s) := by
  have hd : ∀ b : List UInt8, b.all (fun x => dgtH.contains x) = b.all isH := fun b => rfl
  refine ⟨⟨by omega, by decide, by decide +kernel⟩, fun h1 => ?_, fun h1 => ?_⟩
  · unfold lhexS
    cases s with
    | nil => rfl
    | cons c r =>
      rw [if_neg]
      · rfl
      · intro ha
        have h2 := (trim_all (c :: r) dgtH).2 (by rw [hd]; exact ha)
        have h3 : ((trimS (c :: r) dgtH != []) || ((c :: r : List UInt8) == [])) = true := h1
        rw [h2] at h3
        cases h3
  · have h3 : ((trimS s dgtH != []) || ((s : List UInt8) == [])) = false := h1
    rw [Bool.or_eq_false_iff] at h3
    have h4 : trimS s dgtH = [] := by simpa only [bne_eq_false_iff_eq] using h3.1
    have h5 := (trim_all s dgtH).1 h4
    rw [hd] at h5
    refine ⟨⟨by simpa using h3.2, hl, h5⟩, ?_⟩
    unfold lhexS
    rw [if_pos h5]
    rfl

end Go.Proofs.YtdenmllkjdijlaaGreatDoor
set_option linter.unusedVariables false
set_option linter.unusedSimpArgs false
namespace Go.Proofs.YtdenmllkjdijlaaGreatDoor
open Go.Sy Go.RowKit
def cut0_vc (u0 : List UInt8) (u1 : List UInt8) (K : ((List UInt8) × (List UInt8) × Bool) → Prop) : Prop :=
  ((u1.length = 1) ∧
    (((decide ((index1S u0 u1) ≥ 0)) = true →
      ((0 ≤ (index1S u0 u1) ∧ (index1S u0 u1) ≤ (u0.length : Int)) ∧
      ((0 ≤ w64 ((index1S u0 u1) + (u1.length : Int)) ∧ w64 ((index1S u0 u1) + (u1.length : Int)) ≤ (u0.length : Int)) ∧
      (K (u0.take (index1S u0 u1).toNat, u0.drop (w64 ((index1S u0 u1) + (u1.length : Int))).toNat, true))))) ∧
    ((decide ((index1S u0 u1) ≥ 0)) = false →
      (K (u0, [], false)))))

def lineof_vc (u0 : List UInt8) (K : (Line × Bool) → Prop) : Prop :=
  ((u0.length ≤ 1000000 ∧ ([32] : List UInt8).length = 1) ∧
    ((splitS u0 ([32] : List UInt8)).length ≤ 140737488355328 →
    (((((splitS u0 ([32] : List UInt8)).length : Int) != 3) = true →
      (K ((⟨0, 0, (⟨0, false, false, false, 0, []⟩ : Frame)⟩ : Line), false))) ∧
    ((((splitS u0 ([32] : List UInt8)).length : Int) != 3) = false →
      ((0 ≤ (0 : Int) ∧ (0 : Int) < ((splitS u0 ([32] : List UInt8)).length : Int)) ∧
      (∀ q64, (splitS u0 ([32] : List UInt8))[(0 : Int).toNat]? = some q64 →
      ((q64.length ≤ 90000) ∧
      ((0 ≤ (1 : Int) ∧ (1 : Int) < ((splitS u0 ([32] : List UInt8)).length : Int)) ∧
      (∀ q100, (splitS u0 ([32] : List UInt8))[(1 : Int).toNat]? = some q100 →
      ((q100.length ≤ 90000) ∧
      ((((((!(integerS q64).2) || (!(integerS q100).2)) || (decide ((integerS q64).1 < 0))) || (decide ((integerS q100).1 < 0))) = true →
        (K ((⟨(integerS q64).1, (integerS q100).1, (⟨0, false, false, false, 0, []⟩ : Frame)⟩ : Line), false))) ∧
      (((((!(integerS q64).2) || (!(integerS q100).2)) || (decide ((integerS q64).1 < 0))) || (decide ((integerS q100).1 < 0))) = false →
        ((0 ≤ (2 : Int) ∧ (2 : Int) < ((splitS u0 ([32] : List UInt8)).length : Int)) ∧
        (∀ q186, (splitS u0 ([32] : List UInt8))[(2 : Int).toNat]? = some q186 →
        ((q186.length < 4294967281 ∧ ([35, 63] : List UInt8).length = 2 ∧ ([35, 63] : List UInt8).all (fun b => decide (b.toNat < 128)) = true) ∧
        (((((Lib.indexAny q186 ([35, 63] : List UInt8)) != 3) && ((Lib.indexAny q186 ([35, 63] : List UInt8)) != 8)) = true →
          (K ((⟨(integerS q64).1, (integerS q100).1, (⟨0, false, false, false, 0, []⟩ : Frame)⟩ : Line), false))) ∧
        ((((Lib.indexAny q186 ([35, 63] : List UInt8)) != 3) && ((Lib.indexAny q186 ([35, 63] : List UInt8)) != 8)) = false →
          ((0 ≤ (2 : Int) ∧ (2 : Int) < ((splitS u0 ([32] : List UInt8)).length : Int)) ∧
          (∀ q251, (splitS u0 ([32] : List UInt8))[(2 : Int).toNat]? = some q251 →
          ((0 ≤ (Lib.indexAny q186 ([35, 63] : List UInt8)) ∧ (Lib.indexAny q186 ([35, 63] : List UInt8)) ≤ (q251.length : Int)) ∧
          (((q251.take (Lib.indexAny q186 ([35, 63] : List UInt8)).toNat).length ≤ 8) ∧
          (((!(lhexS (q251.take (Lib.indexAny q186 ([35, 63] : List UInt8)).toNat)).2) = true →
            (K ((⟨(integerS q64).1, (integerS q100).1, (⟨(lhexS (q251.take (Lib.indexAny q186 ([35, 63] : List UInt8)).toNat)).1, (Lib.indexAny q186 ([35, 63] : List UInt8)) == 8, false, false, 0, []⟩ : Frame)⟩ : Line), false))) ∧
          ((!(lhexS (q251.take (Lib.indexAny q186 ([35, 63] : List UInt8)).toNat)).2) = false →
            ((0 ≤ (2 : Int) ∧ (2 : Int) < ((splitS u0 ([32] : List UInt8)).length : Int)) ∧
            (∀ q311, (splitS u0 ([32] : List UInt8))[(2 : Int).toNat]? = some q311 →
            ((0 ≤ w64 ((Lib.indexAny q186 ([35, 63] : List UInt8)) + 1) ∧ w64 ((Lib.indexAny q186 ([35, 63] : List UInt8)) + 1) ≤ (q311.length : Int)) ∧
            ((0 ≤ (2 : Int) ∧ (2 : Int) < ((splitS u0 ([32] : List UInt8)).length : Int)) ∧
            (∀ q338, (splitS u0 ([32] : List UInt8))[(2 : Int).toNat]? = some q338 →
            ((0 ≤ (Lib.indexAny q186 ([35, 63] : List UInt8)) ∧ (Lib.indexAny q186 ([35, 63] : List UInt8)) < (q338.length : Int)) ∧
            (∀ c350, q338[(Lib.indexAny q186 ([35, 63] : List UInt8)).toNat]? = some c350 →
            ((((c350.toNat : Int) == 63) = true →
              (((q311.drop (w64 ((Lib.indexAny q186 ([35, 63] : List UInt8)) + 1)).toNat).length ≤ 90000) ∧
              (K ((⟨(integerS q64).1, (integerS q100).1, (⟨(lhexS (q251.take (Lib.indexAny q186 ([35, 63] : List UInt8)).toNat)).1, (Lib.indexAny q186 ([35, 63] : List UInt8)) == 8, false, true, (integerS (q311.drop (w64 ((Lib.indexAny q186 ([35, 63] : List UInt8)) + 1)).toNat)).1, []⟩ : Frame)⟩ : Line), (integerS (q311.drop (w64 ((Lib.indexAny q186 ([35, 63] : List UInt8)) + 1)).toNat)).2 && (decide ((integerS (q311.drop (w64 ((Lib.indexAny q186 ([35, 63] : List UInt8)) + 1)).toNat)).1 ≥ 0)))))) ∧
            (((c350.toNat : Int) == 63) = false →
              (((hasp (q311.drop (w64 ((Lib.indexAny q186 ([35, 63] : List UInt8)) + 1)).toNat) ([35] : List UInt8)) = true →
                ((0 ≤ (1 : Int) ∧ (1 : Int) ≤ ((q311.drop (w64 ((Lib.indexAny q186 ([35, 63] : List UInt8)) + 1)).toNat).length : Int)) ∧
                (∃ inv455 : (List UInt8) → Line → Prop,
                (∃ inv482 : (List UInt8) → Line → Prop, ∃ mu482 : (List UInt8) → Line → Nat, inv482 ((q311.drop (w64 ((Lib.indexAny q186 ([35, 63] : List UInt8)) + 1)).toNat).drop (1 : Int).toNat) (⟨(integerS q64).1, (integerS q100).1, (⟨(lhexS (q251.take (Lib.indexAny q186 ([35, 63] : List UInt8)).toNat)).1, (Lib.indexAny q186 ([35, 63] : List UInt8)) == 8, (hasp (q311.drop (w64 ((Lib.indexAny q186 ([35, 63] : List UInt8)) + 1)).toNat) ([35] : List UInt8)), false, 0, ([] : List Int)⟩ : Frame)⟩ : Line) ∧
                (∀ (x10v : List UInt8) (yb10v : Line), inv482 x10v yb10v →
                (((decide ((x10v.length : Int) ≥ 2)) = true →
                  ((0 ≤ (2 : Int) ∧ (2 : Int) ≤ (x10v.length : Int)) ∧
                  (((x10v.take (2 : Int).toNat).length ≤ 8) ∧
                  (((!(lhexS (x10v.take (2 : Int).toNat)).2) = true →
                    (K (yb10v, false))) ∧
                  ((!(lhexS (x10v.take (2 : Int).toNat)).2) = false →
                    (((yb10v.F.Data.length + 1) * 1 ≤ 140737488355328) ∧
                    ((0 ≤ (2 : Int) ∧ (2 : Int) ≤ (x10v.length : Int)) ∧
                    (inv482 (x10v.drop (2 : Int).toNat) (⟨yb10v.Time, yb10v.Bus, (⟨yb10v.F.ID, yb10v.F.Long, yb10v.F.Fast, yb10v.F.Remote, yb10v.F.Size, yb10v.F.Data ++ [w8 (lhexS (x10v.take (2 : Int).toNat)).1]⟩ : Frame)⟩ : Line) ∧ mu482 (x10v.drop (2 : Int).toNat) (⟨yb10v.Time, yb10v.Bus, (⟨yb10v.F.ID, yb10v.F.Long, yb10v.F.Fast, yb10v.F.Remote, yb10v.F.Size, yb10v.F.Data ++ [w8 (lhexS (x10v.take (2 : Int).toNat)).1]⟩ : Frame)⟩ : Line) < mu482 x10v yb10v)))))))) ∧
                ((decide ((x10v.length : Int) ≥ 2)) = false →
                  (inv455 x10v yb10v))))) ∧
                (∀ (x10 : List UInt8) (yb10 : Line), inv455 x10 yb10 →
                  (K (yb10, x10 == ([] : List UInt8))))))) ∧
              ((hasp (q311.drop (w64 ((Lib.indexAny q186 ([35, 63] : List UInt8)) + 1)).toNat) ([35] : List UInt8)) = false →
                (∃ inv680 : (List UInt8) → Line → Prop,
                (∃ inv707 : (List UInt8) → Line → Prop, ∃ mu707 : (List UInt8) → Line → Nat, inv707 (q311.drop (w64 ((Lib.indexAny q186 ([35, 63] : List UInt8)) + 1)).toNat) (⟨(integerS q64).1, (integerS q100).1, (⟨(lhexS (q251.take (Lib.indexAny q186 ([35, 63] : List UInt8)).toNat)).1, (Lib.indexAny q186 ([35, 63] : List UInt8)) == 8, (hasp (q311.drop (w64 ((Lib.indexAny q186 ([35, 63] : List UInt8)) + 1)).toNat) ([35] : List UInt8)), false, 0, ([] : List Int)⟩ : Frame)⟩ : Line) ∧
                (∀ (x10v : List UInt8) (yb10v : Line), inv707 x10v yb10v →
                (((decide ((x10v.length : Int) ≥ 2)) = true →
                  ((0 ≤ (2 : Int) ∧ (2 : Int) ≤ (x10v.length : Int)) ∧
                  (((x10v.take (2 : Int).toNat).length ≤ 8) ∧
                  (((!(lhexS (x10v.take (2 : Int).toNat)).2) = true →
                    (K (yb10v, false))) ∧
                  ((!(lhexS (x10v.take (2 : Int).toNat)).2) = false →
                    (((yb10v.F.Data.length + 1) * 1 ≤ 140737488355328) ∧
                    ((0 ≤ (2 : Int) ∧ (2 : Int) ≤ (x10v.length : Int)) ∧
                    (inv707 (x10v.drop (2 : Int).toNat) (⟨yb10v.Time, yb10v.Bus, (⟨yb10v.F.ID, yb10v.F.Long, yb10v.F.Fast, yb10v.F.Remote, yb10v.F.Size, yb10v.F.Data ++ [w8 (lhexS (x10v.take (2 : Int).toNat)).1]⟩ : Frame)⟩ : Line) ∧ mu707 (x10v.drop (2 : Int).toNat) (⟨yb10v.Time, yb10v.Bus, (⟨yb10v.F.ID, yb10v.F.Long, yb10v.F.Fast, yb10v.F.Remote, yb10v.F.Size, yb10v.F.Data ++ [w8 (lhexS (x10v.take (2 : Int).toNat)).1]⟩ : Frame)⟩ : Line) < mu707 x10v yb10v)))))))) ∧
                ((decide ((x10v.length : Int) ≥ 2)) = false →
                  (inv680 x10v yb10v))))) ∧
                (∀ (x10 : List UInt8) (yb10 : Line), inv680 x10 yb10 →
                  (K (yb10, x10 == ([] : List UInt8)))))))))))))))))))))))))))))))))))))))

/-! Pure proofs: no program in sight. -/
/-! ### Cut at one byte -/
def cutN (l p : List UInt8) : List UInt8 × List UInt8 × Bool :=
  match p with
  | [c] => if 0 ≤ Lib.indexByte l c then (l.take (Lib.indexByte l c).toNat, l.drop ((Lib.indexByte l c).toNat + 1), true) else (l, [], false)
  | _ => (l, [], false)
theorem idxB_facts (c : UInt8) : ∀ l : List UInt8, -1 ≤ Lib.indexByte l c ∧ Lib.indexByte l c < (l.length : Int) ∧
    (0 ≤ Lib.indexByte l c → splitA c l = l.take (Lib.indexByte l c).toNat :: splitA c (l.drop ((Lib.indexByte l c).toNat + 1))) ∧ (¬ 0 ≤ Lib.indexByte l c → splitA c l = [l])
  | [] => by
    have e : Lib.indexByte [] c = -1 := rfl
    rw [e]
    exact ⟨by decide, by simp, fun h => absurd h (by decide), fun _ => rfl⟩
  | b :: r => by
    obtain ⟨h1, h2, h3, h4⟩ := idxB_facts c r
    rw [Lib.indexByte, splitA, List.length_cons]
    by_cases hb : (b == c) = true
    · rw [if_pos hb, if_pos hb]
      exact ⟨by omega, by omega, fun _ => rfl, fun h => absurd (Int.le_refl 0) h⟩
    · rw [if_neg hb, if_neg hb]
      by_cases hm : Lib.indexByte r c = -1
      · rw [if_pos (by rw [hm]; rfl)]
        refine ⟨by omega, by omega, fun h => absurd h (by decide), fun _ => ?_⟩
        rw [h4 (by rw [hm]; decide)]
      · rw [if_neg (by simpa using hm)]
        refine ⟨by omega, by omega, fun _ => ?_, fun h => absurd (by omega) h⟩
        have e : (Lib.indexByte r c + 1).toNat = (Lib.indexByte r c).toNat + 1 := by omega
        rw [h3 (by omega), e]
        rfl
theorem cut0_ok (l p : List UInt8) (h : l.length ≤ 1000000 ∧ p.length = 1) : cut0_vc l p (fun r => r = cutN l p) := by
  obtain ⟨hl, h⟩ := h
  match p, h with
  | [c], _ =>
    obtain ⟨h1, h2, _, _⟩ := idxB_facts c l
    have ec : cutN l [c] = if 0 ≤ Lib.indexByte l c then (l.take (Lib.indexByte l c).toNat, l.drop ((Lib.indexByte l c).toNat + 1), true) else (l, [], false) := rfl
    have ei : index1S l [c] = Lib.indexByte l c := rfl
    have e : 0 ≤ Lib.indexByte l c → w64 (Lib.indexByte l c + (([c] : List UInt8).length : Int)) = Lib.indexByte l c + 1 := fun h3 => w64_eq _ (by simp only [List.length_singleton]; omega)
    refine ⟨rfl, fun h3 => ?_, fun h3 => ?_⟩
    · have h3 : 0 ≤ Lib.indexByte l c := of_decide_eq_true h3
      rw [ei, e h3]
      refine ⟨⟨h3, by omega⟩, by omega, ?_⟩
      rw [ec, if_pos h3, show (Lib.indexByte l c + 1).toNat = (Lib.indexByte l c).toNat + 1 by omega]
    · have h3 : ¬ 0 ≤ Lib.indexByte l c := of_decide_eq_false h3
      show (l, [], false) = _
      rw [ec, if_neg h3]
/-! ### The document's line -/
def pairsF (y : Line) : List UInt8 → Line × Bool
  | a :: b :: r => if (lhexS [a, b]).2 = true then pairsF (addB y (w8 (lhexS [a, b]).1)) r else (y, false)
  | l => (y, l == [])
theorem pairs_loop (d : List UInt8) (hd : d.length ≤ 1000000) (y0 : Line) (hy0 : y0.F.Data = []) (K : Line × Bool → Prop) (hK : K (pairsF y0 d)) :
    (∃ inv457 : (List UInt8) → Line → Prop,
                (∃ inv484 : (List UInt8) → Line → Prop, ∃ mu484 : (List UInt8) → Line → Nat, inv484 d y0 ∧
                (∀ (x10v : List UInt8) (yb10v : Line), inv484 x10v yb10v →
                (((decide ((x10v.length : Int) ≥ 2)) = true →
                  ((0 ≤ (2 : Int) ∧ (2 : Int) ≤ (x10v.length : Int)) ∧
                  (((x10v.take (2 : Int).toNat).length ≤ 8) ∧
                  (((!(lhexS (x10v.take (2 : Int).toNat)).2) = true →
                    (K (yb10v, false))) ∧
                  ((!(lhexS (x10v.take (2 : Int).toNat)).2) = false →
                    (((yb10v.F.Data.length + 1) * 1 ≤ 140737488355328) ∧
                    ((0 ≤ (2 : Int) ∧ (2 : Int) ≤ (x10v.length : Int)) ∧
                    (inv484 (x10v.drop (2 : Int).toNat) (⟨yb10v.Time, yb10v.Bus, (⟨yb10v.F.ID, yb10v.F.Long, yb10v.F.Fast, yb10v.F.Remote, yb10v.F.Size, yb10v.F.Data ++ [w8 (lhexS (x10v.take (2 : Int).toNat)).1]⟩ : Frame)⟩ : Line) ∧ mu484 (x10v.drop (2 : Int).toNat) (⟨yb10v.Time, yb10v.Bus, (⟨yb10v.F.ID, yb10v.F.Long, yb10v.F.Fast, yb10v.F.Remote, yb10v.F.Size, yb10v.F.Data ++ [w8 (lhexS (x10v.take (2 : Int).toNat)).1]⟩ : Frame)⟩ : Line) < mu484 x10v yb10v)))))))) ∧
                ((decide ((x10v.length : Int) ≥ 2)) = false →
                  (inv457 x10v yb10v))))) ∧
                (∀ (x10 : List UInt8) (yb10 : Line), inv457 x10 yb10 →
                  (K (yb10, x10 == ([] : List UInt8))))) := by
  refine ⟨fun x y => x.length < 2 ∧ pairsF y x = pairsF y0 d, ⟨fun x y => pairsF y x = pairsF y0 d ∧ x.length + y.F.Data.length ≤ 1000000, fun x _ => x.length, ⟨rfl, by rw [hy0]; simpa using hd⟩, ?_⟩, ?_⟩
  · rintro x y ⟨hp, hl⟩
    refine ⟨fun h1 => ?_, fun h1 => ⟨by have := of_decide_eq_false h1; omega, hp⟩⟩
    have h1 := of_decide_eq_true h1
    match x, h1, hp, hl with
    | [], h1, _, _ => simp at h1
    | [_], h1, _, _ => simp at h1
    | a :: b :: r, h1, hp, hl =>
      have et : (a :: b :: r).take (2 : Int).toNat = [a, b] := rfl
      have ed : (a :: b :: r).drop (2 : Int).toNat = r := rfl
      rw [et, ed]
      rw [pairsF] at hp
      simp only [List.length_cons] at hl
      refine ⟨⟨by decide, h1⟩, by show 2 ≤ 8; decide, fun h2 => ?_, fun h2 => ⟨by omega, ⟨by decide, h1⟩, ⟨?_, ?_⟩, ?_⟩⟩
      · rw [if_neg (by intro h3; rw [h3] at h2; cases h2)] at hp
        rw [hp]; exact hK
      · rw [if_pos (by simpa using h2)] at hp
        exact hp
      · simp only [List.length_append, List.length_singleton]; omega
      · simp only [List.length_cons]; omega
  · rintro x y ⟨h1, hp⟩
    match x, h1, hp with
    | [], _, hp => rw [pairsF] at hp <;> first | (rw [hp]; exact hK) | (intros; simp_all)
    | [a], _, hp => rw [pairsF] at hp <;> first | (rw [hp]; exact hK) | (intros; simp_all)
    | _ :: _ :: _, h1, _ => simp at h1; omega
def lineofS (u0 : List UInt8) : Line × Bool :=
  match splitA 32 u0 with
  | [w0, w1, w2] =>
    if (((((!(integerS w0).2) || (!(integerS w1).2)) || (decide ((integerS w0).1 < 0))) || (decide ((integerS w1).1 < 0))) = true) then (⟨(integerS w0).1, (integerS w1).1, ⟨0, false, false, false, 0, []⟩⟩, false) else
    let k := Lib.indexAny w2 [35, 63]
    if k ≠ 3 ∧ k ≠ 8 then (⟨(integerS w0).1, (integerS w1).1, ⟨0, false, false, false, 0, []⟩⟩, false) else
    let h := lhexS (w2.take k.toNat)
    if (!h.2) = true then (⟨(integerS w0).1, (integerS w1).1, ⟨h.1, k == 8, false, false, 0, []⟩⟩, false) else
    let rest := w2.drop (k.toNat + 1)
    if w2[k.toNat]? = some 63 then (⟨(integerS w0).1, (integerS w1).1, ⟨h.1, k == 8, false, true, (integerS rest).1, []⟩⟩, (integerS rest).2 && decide ((integerS rest).1 ≥ 0)) else
    if hasp rest [35] = true then pairsF ⟨(integerS w0).1, (integerS w1).1, ⟨h.1, k == 8, true, false, 0, []⟩⟩ (rest.drop 1) else pairsF ⟨(integerS w0).1, (integerS w1).1, ⟨h.1, k == 8, false, false, 0, []⟩⟩ rest
  | _ => (zeroL, false)
theorem lineof_ok (l : List UInt8) (hl : l.length ≤ 40000) : lineof_vc l (fun r => r = lineofS l) := by
  refine ⟨⟨by omega, rfl⟩, ?_⟩
  have e : splitS l ([32] : List UInt8) = splitA 32 l := rfl
  rw [e]
  intro _
  refine ⟨fun h1 => ?_, fun h1 => ?_⟩
  · have h1 : (splitA 32 l).length ≠ 3 := by have : ((splitA 32 l).length : Int) ≠ 3 := by simpa using h1
                                             omega
    unfold lineofS
    split
    · next w0 w1 w2 hw => rw [hw] at h1; exact absurd rfl h1
    · rfl
  · have h1 : (splitA 32 l).length = 3 := by
      have : ((splitA 32 l).length : Int) = 3 := by simpa using h1
      omega
    obtain ⟨w0, w1, w2, hw⟩ : ∃ w0 w1 w2, splitA 32 l = [w0, w1, w2] := by
      match hs : splitA 32 l with
      | [a, b, c] => exact ⟨a, b, c, rfl⟩
      | [] => rw [hs] at h1; simp at h1
      | [_] => rw [hs] at h1; simp at h1
      | [_, _] => rw [hs] at h1; simp at h1
      | _ :: _ :: _ :: _ :: _ => rw [hs] at h1; simp at h1
    have l0 := split_mem_len 32 l w0 (by rw [hw]; simp)
    have l1 := split_mem_len 32 l w1 (by rw [hw]; simp)
    have l2 := split_mem_len 32 l w2 (by rw [hw]; simp)
    have hL : lineofS l = lineofS l := rfl
    conv at hL => rhs; unfold lineofS
    rw [hw] at hL ⊢
    simp only at hL
    refine ⟨by simp, ?_⟩
    rintro _ ⟨⟩
    refine ⟨by omega, by simp, ?_⟩
    rintro _ ⟨⟩
    refine ⟨by omega, fun h2 => ?_, fun h2 => ?_⟩
    · rw [if_pos h2] at hL
      exact hL.symm
    rw [if_neg (by rw [h2]; decide)] at hL
    refine ⟨by simp, ?_⟩
    rintro _ ⟨⟩
    have hk := indexAny_le [35, 63] w2
    refine ⟨⟨by omega, rfl, by decide⟩, fun h3 => ?_, fun h3 => ?_⟩
    · have h3 : Lib.indexAny w2 [35, 63] ≠ 3 ∧ Lib.indexAny w2 [35, 63] ≠ 8 := by simpa using h3
      rw [if_pos h3] at hL
      exact hL.symm
    have h3 : ¬ (Lib.indexAny w2 [35, 63] ≠ 3 ∧ Lib.indexAny w2 [35, 63] ≠ 8) := by
      intro h4
      simp [h4] at h3
    rw [if_neg h3] at hL
    have hlt := indexAny_lt [35, 63] w2 (by omega)
    refine ⟨by simp, ?_⟩
    rintro _ ⟨⟩
    refine ⟨by omega, by rw [List.length_take]; omega, fun h4 => ?_, fun h4 => ?_⟩
    · rw [if_pos h4] at hL
      exact hL.symm
    rw [if_neg (by rw [h4]; decide)] at hL
    have ew : w64 (Lib.indexAny w2 [35, 63] + 1) = Lib.indexAny w2 [35, 63] + 1 := w64_eq _ (by omega)
    have en : (Lib.indexAny w2 [35, 63] + 1).toNat = (Lib.indexAny w2 [35, 63]).toNat + 1 := by omega
    refine ⟨by simp, ?_⟩
    rintro _ ⟨⟩
    refine ⟨by omega, by simp, ?_⟩
    rintro _ ⟨⟩
    refine ⟨by omega, fun c hc => ?_⟩
    rw [ew, en]
    have hdl : (w2.drop ((Lib.indexAny w2 [35, 63]).toNat + 1)).length ≤ 40000 := by rw [List.length_drop]; omega
    refine ⟨fun h5 => ⟨by omega, ?_⟩, fun h5 => ⟨fun h6 => ⟨?_, ?_⟩, fun h6 => ?_⟩⟩
    · have h5 : (c.toNat : Int) = 63 := by simpa only [beq_iff_eq] using h5
      have hc63 : c = 63 := UInt8.toNat_inj.1 (by show c.toNat = 63; omega)
      rw [if_pos (by rw [hc, hc63])] at hL
      exact hL.symm
    all_goals
      have h5 : ¬ (c.toNat : Int) = 63 := by simpa only [beq_eq_false_iff_ne] using h5
      rw [if_neg (by rw [hc]; intro h7; rw [Option.some.inj h7] at h5; exact h5 rfl)] at hL
    · have := hasp0_len (l := w2.drop ((Lib.indexAny w2 [35, 63]).toNat + 1)) (p := [35]) h6
      simp only [List.length_singleton] at this
      omega
    · rw [if_pos h6] at hL
      rw [h6]
      exact pairs_loop ((w2.drop ((Lib.indexAny w2 [35, 63]).toNat + 1)).drop 1) (by rw [List.length_drop]; omega) _ rfl (fun r => r = lineofS l) hL.symm
    · rw [if_neg (by rw [h6]; decide)] at hL
      rw [h6]
      exact pairs_loop (w2.drop ((Lib.indexAny w2 [35, 63]).toNat + 1)) (by omega) _ rfl (fun r => r = lineofS l) hL.symm

end Go.Proofs.YtdenmllkjdijlaaGreatDoor
set_option linter.unusedVariables false
set_option linter.unusedSimpArgs false
namespace Go.Proofs.YtdenmllkjdijlaaGreatDoor
open Go.Sy Go.RowKit
def cutn_vc (u0 : List UInt8) (u1 : List UInt8) (K : ((List UInt8) × (List UInt8) × Bool) → Prop) : Prop :=
  ((u0.length ≤ 1000000 ∧ u1.length = 1) ∧
    (K ((cutN u0 u1).1, (cutN u0 u1).2.1, (cutN u0 u1).2.2)))

/-! Pure proofs: no program in sight. -/
theorem cutn_ok (l p : List UInt8) (h : l.length ≤ 1000000 ∧ p.length = 1) : cutn_vc l p (fun r => r = cutN l p) := ⟨h, rfl⟩

end Go.Proofs.YtdenmllkjdijlaaGreatDoor
set_option linter.unusedVariables false
set_option linter.unusedSimpArgs false
namespace Go.Proofs.YtdenmllkjdijlaaGreatDoor
open Go.Sy Go.RowKit
def LParse_vc (u0 : List UInt8) (K : Bool → Prop) : Prop :=
  ((parseS u0).1.length ≤ 140737488355328 →
    (((decide ((u0.length : Int) > 40000)) = true →
      (K ((((parseS u0).2.2 == 2) && ((parseS u0).2.1 == 0)) && (((parseS u0).1.length : Int) == 0)))) ∧
    ((decide ((u0.length : Int) > 40000)) = false →
      (∃ inv94 : (List UInt8) → (List Line) → Int → Prop, ∃ mu94 : (List UInt8) → (List Line) → Int → Nat, inv94 u0 ([] : List Line) 0 ∧
      (∀ (x0 : List UInt8) (x6 : List Line) (x7 : Int), inv94 x0 x6 x7 →
      (((x0 != ([] : List UInt8)) = true →
        ((x0.length ≤ 1000000 ∧ ([10] : List UInt8).length = 1) ∧
        (((cutN x0 ([10] : List UInt8)).1.length ≤ 40000) ∧
        ((lineofS (cutN x0 ([10] : List UInt8)).1).1.F.Data.length ≤ 140737488355328 →
        ((((!(cutN x0 ([10] : List UInt8)).2.2) || (!(lineofS (cutN x0 ([10] : List UInt8)).1).2)) = true →
          (K ((((parseS u0).2.2 == 1) && ((parseS u0).2.1 == x7)) && (((parseS u0).1.length : Int) == 0)))) ∧
        (((!(cutN x0 ([10] : List UInt8)).2.2) || (!(lineofS (cutN x0 ([10] : List UInt8)).1).2)) = false →
          (((x6.length + 1) * 64 ≤ 140737488355328) ∧
          (inv94 (cutN x0 ([10] : List UInt8)).2.1 (x6 ++ [(lineofS (cutN x0 ([10] : List UInt8)).1).1]) (w64 (x7 + 1)) ∧ mu94 (cutN x0 ([10] : List UInt8)).2.1 (x6 ++ [(lineofS (cutN x0 ([10] : List UInt8)).1).1]) (w64 (x7 + 1)) < mu94 x0 x6 x7)))))))) ∧
      ((x0 != ([] : List UInt8)) = false →
        ((((checkS x6) != 0) = true →
          (K ((((parseS u0).2.2 == (checkS x6)) && ((parseS u0).2.1 == 0)) && (((parseS u0).1.length : Int) == 0)))) ∧
        (((checkS x6) != 0) = false →
          (K ((((parseS u0).2.2 == 0) && ((parseS u0).2.1 == 0)) && (slinesS (parseS u0).1 x6))))))))))))

/-! Pure proofs: no program in sight. -/
theorem indexAny_swap : ∀ l : List UInt8, Lib.indexAny l [63, 35] = Lib.indexAny l [35, 63]
  | [] => rfl
  | b :: r => by
    have hc : ([63, 35] : List UInt8).contains b = ([35, 63] : List UInt8).contains b := by
      simp only [List.contains_cons, List.contains_nil, Bool.or_false]
      exact Bool.or_comm _ _
    rw [Lib.indexAny, Lib.indexAny, hc, indexAny_swap r]
theorem atoi_range {l : List UInt8} {v : Int} (h : Lib.atoiAll l = .ok v) (h0 : 0 ≤ v) : v ≤ 9223372036854775807 := by
  unfold Lib.atoiAll at h
  cases l with
  | nil => cases h
  | cons c r =>
    simp only at h
    split at h
    · cases h
    · cases h
    · next u hu =>
      split at h
      · cases h
      · next h1 =>
        split at h
        · cases h
        · next h2 =>
          injection h with h
          by_cases hn : c.toNat = 45
          · rw [if_pos hn] at h; omega
          · rw [if_neg hn] at h
            have : ¬ 9223372036854775808 ≤ u := fun h3 => h1 ⟨hn, h3⟩
            omega
theorem cnt_agree (w : List UInt8) (hl : w.length ≤ 90000) : (countS w).2 = ((integerS w).2 && decide (0 ≤ (integerS w).1)) ∧ ((countS w).2 = true → (countS w).1 = (integerS w).1) := by
  by_cases hi : (integerS w).2 = true ∧ 0 ≤ (integerS w).1
  · obtain ⟨h1, h2⟩ := integer_is1 hl hi.1
    have h3 := itoa_back (n := (integerS w).1) ⟨hi.2, by omega⟩
    rw [h2] at h3
    have h4 : countS w = ((integerS w).1, decide (0 ≤ (integerS w).1) && (itoaS (integerS w).1 == w)) := by
      unfold countS atoiV
      rw [h3]
    rw [h4, hi.1]
    simp only [Bool.true_and]
    rw [h2]
    simp
  · have hc : (countS w).2 = false := by
      cases hcw : (countS w).2 with
      | false => rfl
      | true =>
        exfalso
        unfold countS at hcw
        simp only at hcw
        split at hcw
        · next v hv =>
          simp only [Bool.and_eq_true, decide_eq_true_eq, beq_iff_eq] at hcw
          have h5 := integer_is2 (v := v) ⟨by omega, atoi_range hv hcw.1⟩
          rw [hcw.2] at h5
          exact hi ⟨by rw [h5], by rw [h5]; exact hcw.1⟩
        · cases hcw
    rw [hc]
    refine ⟨?_, fun h => by cases h⟩
    cases h1 : (integerS w).2 with
    | false => rfl
    | true =>
      rw [decide_eq_false (fun h2 => hi ⟨h1, h2⟩)]
      rfl
theorem sib_nat : ∀ n : Fin 256, sib dgt (n.val : Int) = if isH (UInt8.ofNat n.val) = true then ((hd (UInt8.ofNat n.val) : Nat) : Int) else -1 := by decide +kernel
theorem sib_is (c : UInt8) : sib dgt (c.toNat : Int) = if isH c = true then ((hd c : Nat) : Int) else -1 := by
  have h := sib_nat ⟨c.toNat, c.toNat_lt⟩
  simp only [UInt8.ofNat_toNat] at h
  exact h
theorem or_dig (a : Nat) (d : Fin 16) (ha : a < 72057594037927936) : bOr .i64 (bShl .i64 (a : Int) 4) (d.val : Int) = ((a * 16 + d.val : Nat) : Int) := by
  have h1 : bShl .i64 (a : Int) 4 = ((a * 16 : Nat) : Int) := by
    unfold bShl
    have : (min (4 : Int).toNat IntKind.i64.bits) = 4 := by decide
    rw [this]
    have : ((a : Int) * 2 ^ 4) = ((a * 16 : Nat) : Int) := by omega
    rw [this]
    exact w64_eq _ (by omega)
  rw [h1, bOr_nat _ _ (by omega) (by omega)]
  congr 1
  have h2 : a * 16 = a <<< 4 := by rw [Nat.shiftLeft_eq]
  rw [h2]
  exact (Nat.shiftLeft_add_eq_or_of_lt (by omega) a).symm
theorem hexF_is : ∀ (s : List UInt8) (v : Nat), (v + 1) * 16 ^ s.length ≤ 1152921504606846976 → hexF (v : Int) s = if s.all isH = true then (((s.foldl (fun a c => 16 * a + hd c) v : Nat) : Int), true) else (0, false)
  | [], v, _ => rfl
  | c :: r, v, hv => by
    rw [hexF, sib_is, List.all_cons]
    by_cases hc : isH c = true
    · have hd16 := hd_lt hc
      rw [List.length_cons, Nat.pow_succ] at hv
      have hv1 : (v + 1) * 16 * 16 ^ r.length ≤ 1152921504606846976 := by rw [Nat.mul_assoc, Nat.mul_comm 16]; exact hv
      have hp : 0 < 16 ^ r.length := Nat.pos_of_ne_zero (by simp)
      have hv2 : (v + 1) * 16 ≤ 1152921504606846976 := Nat.le_trans (Nat.le_mul_of_pos_right _ hp) hv1
      have hv3 : (v * 16 + hd c + 1) * 16 ^ r.length ≤ 1152921504606846976 := Nat.le_trans (Nat.mul_le_mul_right _ (by omega)) hv1
      rw [if_pos hc, if_neg (by omega), or_dig v ⟨hd c, hd16⟩ (by omega), hexF_is r _ hv3, hc, Bool.true_and, List.foldl_cons, Nat.mul_comm v 16]
    · rw [if_neg hc, if_pos (by decide), if_neg (by simp [hc])]
theorem hex_agree (s : List UInt8) (hl : s.length ≤ 8) : thexS s = lhexS s := by
  have hp : (16 : Nat) ^ s.length ≤ 16 ^ 8 := Nat.pow_le_pow_right (by decide) hl
  have h := hexF_is s 0 (by have : (16 : Nat) ^ 8 = 4294967296 := by decide
                            omega)
  exact h
theorem pairs_agree : ∀ (d : List UInt8) (y : Line), (d.length % 2 ≠ 0 → (pairsF y d).2 = false) ∧ (d.length % 2 = 0 → (pairsF y d).2 = (dataF y d).2 ∧ ((dataF y d).2 = true → pairsF y d = dataF y d))
  | [], y => ⟨fun h => absurd rfl h, fun _ => ⟨by rw [pairsF, dataF] <;> simp, fun _ => by rw [pairsF, dataF] <;> simp⟩⟩
  | [a], y => ⟨fun _ => by rw [pairsF] <;> simp, fun h => by simp at h⟩
  | a :: b :: r, y => by
    rw [pairsF, dataF, hex_agree [a, b] (by show 2 ≤ 8; decide)]
    by_cases h : (lhexS [a, b]).2 = true
    · rw [if_pos h, if_pos h]
      have ih := pairs_agree r (addB y (w8 (lhexS [a, b]).1))
      simp only [List.length_cons]
      exact ⟨fun h1 => ih.1 (by omega), fun h1 => ih.2 (by omega)⟩
    · rw [if_neg h, if_neg h]
      exact ⟨fun _ => rfl, fun _ => ⟨rfl, fun h2 => by cases h2⟩⟩
theorem lineof_agree (l : List UInt8) (hl : l.length ≤ 40000) : (lineofS l).2 = (lineS l).2 ∧ ((lineS l).2 = true → (lineofS l).1 = (lineS l).1) := by
  have bad : ∀ {a b : Line × Bool}, a.2 = false → b.2 = false → a.2 = b.2 ∧ (b.2 = true → a.1 = b.1) := fun h1 h2 => ⟨by rw [h1, h2], fun h => by rw [h2] at h; cases h⟩
  by_cases h3 : ∃ w0 w1 w2, splitA 32 l = [w0, w1, w2]
  · obtain ⟨w0, w1, w2, hw⟩ := h3
    have l0 := split_mem_len 32 l w0 (by rw [hw]; simp)
    have l1 := split_mem_len 32 l w1 (by rw [hw]; simp)
    have l2 := split_mem_len 32 l w2 (by rw [hw]; simp)
    obtain ⟨p0, q0⟩ := cnt_agree w0 (by omega)
    obtain ⟨p1, q1⟩ := cnt_agree w1 (by omega)
    have hO : lineofS l = lineofS l := rfl
    conv at hO => rhs; unfold lineofS
    have hS : lineS l = lineS l := rfl
    conv at hS => rhs; unfold lineS
    rw [hw] at hO hS
    simp only [indexAny_swap] at hO hS
    have hk := indexAny_lt [35, 63] w2
    have hkl := indexAny_le [35, 63] w2
    generalize Lib.indexAny w2 [35, 63] = k at *
    by_cases hA : (((((!(integerS w0).2) || (!(integerS w1).2)) || (decide ((integerS w0).1 < 0))) || (decide ((integerS w1).1 < 0))) = true)
    · rw [if_pos hA] at hO
      refine bad (by rw [hO]) ?_
      rw [hS]
      split
      · rfl
      · have hc : ((!(countS w0).2) || (!(countS w1).2)) = true := by
          rw [p0, p1]
          simp only [Bool.or_eq_true, Bool.not_eq_true', decide_eq_true_eq] at hA
          rcases hA with ((hA | hA) | hA) | hA
          · rw [hA]; rfl
          · rw [hA]; simp
          · rw [decide_eq_false (show ¬ 0 ≤ (integerS w0).1 by omega)]; simp
          · rw [decide_eq_false (show ¬ 0 ≤ (integerS w1).1 by omega)]; simp
        rw [hc, Bool.true_or, if_pos rfl]
    · rw [if_neg hA] at hO
      simp only [Bool.or_eq_true, Bool.not_eq_true', decide_eq_true_eq, not_or, Bool.not_eq_false] at hA
      obtain ⟨⟨⟨a0, a1⟩, a2⟩, a3⟩ := hA
      have t0 : (countS w0).2 = true := by rw [p0, a0, decide_eq_true (by omega)]; rfl
      have t1 : (countS w1).2 = true := by rw [p1, a1, decide_eq_true (by omega)]; rfl
      by_cases hk38 : k ≠ 3 ∧ k ≠ 8
      · rw [if_pos hk38] at hO hS
        exact bad (by rw [hO]) (by rw [hS])
      rw [if_neg hk38] at hO hS
      have hk2 := hk (by omega)
      rw [t0, t1, hex_agree _ (by rw [List.length_take]; omega), q0 t0, q1 t1] at hS
      simp only [Bool.not_true, Bool.false_or] at hS
      by_cases hh : (!(lhexS (w2.take k.toNat)).2) = true
      · rw [if_pos hh] at hO hS
        exact bad (by rw [hO]) (by rw [hS])
      rw [if_neg hh] at hO hS
      obtain ⟨c, hc⟩ : ∃ c, w2[k.toNat]? = some c := ⟨_, List.getElem?_eq_getElem (by omega)⟩
      have hd : w2.drop k.toNat = c :: w2.drop (k.toNat + 1) := drop_cons hc
      have hrl : (w2.drop (k.toNat + 1)).length ≤ 40000 := by rw [List.length_drop]; omega
      rw [hd] at hS
      rw [hc] at hO
      generalize w2.drop (k.toNat + 1) = rest at *
      by_cases h63 : c = 63
      · subst h63
        have ec : cutS (63 :: rest) [63] = (rest, true) := by
          have : hasp0 (63 :: rest) [63] = true := by
            unfold hasp0
            have h1 : ((63 :: rest).take (([63] : List UInt8).length : Int).toNat == ([63] : List UInt8)) = true := rfl
            rw [h1, decide_eq_true (show ((63 :: rest).length : Int) ≥ (([63] : List UInt8).length : Int) by simp only [List.length_cons, List.length_nil]; omega)]
            rfl
          unfold cutS
          rw [this]
          rfl
        rw [ec, if_pos rfl] at hS
        rw [if_pos rfl] at hO
        obtain ⟨p2, q2⟩ := cnt_agree rest (by omega)
        rw [hO, hS]
        refine ⟨p2.symm, fun h => ?_⟩
        rw [q2 h]
      · have ec : (cutS (c :: rest) [63]).2 = false := by
          have : hasp0 (c :: rest) [63] = false := by
            unfold hasp0
            have h1 : ((c :: rest).take (([63] : List UInt8).length : Int).toNat == ([63] : List UInt8)) = false := by
              show ([c] == [63]) = false
              simpa using h63
            rw [h1]
            simp
          unfold cutS
          rw [this]
          rfl
        rw [ec, if_neg (by decide)] at hS
        rw [if_neg (by intro h; exact h63 (Option.some.inj h))] at hO
        have ed : (c :: rest).drop 1 = rest := rfl
        rw [ed] at hS
        have fin : ∀ (y : Line) (d : List UInt8), lineofS l = pairsF y d → lineS l = (if d.length % 2 ≠ 0 then (zeroL, false) else dataF y d) → (lineofS l).2 = (lineS l).2 ∧ ((lineS l).2 = true → (lineofS l).1 = (lineS l).1) := fun y d e1 e2 => by
          obtain ⟨g1, g2⟩ := pairs_agree d y
          by_cases h2 : d.length % 2 ≠ 0
          · rw [if_pos h2] at e2
            exact bad (by rw [e1]; exact g1 h2) (by rw [e2])
          · rw [if_neg h2] at e2
            obtain ⟨g3, g4⟩ := g2 (by omega)
            rw [e1, e2]
            exact ⟨g3, fun h => by rw [g4 h]⟩
        cases hp : hasp0 rest [35] with
        | true =>
          have e35 : cutS rest [35] = (rest.drop 1, true) := by unfold cutS; rw [hp]; rfl
          rw [e35] at hS
          rw [if_pos (show hasp rest [35] = true from hp)] at hO
          exact fin _ _ hO hS
        | false =>
          have e35 : cutS rest [35] = (rest, false) := by unfold cutS; rw [hp]; rfl
          rw [e35] at hS
          rw [if_neg (show ¬ hasp rest [35] = true by rw [show hasp rest [35] = false from hp]; decide)] at hO
          exact fin _ _ hO hS
  · refine bad ?_ ?_
    · unfold lineofS
      split
      · next w0 w1 w2 hw => exact absurd ⟨w0, w1, w2, hw⟩ h3
      · rfl
    · unfold lineS
      split
      · next w0 w1 w2 hw => exact absurd ⟨w0, w1, w2, hw⟩ h3
      · rfl
theorem slinesS_self (l : List Line) : slinesS l l = true := by
  unfold slinesS leqfS
  rw [Bool.and_eq_true]
  refine ⟨by simp, ?_⟩
  rw [List.all_eq_true]
  intro x hx
  obtain ⟨i, hi⟩ := List.mem_iff_getElem?.1 hx
  rw [List.getElem?_zip_eq_some] at hi
  have : x.1 = x.2 := Option.some.inj (hi.1.symm.trans hi.2)
  rw [this]
  unfold sl1 sameS beqS
  simp
theorem LParse_ok (u : List UInt8) : LParse_vc u (fun r => r = true) := by
  intro _
  refine ⟨fun h => ?_, fun h => ?_⟩
  · have e : parseS u = ([], 0, 2) := by unfold parseS; rw [if_pos (of_decide_eq_true h)]
    rw [e]; rfl
  · have hu : ¬ (u.length : Int) > 40000 := of_decide_eq_false h
    have hS : parseS u = parseF [] 0 (splitA 10 u) := by
      unfold parseS
      rw [if_neg hu]
      by_cases h0 : u = []
      · subst h0; rw [if_pos (show (([] : List UInt8) == []) = true from rfl)]; decide +kernel
      · rw [if_neg (by simpa using h0)]
    refine ⟨fun x l i => ∃ k : Nat, i = k ∧ l.length = k ∧ x.length + k ≤ 40000 ∧ parseS u = parseF l i (splitA 10 x), fun x _ _ => x.length, ⟨0, rfl, rfl, by omega, hS⟩, ?_⟩
    rintro x l _ ⟨k, rfl, hl, hx, hP⟩
    refine ⟨fun h1 => ⟨⟨by omega, rfl⟩, ?_⟩, fun h1 => ?_⟩
    · have h1 : x ≠ [] := by simpa using h1
      obtain ⟨b1, b2, b3, b4⟩ := idxB_facts 10 x
      by_cases hf : 0 ≤ Lib.indexByte x 10
      · have ec : cutN x ([10] : List UInt8) = (x.take (Lib.indexByte x 10).toNat, x.drop ((Lib.indexByte x 10).toNat + 1), true) := by unfold cutN; exact if_pos hf
        rw [ec]
        dsimp only
        have hlen : (x.take (Lib.indexByte x 10).toNat).length ≤ 40000 := by rw [List.length_take]; omega
        obtain ⟨a1, a2⟩ := lineof_agree _ hlen
        have hne := splitA_ne 10 (x.drop ((Lib.indexByte x 10).toNat + 1))
        rw [b3 hf] at hP
        have hdl : (x.drop ((Lib.indexByte x 10).toNat + 1)).length < x.length := by rw [List.length_drop]; omega
        generalize x.drop ((Lib.indexByte x 10).toNat + 1) = y at *
        generalize x.take (Lib.indexByte x 10).toNat = w at *
        refine ⟨hlen, fun _ => ⟨fun h2 => ?_, fun h2 => ?_⟩⟩
        · have h3 : (lineS w).2 = false := by rw [a1] at h2; simpa using h2
          cases hy : splitA 10 y with
          | nil => exact absurd hy hne
          | cons z r =>
            rw [hy, parseF, h3, if_pos (show (!false) = true from rfl)] at hP
            rw [hP]
            simp
        · have h3 : (lineS w).2 = true := by rw [a1] at h2; simpa using h2
          rw [a2 h3, w64_succ k (by omega)]
          refine ⟨by omega, ⟨k + 1, rfl, by simp [hl], by omega, ?_⟩, hdl⟩
          cases hy : splitA 10 y with
          | nil => exact absurd hy hne
          | cons z r =>
            rw [hy, parseF, h3, if_neg (show ¬ (!true) = true by decide)] at hP
            exact hP
      · have ec : cutN x ([10] : List UInt8) = (x, [], false) := by unfold cutN; exact if_neg hf
        rw [b4 hf, parseF, if_pos (show (x != ([] : List UInt8)) = true by simpa using h1)] at hP
        rw [ec]
        dsimp only
        refine ⟨by omega, fun _ => ⟨fun _ => ?_, fun h2 => by cases h2⟩⟩
        rw [hP]
        simp
    · have h1 : x = [] := by simpa using h1
      subst h1
      have e : splitA 10 ([] : List UInt8) = [[]] := rfl
      rw [e, parseF, if_neg (show ¬ (([] : List UInt8) != []) = true by decide)] at hP
      refine ⟨fun h2 => ?_, fun h2 => ?_⟩
      · rw [if_pos h2] at hP
        rw [hP]
        simp
      · rw [if_neg (by rw [h2]; decide)] at hP
        rw [hP]
        simp [slinesS_self]
theorem LParse_ok2 (u : List UInt8) (_ : u.length ≤ lim) : LParse_vc u (fun r => r = true) := LParse_ok u

end Go.Proofs.YtdenmllkjdijlaaGreatDoor
