/- Texts put together (pure ones, or walks made by program). -/
import Derived.Test.YtdenmllkjdijlaaGreatDoorTT0
import Derived.Lib.AtoiAll
import Derived.Lib.Bytealg
import Derived.Lib.IndexAny
set_option linter.unusedVariables false
set_option linter.unusedSimpArgs false
namespace Go.Proofs.YtdenmllkjdijlaaGreatDoor
open Go.Sy Go.RowKit
structure Frame where
  ID : Int
  Long : Bool
  Fast : Bool
  Remote : Bool
  Size : Int
  Data : List Int
  deriving DecidableEq, Inhabited
def Frame.rep (Z : Fz) (cs : List Value) (x : Frame) : Prop := ∃ (ao0 : Option Addr) (cap0 : Nat), cs = [.int .i64 x.ID, .bool x.Long, .bool x.Fast, .bool x.Remote, .int .i64 x.Size, .slice ao0 x.Data.length cap0] ∧ SlR (tyInt .u8) Z ao0 cap0 x.Data
def tyFrame : Ty Frame :=
  ⟨6, Frame.rep, by rintro _ _ _ ⟨_, _, rfl, _⟩; rfl, by rintro _ _ _ _ hZ ⟨_, _, rfl, h0⟩; exact ⟨_, _, rfl, h0.mono hZ⟩, by rintro _ _ _ ⟨_, _, rfl, _⟩; simp [Value.oneCell']⟩
def okFrame (x : Frame) : Prop := (IntKind.i64.min ≤ x.ID ∧ x.ID ≤ IntKind.i64.max) ∧ (True) ∧ (True) ∧ (True) ∧ (IntKind.i64.min ≤ x.Size ∧ x.Size ≤ IntKind.i64.max) ∧ ((∀ y0 ∈ x.Data, IntKind.u8.min ≤ y0 ∧ y0 ≤ IntKind.u8.max) ∧ x.Data.length * 1 ≤ lim)

structure Line where
  Time : Int
  Bus : Int
  F : Frame
  deriving DecidableEq, Inhabited
def Line.rep (Z : Fz) (cs : List Value) (x : Line) : Prop := ∃ (ao0 : Option Addr) (cap0 : Nat), cs = [.int .i64 x.Time, .int .i64 x.Bus, .int .i64 x.F.ID, .bool x.F.Long, .bool x.F.Fast, .bool x.F.Remote, .int .i64 x.F.Size, .slice ao0 x.F.Data.length cap0] ∧ SlR (tyInt .u8) Z ao0 cap0 x.F.Data
def tyLine : Ty Line :=
  ⟨8, Line.rep, by rintro _ _ _ ⟨_, _, rfl, _⟩; rfl, by rintro _ _ _ _ hZ ⟨_, _, rfl, h0⟩; exact ⟨_, _, rfl, h0.mono hZ⟩, by rintro _ _ _ ⟨_, _, rfl, _⟩; simp [Value.oneCell']⟩
def okLine (x : Line) : Prop := (IntKind.i64.min ≤ x.Time ∧ x.Time ≤ IntKind.i64.max) ∧ (IntKind.i64.min ≤ x.Bus ∧ x.Bus ≤ IntKind.i64.max) ∧ (okFrame x.F)


/-! Pure proofs: no program in sight. -/
/-- strings.Count of one byte. -/
def count1S (l c : List UInt8) : Int := match c with | [x] => ((l.count x : Nat) : Int) | _ => 0
theorem shrN (n s : Nat) (hs : s ≤ 63) : bShr .i64 (n : Int) (s : Int) = ((n / 2 ^ s : Nat) : Int) := by
  unfold bShr
  have : min (s : Int).toNat IntKind.i64.bits = s := by simp [IntKind.bits]; omega
  rw [this, Int.fdiv_eq_ediv_of_nonneg _ (Int.le_of_lt (Int.pow_pos (by decide)))]
  norm_cast
def val : List UInt8 → Nat
  | [] => 0
  | c :: r => (c.toNat - 48) * 2 ^ r.length + val r
theorem bstr_ints (l : List UInt8) : bstr (l.map fun c => (c.toNat : Int)) = l := by
  induction l with
  | nil => rfl
  | cons c r ih => rw [List.map_cons, show bstr ((c.toNat : Int) :: r.map fun c => (c.toNat : Int)) = c :: bstr (r.map fun c => (c.toNat : Int)) by simp [bstr], ih]
/-! ### Numbers in digits -/
def digsF : Nat → Nat → List UInt8
  | 0, _ => [48]
  | k + 1, u => if u < 10 then [UInt8.ofNat (48 + u)] else digsF k (u / 10) ++ [UInt8.ofNat (48 + u % 10)]
def itoaS (n : Int) : List UInt8 := if n < 0 then 45 :: digsF 20 n.natAbs else digsF 20 n.toNat
def atoiV (l : List UInt8) : Int := match Lib.atoiAll l with | .ok v => v | .range => Lib.atoiSat l | _ => 0
/-- A number in digits, without noughts ahead. -/
def countS (l : List UInt8) : Int × Bool := (atoiV l, match Lib.atoiAll l with | .ok v => decide (0 ≤ v) && (itoaS v == l) | _ => false)
def idxB (l : List UInt8) (c : Int) : Int := Lib.indexByte l c.toNat.toUInt8
def index1S (l c : List UInt8) : Int := match c with | [x] => Lib.indexByte l x | _ => 0

end Go.Proofs.YtdenmllkjdijlaaGreatDoor
set_option linter.unusedVariables false
set_option linter.unusedSimpArgs false
namespace Go.Proofs.YtdenmllkjdijlaaGreatDoor
open Go.Sy Go.RowKit
def fsizes_vc  (K : (List Int) → Prop) : Prop :=
  (K ([0, 1, 2, 3, 4, 5, 6, 7, 8, 12, 16, 20, 24, 32, 48, 64] : List Int))
def fsizes  : (List Int) :=
  ([0, 1, 2, 3, 4, 5, 6, 7, 8, 12, 16, 20, 24, 32, 48, 64] : List Int)
theorem fsizes_ok  : fsizes_vc  (fun r => r = fsizes ) := (by rfl)

def rsizes_vc  (K : (List Int) → Prop) : Prop :=
  (K ([0, 1, 2, 3, 4, 5, 6, 7, 8, 12, 16, 20, 24, 32, 48, 64] : List Int))
def rsizes  : (List Int) :=
  ([0, 1, 2, 3, 4, 5, 6, 7, 8, 12, 16, 20, 24, 32, 48, 64] : List Int)
theorem rsizes_ok  : rsizes_vc  (fun r => r = rsizes ) := (by rfl)

def sindex_vc (u0 : List Int) (u1 : Int) (K : Int → Prop) : Prop :=
  (u0.length ≤ 140737488355328 →
    (∃ inv16 : Int → Prop, ∃ mu16 : Int → Nat, inv16 0 ∧
    (∀ (x8 : Int), inv16 x8 →
    (((decide (x8 < (u0.length : Int))) = true →
      ((0 ≤ x8 ∧ x8 < (u0.length : Int)) ∧
      (∀ q51, u0[x8.toNat]? = some q51 →
      (((u1 == q51) = true →
        (K x8)) ∧
      ((u1 == q51) = false →
        (inv16 (w64 (x8 + 1)) ∧ mu16 (w64 (x8 + 1)) < mu16 x8)))))) ∧
    ((decide (x8 < (u0.length : Int))) = false →
      (K (-1)))))))
theorem sindex_mono {u0 : List Int} {u1 : Int} {K K1 : Int → Prop} (hK : ∀ r, K r → K1 r) (h : sindex_vc u0 u1 K) : sindex_vc u0 u1 K1 :=
  fun z0 => (Exists.elim (h z0) fun i1 e1 => Exists.elim e1 fun m1 g1 => ⟨i1, m1, g1.1, fun x8 z1 => ⟨fun c2 => ⟨((g1.2 x8 z1).1 c2).1, fun y4 z4 => ⟨fun c5 => hK _ ((((g1.2 x8 z1).1 c2).2 y4 z4).1 c5), fun c5 => ((((g1.2 x8 z1).1 c2).2 y4 z4).2 c5)⟩⟩, fun c2 => hK _ ((g1.2 x8 z1).2 c2)⟩⟩)

def scontains_vc (u0 : List Int) (u1 : Int) (K : Bool → Prop) : Prop :=
  (u0.length ≤ 140737488355328 →
    (sindex_vc u0 u1 fun r13 =>
    (K (decide (r13 ≥ 0)))))

def sib_vc (u0 : List UInt8) (u1 : Int) (K : Int → Prop) : Prop :=
  (K (idxB u0 u1))
def sib (u0 : List UInt8) (u1 : Int) : Int :=
  (idxB u0 u1)
theorem sib_ok (u0 : List UInt8) (u1 : Int) : sib_vc u0 u1 (fun r => r = sib u0 u1) := (by rfl)

def tnumber_vc (u0 : Int) (u1 : Bool) (K : (List UInt8) → Prop) : Prop :=
  ((u1 = true →
      ((0 ≤ (8 : Int) ∧ (8 : Int) ≤ (8 : Int) ∧ (8 : Int) * 1 ≤ 140737488355328) ∧
      (∃ inv34 : Int → Int → (List Int) → Prop, ∃ mu34 : Int → Int → (List Int) → Nat, inv34 u0 0 (List.replicate (8 : Int).toNat (0 : Int)) ∧
      (∀ (x0 : Int) (x12 : Int) (zg200 : List Int), inv34 x0 x12 zg200 →
      (((decide (x12 < 8)) = true →
        ((0 ≤ bAnd .i64 x0 15 ∧ bAnd .i64 x0 15 < (([48, 49, 50, 51, 52, 53, 54, 55, 56, 57, 97, 98, 99, 100, 101, 102] : List UInt8).length : Int)) ∧
        (∀ c74, ([48, 49, 50, 51, 52, 53, 54, 55, 56, 57, 97, 98, 99, 100, 101, 102] : List UInt8)[(bAnd .i64 x0 15).toNat]? = some c74 →
        ((0 ≤ w64 (7 - x12) ∧ w64 (7 - x12) < (zg200.length : Int)) ∧
        (inv34 (bShr .i64 x0 4) (w64 (x12 + 1)) (zg200.set (w64 (7 - x12)).toNat (c74.toNat : Int)) ∧ mu34 (bShr .i64 x0 4) (w64 (x12 + 1)) (zg200.set (w64 (7 - x12)).toNat (c74.toNat : Int)) < mu34 x0 x12 zg200))))) ∧
      ((decide (x12 < 8)) = false →
        (K (bstr zg200)))))))) ∧
    (u1 = false →
      ((0 ≤ (3 : Int) ∧ (3 : Int) ≤ (3 : Int) ∧ (3 : Int) * 1 ≤ 140737488355328) ∧
      (∃ inv129 : Int → Int → (List Int) → Prop, ∃ mu129 : Int → Int → (List Int) → Nat, inv129 u0 0 (List.replicate (3 : Int).toNat (0 : Int)) ∧
      (∀ (x0 : Int) (x12 : Int) (zg1150 : List Int), inv129 x0 x12 zg1150 →
      (((decide (x12 < 3)) = true →
        ((0 ≤ bAnd .i64 x0 15 ∧ bAnd .i64 x0 15 < (([48, 49, 50, 51, 52, 53, 54, 55, 56, 57, 97, 98, 99, 100, 101, 102] : List UInt8).length : Int)) ∧
        (∀ c169, ([48, 49, 50, 51, 52, 53, 54, 55, 56, 57, 97, 98, 99, 100, 101, 102] : List UInt8)[(bAnd .i64 x0 15).toNat]? = some c169 →
        ((0 ≤ w64 (2 - x12) ∧ w64 (2 - x12) < (zg1150.length : Int)) ∧
        (inv129 (bShr .i64 x0 4) (w64 (x12 + 1)) (zg1150.set (w64 (2 - x12)).toNat (c169.toNat : Int)) ∧ mu129 (bShr .i64 x0 4) (w64 (x12 + 1)) (zg1150.set (w64 (2 - x12)).toNat (c169.toNat : Int)) < mu129 x0 x12 zg1150))))) ∧
      ((decide (x12 < 3)) = false →
        (K (bstr zg1150)))))))))

def hasp0_vc (u0 : List UInt8) (u1 : List UInt8) (K : Bool → Prop) : Prop :=
  (((decide ((u0.length : Int) ≥ (u1.length : Int))) = true →
      ((0 ≤ (u1.length : Int) ∧ (u1.length : Int) ≤ (u0.length : Int)) ∧
      (K ((u0.take (u1.length : Int).toNat) == u1)))) ∧
    ((decide ((u0.length : Int) ≥ (u1.length : Int))) = false →
      (K false)))
def hasp0 (u0 : List UInt8) (u1 : List UInt8) : Bool :=
  bif decide ((u0.length : Int) ≥ (u1.length : Int)) then ((u0.take (u1.length : Int).toNat) == u1)
    else false
theorem hasp0_ok (u0 : List UInt8) (u1 : List UInt8) : hasp0_vc u0 u1 (fun r => r = hasp0 u0 u1) := ⟨fun h0 => ⟨(by (try simp at h0); omega), (by simp only [hasp0, h0, cond_true, cond_false])⟩, fun h0 => (by simp only [hasp0, h0, cond_true, cond_false])⟩

def hasp_vc (u0 : List UInt8) (u1 : List UInt8) (K : Bool → Prop) : Prop :=
  (K (hasp0 u0 u1))
def hasp (u0 : List UInt8) (u1 : List UInt8) : Bool :=
  (hasp0 u0 u1)
theorem hasp_ok (u0 : List UInt8) (u1 : List UInt8) : hasp_vc u0 u1 (fun r => r = hasp u0 u1) := (by rfl)

def cutp0_vc (u0 : List UInt8) (u1 : List UInt8) (K : ((List UInt8) × Bool) → Prop) : Prop :=
  (((!(hasp0 u0 u1)) = true →
      (K (u0, false))) ∧
    ((!(hasp0 u0 u1)) = false →
      ((0 ≤ (u1.length : Int) ∧ (u1.length : Int) ≤ (u0.length : Int)) ∧
      (K (u0.drop (u1.length : Int).toNat, true)))))

def beq_vc (u0 : List Int) (u1 : List Int) (K : Bool → Prop) : Prop :=
  (u0.length ≤ 140737488355328 →
    (u1.length ≤ 140737488355328 →
    ((((u0.length : Int) != (u1.length : Int)) = true →
      (K false)) ∧
    (((u0.length : Int) != (u1.length : Int)) = false →
      (∃ inv37 : Int → Prop, ∃ mu37 : Int → Nat, inv37 0 ∧
      (∀ (x13 : Int), inv37 x13 →
      (((decide (x13 < (u0.length : Int))) = true →
        ((0 ≤ x13 ∧ x13 < (u0.length : Int)) ∧
        (∀ q74, u0[x13.toNat]? = some q74 →
        ((0 ≤ x13 ∧ x13 < (u1.length : Int)) ∧
        (∀ q96, u1[x13.toNat]? = some q96 →
        (((q74 != q96) = true →
          (K false)) ∧
        ((q74 != q96) = false →
          (inv37 (w64 (x13 + 1)) ∧ mu37 (w64 (x13 + 1)) < mu37 x13)))))))) ∧
      ((decide (x13 < (u0.length : Int))) = false →
        (K true)))))))))

def gspl_vc (u0 : List UInt8) (u1 : List UInt8) (K : (List (List UInt8)) → Prop) : Prop :=
  (((u1 == ([] : List UInt8)) = false) ∧
    ((u1.length = 1) ∧
    ((0 ≤ (min (w64 ((count1S u0 u1) + 1)) (w64 ((u0.length : Int) + 1))) ∧ (min (w64 ((count1S u0 u1) + 1)) (w64 ((u0.length : Int) + 1))) ≤ (min (w64 ((count1S u0 u1) + 1)) (w64 ((u0.length : Int) + 1))) ∧ (min (w64 ((count1S u0 u1) + 1)) (w64 ((u0.length : Int) + 1))) * 16 ≤ 140737488355328) ∧
    (∃ inv74 : (List UInt8) → Int → (List (List UInt8)) → Prop, ∃ mu74 : (List UInt8) → Int → (List (List UInt8)) → Nat, inv74 u0 0 (List.replicate (min (w64 ((count1S u0 u1) + 1)) (w64 ((u0.length : Int) + 1))).toNat ([] : List UInt8)) ∧
    (∀ (x0 : List UInt8) (x10 : Int) (zg550 : List (List UInt8)), inv74 x0 x10 zg550 →
    (((decide (x10 < (w64 ((min (w64 ((count1S u0 u1) + 1)) (w64 ((u0.length : Int) + 1))) - 1)))) = true →
      ((u1.length = 1) ∧
      (((decide ((index1S x0 u1) < 0)) = true →
        ((0 ≤ x10 ∧ x10 < (zg550.length : Int)) ∧
        ((0 ≤ (w64 (x10 + 1)) ∧ (w64 (x10 + 1)) ≤ ((zg550.set x10.toNat x0).length : Int)) ∧
        (K ((zg550.set x10.toNat x0).take (w64 (x10 + 1)).toNat))))) ∧
      ((decide ((index1S x0 u1) < 0)) = false →
        ((0 ≤ w64 ((index1S x0 u1) + 0) ∧ w64 ((index1S x0 u1) + 0) ≤ (x0.length : Int)) ∧
        ((0 ≤ x10 ∧ x10 < (zg550.length : Int)) ∧
        ((0 ≤ w64 ((index1S x0 u1) + (u1.length : Int)) ∧ w64 ((index1S x0 u1) + (u1.length : Int)) ≤ (x0.length : Int)) ∧
        (inv74 (x0.drop (w64 ((index1S x0 u1) + (u1.length : Int))).toNat) (w64 (x10 + 1)) (zg550.set x10.toNat (x0.take (w64 ((index1S x0 u1) + 0)).toNat)) ∧ mu74 (x0.drop (w64 ((index1S x0 u1) + (u1.length : Int))).toNat) (w64 (x10 + 1)) (zg550.set x10.toNat (x0.take (w64 ((index1S x0 u1) + 0)).toNat)) < mu74 x0 x10 zg550)))))))) ∧
    ((decide (x10 < (w64 ((min (w64 ((count1S u0 u1) + 1)) (w64 ((u0.length : Int) + 1))) - 1)))) = false →
      ((0 ≤ x10 ∧ x10 < (zg550.length : Int)) ∧
      ((0 ≤ (w64 (x10 + 1)) ∧ (w64 (x10 + 1)) ≤ ((zg550.set x10.toNat x0).length : Int)) ∧
      (K ((zg550.set x10.toNat x0).take (w64 (x10 + 1)).toNat)))))))))))

def thex_vc (u0 : List UInt8) (K : (Int × Bool) → Prop) : Prop :=
  (∃ inv17 : Int → Int → Prop, ∃ mu17 : Int → Int → Nat, inv17 0 0 ∧
    (∀ (x4 : Int) (x9 : Int), inv17 x4 x9 →
    (((decide (x9 < (u0.length : Int))) = true →
      ((0 ≤ x9 ∧ x9 < (u0.length : Int)) ∧
      (∀ c47, u0[x9.toNat]? = some c47 →
      (((decide ((sib ([48, 49, 50, 51, 52, 53, 54, 55, 56, 57, 97, 98, 99, 100, 101, 102] : List UInt8) (c47.toNat : Int)) < 0)) = true →
        (K (0, false))) ∧
      ((decide ((sib ([48, 49, 50, 51, 52, 53, 54, 55, 56, 57, 97, 98, 99, 100, 101, 102] : List UInt8) (c47.toNat : Int)) < 0)) = false →
        (inv17 (bOr .i64 (bShl .i64 x4 4) (sib ([48, 49, 50, 51, 52, 53, 54, 55, 56, 57, 97, 98, 99, 100, 101, 102] : List UInt8) (c47.toNat : Int))) (w64 (x9 + 1)) ∧ mu17 (bOr .i64 (bShl .i64 x4 4) (sib ([48, 49, 50, 51, 52, 53, 54, 55, 56, 57, 97, 98, 99, 100, 101, 102] : List UInt8) (c47.toNat : Int))) (w64 (x9 + 1)) < mu17 x4 x9)))))) ∧
    ((decide (x9 < (u0.length : Int))) = false →
      (K (x4, true))))))

/-! Pure proofs: no program in sight. -/
def sidx {α : Type} (p : α → Bool) (l : List α) : Int := match l.findIdx? p with | some i => (i : Int) | none => -1
theorem sidx_at {α : Type} (p : α → Bool) (l : List α) (k : Nat) (q : α) (hq : l[k]? = some q) (hp : p q = true) (hb : ∀ j x, j < k → l[j]? = some x → p x = false) : sidx p l = k := by
  unfold sidx
  have : l.findIdx? p = some k := by
    rw [List.findIdx?_eq_some_iff_getElem]
    obtain ⟨h1, h2⟩ := List.getElem?_eq_some_iff.1 hq
    exact ⟨h1, by rw [h2]; exact hp, fun j hj => by rw [hb j _ hj (List.getElem?_eq_getElem (by omega))]; simp⟩
  rw [this]
theorem sidx_none {α : Type} (p : α → Bool) (l : List α) (hb : ∀ (j : Nat) x, l[j]? = some x → p x = false) : sidx p l = -1 := by
  unfold sidx
  have : l.findIdx? p = none := by
    rw [List.findIdx?_eq_none_iff]
    intro x hx
    obtain ⟨j, hj⟩ := List.mem_iff_getElem?.1 hx
    exact hb j x hj
  rw [this]
theorem sidx_ge {α : Type} (p : α → Bool) (l : List α) : decide (sidx p l ≥ 0) = l.any p := by
  unfold sidx
  cases h : l.findIdx? p with
  | none =>
    have : l.any p = false := by
      rw [List.findIdx?_eq_none_iff] at h
      rw [List.any_eq_false]
      intro x hx
      simp [h x hx]
    rw [this]
    rfl
  | some i =>
    have : l.any p = true := by
      rw [List.findIdx?_eq_some_iff_getElem] at h
      obtain ⟨h1, h2, _⟩ := h
      exact List.any_eq_true.2 ⟨_, List.getElem_mem h1, h2⟩
    rw [this]
    simp
theorem sindex_ok (l : List Int) (x : Int) : sindex_vc l x (fun r => r = sidx (fun q => x == q) l) := by
  intro hl
  refine rg0 hl (fun k => ∀ j y, j < k → l[j]? = some y → (x == y) = false) (fun j y h => absurd h (Nat.not_lt_zero _)) ?_ ?_
  · intro k q hk hq hj inv mu hn
    refine ⟨fun h => (sidx_at _ l k q hq h hj).symm, fun h => hn fun j y hj1 hy => ?_⟩
    rcases Nat.lt_or_ge j k with h1 | h1
    · exact hj j y h1 hy
    · have : j = k := by omega
      subst this
      rw [hq] at hy
      cases hy
      exact h
  · intro hj
    refine (sidx_none _ l fun j y hy => hj j y (List.getElem?_eq_some_iff.1 hy).1 hy).symm
def scontainsS (l : List Int) (x : Int) : Bool := l.any fun q => x == q
theorem scontains_ok (l : List Int) (x : Int) : scontains_vc l x (fun r => r = scontainsS l x) := fun _ => sindex_mono (fun r h => by subst h; exact sidx_ge _ l) (sindex_ok l x)
def beqS (a b : List Int) : Bool := decide (a = b)
theorem list_eq_at {α : Type} {a b : List α} (hl : a.length = b.length) (h : ∀ (k : Nat) (x y : α), a[k]? = some x → b[k]? = some y → x = y) : a = b := by
  apply List.ext_getElem? 
  intro k
  rcases Nat.lt_or_ge k a.length with hk | hk
  · have h1 := List.getElem?_eq_getElem hk
    have h2 := List.getElem?_eq_getElem (l := b) (show k < b.length by omega)
    rw [h1, h2, h k _ _ h1 h2]
  · rw [List.getElem?_eq_none hk, List.getElem?_eq_none (by omega)]
theorem beq_ok (a b : List Int) : beq_vc a b (fun r => r = beqS a b) := by
  intro ha hb
  refine ⟨fun h => ?_, fun h => ?_⟩
  · have h : ¬ (a.length : Int) = (b.length : Int) := by simpa using h
    unfold beqS
    rw [decide_eq_false]
    intro e
    rw [e] at h
    exact h rfl
  · have h : a.length = b.length := by
      have h : (a.length : Int) = (b.length : Int) := by simpa only [bne_eq_false_iff_eq] using h
      omega
    refine ⟨fun i => ∃ k : Nat, i = k ∧ k ≤ a.length ∧ ∀ (j : Nat) (x y : Int), j < k → a[j]? = some x → b[j]? = some y → x = y, fun i => a.length - i.toNat, ⟨0, rfl, by omega, fun j _ _ hj => absurd hj (Nat.not_lt_zero _)⟩, ?_⟩
    rintro _ ⟨k, rfl, hk, hj⟩
    refine ⟨fun h1 => ?_, fun h1 => ?_⟩
    · have hk : k < a.length := by have := of_decide_eq_true h1; omega
      rw [w64_succ k (by omega)]
      refine ⟨by omega, fun q hq => ⟨by omega, fun p hp => ⟨fun h2 => ?_, fun h2 => ?_⟩⟩⟩
      · unfold beqS
        rw [decide_eq_false]
        rintro rfl
        rw [hq] at hp
        cases hp
        simp at h2
      · have h2 : q = p := by simpa using h2
        rw [Int.toNat_natCast] at hq hp
        refine ⟨⟨k + 1, rfl, by omega, fun j x y hj1 hx hy => ?_⟩, by (try dsimp only); omega⟩
        rcases Nat.lt_or_ge j k with hc | hc
        · exact hj j x y hc hx hy
        · have : j = k := by omega
          subst this
          rw [hq] at hx
          rw [hp] at hy
          cases hx; cases hy; exact h2
    · have : k = a.length := by have := of_decide_eq_false h1; omega
      subst this
      unfold beqS
      rw [decide_eq_true]
      exact list_eq_at h fun k x y hx hy => hj k x y (List.getElem?_eq_some_iff.1 hx).1 hx hy
/-! ### Numbers in hexadecimal digits -/
def dgt : List UInt8 := [48, 49, 50, 51, 52, 53, 54, 55, 56, 57, 97, 98, 99, 100, 101, 102]
def hexd (n : Nat) : UInt8 := if n < 10 then UInt8.ofNat (48 + n) else UInt8.ofNat (87 + n)
def hexN : Nat → Nat → List UInt8
  | 0, _ => []
  | k + 1, u => hexd (u / 16 ^ k % 16) :: hexN k u
def numS (id : Int) (long : Bool) : List UInt8 := hexN (bif long then 8 else 3) id.toNat
theorem dgt_at : ∀ k : Fin 16, dgt[k.val]? = some (hexd k.val) := by decide +kernel
theorem and15N (v : Nat) (hv : v < 4611686018427387904) : bAnd .i64 (v : Int) 15 = ((v % 16 : Nat) : Int) := by
  have h := bAnd_nat v 15 (by omega) (by omega)
  have e : v &&& 15 = v % 16 := Nat.and_two_pow_sub_one_eq_mod v 4
  rw [e] at h
  exact h
theorem shr4N (v : Nat) : bShr .i64 (v : Int) 4 = ((v / 16 : Nat) : Int) := shrN v 4 (by omega)
theorem num_loop (m : Nat) (M t : Int) (hM : M = m) (ht : t = (m : Int) - 1) (hm : m ≤ 8) (v : Nat) (hv : v < 4611686018427387904) (K : List UInt8 → Prop) (hK : K (hexN m v)) :
    ∃ inv : Int → Int → List Int → Prop, ∃ mu : Int → Int → List Int → Nat, inv (v : Int) 0 (List.replicate M.toNat (0 : Int)) ∧
      ∀ (x0 : Int) (i : Int) (z : List Int), inv x0 i z → ((decide (i < M) = true →
        ((0 ≤ bAnd .i64 x0 15 ∧ bAnd .i64 x0 15 < (([48, 49, 50, 51, 52, 53, 54, 55, 56, 57, 97, 98, 99, 100, 101, 102] : List UInt8).length : Int)) ∧
        (∀ c, ([48, 49, 50, 51, 52, 53, 54, 55, 56, 57, 97, 98, 99, 100, 101, 102] : List UInt8)[(bAnd .i64 x0 15).toNat]? = some c →
        ((0 ≤ w64 (t - i) ∧ w64 (t - i) < (z.length : Int)) ∧
        (inv (bShr .i64 x0 4) (w64 (i + 1)) (z.set (w64 (t - i)).toNat (c.toNat : Int)) ∧ mu (bShr .i64 x0 4) (w64 (i + 1)) (z.set (w64 (t - i)).toNat (c.toNat : Int)) < mu x0 i z))))) ∧
      (decide (i < M) = false → K (bstr z))) := by
  subst hM ht
  refine ⟨fun x i z => ∃ k : Nat, i = k ∧ k ≤ m ∧ x = ((v / 16 ^ k : Nat) : Int) ∧ z.length = m ∧ z.drop (m - k) = (hexN k v).map (fun c => (c.toNat : Int)), fun _ i _ => m - i.toNat,
    ⟨0, rfl, by omega, by simp, by simp, by simp [hexN]⟩, ?_⟩
  rintro _ _ z ⟨k, rfl, hk, rfl, hz, hd⟩
  have hv2 : v / 16 ^ k < 4611686018427387904 := Nat.lt_of_le_of_lt (Nat.div_le_self _ _) hv
  rw [and15N _ hv2, shr4N]
  refine ⟨fun h1 => ⟨⟨by omega, by simp only [List.length_cons, List.length_nil]; omega⟩, fun c hc => ?_⟩, fun h1 => ?_⟩
  · have hkm : k < m := by simp at h1; omega
    have e1 : w64 ((m : Int) - 1 - k) = ((m - 1 - k : Nat) : Int) := by rw [w64_eq _ (by omega)]; omega
    have hc : c = hexd (v / 16 ^ k % 16) := by
      have h2 := dgt_at ⟨v / 16 ^ k % 16, by omega⟩
      rw [Int.toNat_natCast] at hc
      exact Option.some.inj (hc.symm.trans h2)
    subst hc
    rw [e1, w64_succ k (by omega)]
    refine ⟨by omega, ⟨k + 1, rfl, by omega, ?_, by simpa using hz, ?_⟩, by dsimp only; omega⟩
    · rw [Nat.div_div_eq_div_mul, Nat.pow_succ]
    · have e2 : m - (k + 1) = m - 1 - k := by omega
      rw [e2, Int.toNat_natCast, hexN, List.map_cons, ← hd]
      have hlt : m - 1 - k < z.length := by omega
      have e3 : m - k = m - 1 - k + 1 := by omega
      rw [e3, List.drop_eq_getElem_cons (by simpa using hlt), List.getElem_set_self, List.drop_set_of_lt (by omega)]
  · have : k = m := by simp at h1; omega
    subst this
    have e2 : k - k = 0 := by omega
    rw [e2, List.drop_zero] at hd
    rw [hd, bstr_ints]
    exact hK
theorem tnumber_ok (n : Int) (l : Bool) (h : 0 ≤ n ∧ n < 4611686018427387904) : tnumber_vc n l (fun r => r = numS n l) := by
  obtain ⟨v, rfl⟩ : ∃ v : Nat, n = v := ⟨n.toNat, by omega⟩
  refine ⟨fun h1 => ⟨by omega, num_loop 8 8 7 rfl rfl (by omega) v (by omega) (fun r => r = numS (v : Int) l) ?_⟩, fun h1 => ⟨by omega, num_loop 3 3 2 rfl rfl (by omega) v (by omega) (fun r => r = numS (v : Int) l) ?_⟩⟩
  · subst h1; rfl
  · subst h1; rfl
theorem hexN_len : ∀ k n, (hexN k n).length = k
  | 0, _ => rfl
  | k + 1, n => by rw [hexN, List.length_cons, hexN_len k n]
theorem numS_len (n : Int) (l : Bool) : (numS n l).length ≤ 8 := by
  unfold numS
  rw [hexN_len]
  cases l <;> decide
/-! ### What is read in hexadecimal digits -/
def hexF (n : Int) : List UInt8 → Int × Bool
  | [] => (n, true)
  | c :: r => if sib dgt (c.toNat : Int) < 0 then (0, false) else hexF (bOr .i64 (bShl .i64 n 4) (sib dgt (c.toNat : Int))) r
def thexS (l : List UInt8) : Int × Bool := hexF 0 l
theorem thex_ok (l : List UInt8) (hl : l.length ≤ 1000000) : thex_vc l (fun r => r = thexS l) := by
  refine ⟨fun n i => ∃ k : Nat, i = k ∧ k ≤ l.length ∧ hexF n (l.drop k) = hexF 0 l, fun _ i => l.length - i.toNat, ⟨0, rfl, by omega, rfl⟩, ?_⟩
  rintro n _ ⟨k, rfl, hk, he⟩
  refine ⟨fun h1 => ?_, fun h1 => ?_⟩
  · have hkm : k < l.length := by simpa using h1
    refine ⟨by omega, fun c hc => ?_⟩
    rw [Int.toNat_natCast] at hc
    have hd : l.drop k = c :: l.drop (k + 1) := by
      obtain ⟨h2, h3⟩ := List.getElem?_eq_some_iff.1 hc
      rw [List.drop_eq_getElem_cons h2, h3]
    rw [hd, hexF] at he
    rw [w64_succ k (by omega)]
    refine ⟨fun h2 => ?_, fun h2 => ⟨⟨k + 1, rfl, by omega, ?_⟩, by dsimp only; omega⟩⟩
    · have h2 : sib dgt (c.toNat : Int) < 0 := of_decide_eq_true h2
      rw [if_pos h2] at he
      exact he
    · have h2 : ¬ sib dgt (c.toNat : Int) < 0 := of_decide_eq_false h2
      rw [if_neg h2] at he
      exact he
  · have : k = l.length := by simp at h1; omega
    subst this
    rw [List.drop_length] at he
    exact he
/-! ### Split at one byte -/
def splitA (c : UInt8) : List UInt8 → List (List UInt8)
  | [] => [[]]
  | b :: r => if b == c then [] :: splitA c r else match splitA c r with | [] => [[b]] | x :: t => (b :: x) :: t
theorem splitA_ne (c : UInt8) : ∀ l, splitA c l ≠ []
  | [] => by simp [splitA]
  | b :: r => by
    rw [splitA]
    split
    · simp
    · split <;> simp
theorem splitA_len (c : UInt8) : ∀ l : List UInt8, (splitA c l).length = l.count c + 1
  | [] => rfl
  | b :: r => by
    rw [splitA, List.count_cons]
    have ih := splitA_len c r
    split
    · rw [List.length_cons, ih]
    · split
      · next h => exact absurd h (splitA_ne c r)
      · next x t h => rw [h] at ih; rw [List.length_cons]; rw [List.length_cons] at ih; omega
theorem splitA_miss (c : UInt8) : ∀ l : List UInt8, Lib.indexByte l c = -1 → splitA c l = [l]
  | [], _ => rfl
  | b :: r, h => by
    rw [Lib.indexByte] at h
    split at h
    · cases h
    · next hb =>
      split at h
      · next h2 => rw [splitA, if_neg hb, splitA_miss c r (by simpa using h2)]
      · next h2 =>
        have := Lib.indexByte_ge r c
        have : Lib.indexByte r c ≠ -1 := by simpa using h2
        omega
theorem splitA_hit (c : UInt8) : ∀ (l : List UInt8) (k : Nat), Lib.indexByte l c = k → k < l.length ∧ splitA c l = l.take k :: splitA c (l.drop (k + 1))
  | [], k, h => by exfalso; have h : (-1 : Int) = (k : Int) := h; omega
  | b :: r, k, h => by
    rw [Lib.indexByte] at h
    split at h
    · next hb =>
      obtain rfl : k = 0 := by omega
      exact ⟨by simp, by rw [splitA, if_pos hb]; rfl⟩
    · next hb =>
      split at h
      · omega
      · next h2 =>
        have h5 : Lib.indexByte r c ≠ -1 := by simpa using h2
        have h6 := Lib.indexByte_ge r c
        have hk : 0 < k := by omega
        obtain ⟨h3, h4⟩ := splitA_hit c r (k - 1) (by omega)
        obtain ⟨j, rfl⟩ : ∃ j, k = j + 1 := ⟨k - 1, by omega⟩
        refine ⟨by rw [List.length_cons]; omega, ?_⟩
        rw [splitA, if_neg hb]
        have e : j + 1 - 1 = j := by omega
        rw [e] at h4
        rw [h4]
        rfl
def splitS (l s : List UInt8) : List (List UInt8) := match s with | [c] => splitA c l | _ => []
theorem gspl_ok (l s : List UInt8) (h : l.length ≤ 1000000 ∧ s.length = 1) : gspl_vc l s (fun r => r = splitS l s) := by
  obtain ⟨hl, hs⟩ := h
  obtain ⟨c, rfl⟩ : ∃ c, s = [c] := by
    match s, hs with
    | [c], _ => exact ⟨c, rfl⟩
  have hct : l.count c ≤ l.length := List.count_le_length
  have e1 : min (w64 (count1S l [c] + 1)) (w64 ((l.length : Int) + 1)) = ((l.count c + 1 : Nat) : Int) := by
    show min (w64 (((l.count c : Nat) : Int) + 1)) _ = _
    rw [w64_eq _ (by omega), w64_eq _ (by omega)]
    omega
  unfold gspl_vc
  rw [e1]
  have e2 : w64 (((l.count c + 1 : Nat) : Int) - 1) = ((l.count c : Nat) : Int) := by rw [w64_eq _ (by omega)]; omega
  rw [e2]
  refine ⟨by simp, rfl, by omega, fun x i z => ∃ (k : Nat) (pre : List (List UInt8)), i = k ∧ pre.length = k ∧ z.length = l.count c + 1 ∧ z.take k = pre ∧ pre ++ splitA c x = splitA c l ∧ x.length ≤ l.length, fun _ i _ => l.count c + 1 - i.toNat,
    ⟨0, [], rfl, rfl, by simp, by simp, rfl, by omega⟩, ?_⟩
  rintro x _ z ⟨k, pre, rfl, hp, hz, ht, hq, hx⟩
  have hlen := congrArg List.length hq
  rw [List.length_append, splitA_len, splitA_len, hp] at hlen
  have hset : splitA c x = [x] → ((z.set k x).take (k + 1)) = splitA c l := fun h1 => by
    have hk : k < z.length := by omega
    rw [h1, ← ht] at hq
    rw [List.take_set, ← hq, List.take_succ_eq_append_getElem hk]
    rw [List.set_append_right _ _ (by rw [List.length_take]; omega)]
    have : k - (z.take k).length = 0 := by rw [List.length_take]; omega
    rw [this]
    rfl
  have ei : index1S x [c] = Lib.indexByte x c := rfl
  refine ⟨fun h1 => ⟨rfl, fun h2 => ?_, fun h2 => ?_⟩, fun h1 => ?_⟩
  · exfalso
    have h1 := of_decide_eq_true h1
    have h2 := of_decide_eq_true h2
    rw [ei] at h2
    have := splitA_miss c x (by have := Lib.indexByte_ge x c; omega)
    have h3 := splitA_len c x
    rw [this] at h3
    simp at h3
    omega
  · have h1 := of_decide_eq_true h1
    have h2 := of_decide_eq_false h2
    obtain ⟨m, hm⟩ : ∃ m : Nat, Lib.indexByte x c = m := ⟨(Lib.indexByte x c).toNat, by rw [ei] at h2; omega⟩
    obtain ⟨h3, h4⟩ := splitA_hit c x m hm
    have e3 : w64 (index1S x [c] + 0) = m := by rw [ei, hm, Int.add_zero, w64_eq _ (by omega)]
    have e4 : w64 (index1S x [c] + (([c] : List UInt8).length : Int)) = ((m + 1 : Nat) : Int) := by rw [ei, hm]; simp only [List.length_cons, List.length_nil]; rw [w64_eq _ (by omega)]; omega
    rw [e3, e4, w64_succ k (by omega)]
    refine ⟨by omega, by omega, by omega, ⟨k + 1, pre ++ [x.take m], rfl, by simp [hp], by simpa using hz, ?_, ?_, ?_⟩, by dsimp only; omega⟩
    · rw [Int.toNat_natCast, List.take_set, List.take_succ_eq_append_getElem (show k < z.length by omega), ht, List.set_append_right _ _ (by omega), hp, Nat.sub_self]
      rfl
    · rw [Int.toNat_natCast, List.append_assoc, ← hq, h4]
      rfl
    · rw [List.length_drop]; omega
  · have h1 := of_decide_eq_false h1
    rw [w64_succ k (by omega)]
    have hone : splitA c x = [x] := by
      refine splitA_miss c x ?_
      apply Decidable.byContradiction
      intro h3
      obtain ⟨m, hm⟩ : ∃ m : Nat, Lib.indexByte x c = m := ⟨(Lib.indexByte x c).toNat, by have := Lib.indexByte_ge x c; omega⟩
      have h4 := (splitA_hit c x m hm).2
      have h5 := congrArg List.length h4
      rw [splitA_len, List.length_cons, splitA_len] at h5
      omega
    have hk : k ≤ l.count c := by omega
    exact ⟨by omega, by rw [List.length_set]; omega, hset hone⟩
/-- A prefix is cut off. -/
def cutS (l p : List UInt8) : List UInt8 × Bool := bif hasp0 l p then (l.drop p.length, true) else (l, false)
theorem hasp0_len {l p : List UInt8} (h : hasp0 l p = true) : p.length ≤ l.length := by
  unfold hasp0 at h
  cases h1 : decide ((l.length : Int) ≥ (p.length : Int)) with
  | true => simp at h1; omega
  | false => rw [h1] at h; cases h
theorem cutp0_ok (l p : List UInt8) : cutp0_vc l p (fun r => r = cutS l p) := by
  refine ⟨fun h => ?_, fun h => ?_⟩
  · have h : hasp0 l p = false := by simpa using h
    unfold cutS; rw [h]; rfl
  · have h : hasp0 l p = true := by simpa using h
    have := hasp0_len h
    refine ⟨by omega, ?_⟩
    unfold cutS; rw [h, Int.toNat_natCast]; rfl

end Go.Proofs.YtdenmllkjdijlaaGreatDoor
set_option linter.unusedVariables false
set_option linter.unusedSimpArgs false
namespace Go.Proofs.YtdenmllkjdijlaaGreatDoor
open Go.Sy Go.RowKit
def cutp_vc (u0 : List UInt8) (u1 : List UInt8) (K : ((List UInt8) × Bool) → Prop) : Prop :=
  (K ((cutS u0 u1).1, (cutS u0 u1).2))
def cutp (u0 : List UInt8) (u1 : List UInt8) : (List UInt8) × Bool :=
  ((cutS u0 u1).1, (cutS u0 u1).2)
theorem cutp_ok (u0 : List UInt8) (u1 : List UInt8) : cutp_vc u0 u1 (fun r => r = cutp u0 u1) := (by rfl)

def tsplit_vc (u0 : List UInt8) (u1 : List UInt8) (K : (List (List UInt8)) → Prop) : Prop :=
  ((u0.length ≤ 1000000 ∧ u1.length = 1) ∧
    ((splitS u0 u1).length ≤ 140737488355328 →
    (K (splitS u0 u1))))

def fcheckfr_vc (u0 : Frame) (K : Int → Prop) : Prop :=
  (u0.Data.length ≤ 140737488355328 →
    (((((decide (u0.ID < 0)) || ((!u0.Long) && (decide (u0.ID > 2047)))) || (decide (u0.ID > 536870911))) = true →
      (K 3)) ∧
    ((((decide (u0.ID < 0)) || ((!u0.Long) && (decide (u0.ID > 2047)))) || (decide (u0.ID > 536870911))) = false →
      (((u0.Remote && (u0.Fast || (decide ((u0.Data.length : Int) > 0)))) = true →
        (K 4)) ∧
      ((u0.Remote && (u0.Fast || (decide ((u0.Data.length : Int) > 0)))) = false →
        (((((decide (u0.Size < 0)) || (decide (u0.Size > 8))) || ((!u0.Remote) && (u0.Size != 0))) = true →
          (K 3)) ∧
        ((((decide (u0.Size < 0)) || (decide (u0.Size > 8))) || ((!u0.Remote) && (u0.Size != 0))) = false →
          ((((decide ((u0.Data.length : Int) > 64)) || ((!u0.Fast) && (decide ((u0.Data.length : Int) > 8)))) = true →
            (K 2)) ∧
          (((decide ((u0.Data.length : Int) > 64)) || ((!u0.Fast) && (decide ((u0.Data.length : Int) > 8)))) = false →
            (((!(scontainsS fsizes (u0.Data.length : Int))) = true →
              (K 4)) ∧
            ((!(scontainsS fsizes (u0.Data.length : Int))) = false →
              (K 0))))))))))))
def fcheckfr (u0 : Frame) : Int :=
  bif ((decide (u0.ID < 0)) || ((!u0.Long) && (decide (u0.ID > 2047)))) || (decide (u0.ID > 536870911)) then 3
    else bif u0.Remote && (u0.Fast || (decide ((u0.Data.length : Int) > 0))) then 4
    else bif ((decide (u0.Size < 0)) || (decide (u0.Size > 8))) || ((!u0.Remote) && (u0.Size != 0)) then 3
    else bif (decide ((u0.Data.length : Int) > 64)) || ((!u0.Fast) && (decide ((u0.Data.length : Int) > 8))) then 2
    else bif !(scontainsS fsizes (u0.Data.length : Int)) then 4
    else 0
theorem fcheckfr_ok (u0 : Frame) : fcheckfr_vc u0 (fun r => r = fcheckfr u0) := (fun _ => ⟨fun h0 => (by simp only [fcheckfr, h0, cond_true, cond_false]), fun h0 => ⟨fun h1 => (by simp only [fcheckfr, h0, h1, cond_true, cond_false]), fun h1 => ⟨fun h2 => (by simp only [fcheckfr, h0, h1, h2, cond_true, cond_false]), fun h2 => ⟨fun h3 => (by simp only [fcheckfr, h0, h1, h2, h3, cond_true, cond_false]), fun h3 => ⟨fun h4 => (by simp only [fcheckfr, h0, h1, h2, h3, h4, cond_true, cond_false]), fun h4 => (by simp only [fcheckfr, h0, h1, h2, h3, h4, cond_true, cond_false])⟩⟩⟩⟩⟩)

def rcheckfr_vc (u0 : Frame) (K : Int → Prop) : Prop :=
  (u0.Data.length ≤ 140737488355328 →
    ((u0.Long = true →
      ((((decide (u0.ID < 0)) || (decide (u0.ID > 536870911))) = true →
        (K 3)) ∧
      (((decide (u0.ID < 0)) || (decide (u0.ID > 536870911))) = false →
        (((u0.Remote && (u0.Fast || ((u0.Data.length : Int) != 0))) = true →
          (K 4)) ∧
        ((u0.Remote && (u0.Fast || ((u0.Data.length : Int) != 0))) = false →
          (((((decide (u0.Size < 0)) || (decide (u0.Size > 8))) || ((decide (u0.Size > 0)) && (!u0.Remote))) = true →
            (K 3)) ∧
          ((((decide (u0.Size < 0)) || (decide (u0.Size > 8))) || ((decide (u0.Size > 0)) && (!u0.Remote))) = false →
            ((((decide ((u0.Data.length : Int) > 64)) || ((decide ((u0.Data.length : Int) > 8)) && (!u0.Fast))) = true →
              (K 2)) ∧
            (((decide ((u0.Data.length : Int) > 64)) || ((decide ((u0.Data.length : Int) > 8)) && (!u0.Fast))) = false →
              (((!(scontainsS rsizes (u0.Data.length : Int))) = true →
                (K 4)) ∧
              ((!(scontainsS rsizes (u0.Data.length : Int))) = false →
                (K 0)))))))))))) ∧
    (u0.Long = false →
      ((((decide (u0.ID < 0)) || (decide (u0.ID > 2047))) = true →
        (K 3)) ∧
      (((decide (u0.ID < 0)) || (decide (u0.ID > 2047))) = false →
        (((u0.Remote && (u0.Fast || ((u0.Data.length : Int) != 0))) = true →
          (K 4)) ∧
        ((u0.Remote && (u0.Fast || ((u0.Data.length : Int) != 0))) = false →
          (((((decide (u0.Size < 0)) || (decide (u0.Size > 8))) || ((decide (u0.Size > 0)) && (!u0.Remote))) = true →
            (K 3)) ∧
          ((((decide (u0.Size < 0)) || (decide (u0.Size > 8))) || ((decide (u0.Size > 0)) && (!u0.Remote))) = false →
            ((((decide ((u0.Data.length : Int) > 64)) || ((decide ((u0.Data.length : Int) > 8)) && (!u0.Fast))) = true →
              (K 2)) ∧
            (((decide ((u0.Data.length : Int) > 64)) || ((decide ((u0.Data.length : Int) > 8)) && (!u0.Fast))) = false →
              (((!(scontainsS rsizes (u0.Data.length : Int))) = true →
                (K 4)) ∧
              ((!(scontainsS rsizes (u0.Data.length : Int))) = false →
                (K 0))))))))))))))

def rsame_vc (u0 : Frame) (u1 : Frame) (K : Bool → Prop) : Prop :=
  (u0.Data.length ≤ 140737488355328 →
    (u1.Data.length ≤ 140737488355328 →
    (K ((((((u0.ID == u1.ID) && (u0.Long == u1.Long)) && (u0.Fast == u1.Fast)) && (u0.Remote == u1.Remote)) && (u0.Size == u1.Size)) && (beqS u0.Data u1.Data)))))

/-! Pure proofs: no program in sight. -/
theorem fcheck_eq (f : Frame) (c1 c2 c3 c4 : Bool) (h1 : c1 = (((decide (f.ID < 0)) || ((!f.Long) && (decide (f.ID > 2047)))) || (decide (f.ID > 536870911)))) (h2 : c2 = (f.Remote && (f.Fast || (decide ((f.Data.length : Int) > 0)))))
    (h3 : c3 = (((decide (f.Size < 0)) || (decide (f.Size > 8))) || ((!f.Remote) && (f.Size != 0)))) (h4 : c4 = ((decide ((f.Data.length : Int) > 64)) || ((!f.Fast) && (decide ((f.Data.length : Int) > 8))))) :
    fcheckfr f = bif c1 then 3 else bif c2 then 4 else bif c3 then 3 else bif c4 then 2 else bif !(scontainsS rsizes (f.Data.length : Int)) then 4 else 0 := by
  subst h1 h2 h3 h4
  rfl
theorem rcheckfr_ok (f : Frame) : rcheckfr_vc f (fun r => r = fcheckfr f) := by
  intro _
  have e2 : (f.Remote && (f.Fast || ((f.Data.length : Int) != 0))) = (f.Remote && (f.Fast || (decide ((f.Data.length : Int) > 0)))) := by
    congr 2
    rw [Bool.eq_iff_iff, bne_iff_ne, decide_eq_true_eq]
    omega
  have e3 : (((decide (f.Size < 0)) || (decide (f.Size > 8))) || ((decide (f.Size > 0)) && (!f.Remote))) = (((decide (f.Size < 0)) || (decide (f.Size > 8))) || ((!f.Remote) && (f.Size != 0))) := by
    cases f.Remote
    · rw [Bool.eq_iff_iff]
      simp
      omega
    · simp
  have e4 : ((decide ((f.Data.length : Int) > 64)) || ((decide ((f.Data.length : Int) > 8)) && (!f.Fast))) = ((decide ((f.Data.length : Int) > 64)) || ((!f.Fast) && (decide ((f.Data.length : Int) > 8)))) := by
    rw [Bool.and_comm (decide ((f.Data.length : Int) > 8))]
  refine ⟨fun hL => ?_, fun hL => ?_⟩
  · have e1 : ((decide (f.ID < 0)) || (decide (f.ID > 536870911))) = (((decide (f.ID < 0)) || ((!f.Long) && (decide (f.ID > 2047)))) || (decide (f.ID > 536870911))) := by rw [hL]; simp
    have e := fcheck_eq f _ _ _ _ e1 e2 e3 e4
    rw [e]
    refine ⟨fun g1 => by rw [g1]; rfl, fun g1 => ⟨fun g2 => by rw [g1, g2]; rfl, fun g2 => ⟨fun g3 => by rw [g1, g2, g3]; rfl, fun g3 => ⟨fun g4 => by rw [g1, g2, g3, g4]; rfl, fun g4 => ⟨fun g5 => by rw [g1, g2, g3, g4, g5]; rfl, fun g5 => by rw [g1, g2, g3, g4, g5]; rfl⟩⟩⟩⟩⟩
  · have e1 : ((decide (f.ID < 0)) || (decide (f.ID > 2047))) = (((decide (f.ID < 0)) || ((!f.Long) && (decide (f.ID > 2047)))) || (decide (f.ID > 536870911))) := by
      rw [hL, Bool.eq_iff_iff]
      simp
      omega
    have e := fcheck_eq f _ _ _ _ e1 e2 e3 e4
    rw [e]
    refine ⟨fun g1 => by rw [g1]; rfl, fun g1 => ⟨fun g2 => by rw [g1, g2]; rfl, fun g2 => ⟨fun g3 => by rw [g1, g2, g3]; rfl, fun g3 => ⟨fun g4 => by rw [g1, g2, g3, g4]; rfl, fun g4 => ⟨fun g5 => by rw [g1, g2, g3, g4, g5]; rfl, fun g5 => by rw [g1, g2, g3, g4, g5]; rfl⟩⟩⟩⟩⟩
def sameS (a b : Frame) : Bool := (((((a.ID == b.ID) && (a.Long == b.Long)) && (a.Fast == b.Fast)) && (a.Remote == b.Remote)) && (a.Size == b.Size)) && (beqS a.Data b.Data)
theorem rsame_ok (a b : Frame) : rsame_vc a b (fun r => r = sameS a b) := fun _ _ => rfl
theorem tsplit_ok (l s : List UInt8) (h : l.length ≤ 1000000 ∧ s.length = 1) : tsplit_vc l s (fun r => r = splitS l s) := ⟨h, fun _ => rfl⟩

end Go.Proofs.YtdenmllkjdijlaaGreatDoor
set_option linter.unusedVariables false
set_option linter.unusedSimpArgs false
namespace Go.Proofs.YtdenmllkjdijlaaGreatDoor
open Go.Sy Go.RowKit
def tcheck_vc (u0 : List Line) (K : Int → Prop) : Prop :=
  (u0.length ≤ 140737488355328 →
    (((decide ((u0.length : Int) > 100)) = true →
      (K 2)) ∧
    ((decide ((u0.length : Int) > 100)) = false →
      (∃ inv32 : Int → Int → Prop, ∃ mu32 : Int → Int → Nat, inv32 0 0 ∧
      (∀ (x3 : Int) (x12 : Int), inv32 x3 x12 →
      (((decide (x12 < (u0.length : Int))) = true →
        ((0 ≤ x12 ∧ x12 < (u0.length : Int)) ∧
        (∀ q56, u0[x12.toNat]? = some q56 →
        (q56.F.Data.length ≤ 140737488355328 →
        ((((((decide (q56.Time < 0)) || (decide (q56.Time > 1000000))) || (decide (q56.Bus < 0))) || (decide (q56.Bus ≥ 4))) = true →
          (K 3)) ∧
        (((((decide (q56.Time < 0)) || (decide (q56.Time > 1000000))) || (decide (q56.Bus < 0))) || (decide (q56.Bus ≥ 4))) = false →
          (((decide (q56.Time < x3)) = true →
            (K 12)) ∧
          ((decide (q56.Time < x3)) = false →
            ((((fcheckfr q56.F) != 0) = true →
              (K (fcheckfr q56.F))) ∧
            (((fcheckfr q56.F) != 0) = false →
              (inv32 q56.Time (w64 (x12 + 1)) ∧ mu32 q56.Time (w64 (x12 + 1)) < mu32 x3 x12))))))))))) ∧
      ((decide (x12 < (u0.length : Int))) = false →
        (K 0))))))))

def rcheckl_vc (u0 : List Line) (K : Int → Prop) : Prop :=
  (u0.length ≤ 140737488355328 →
    (((decide ((u0.length : Int) > 100)) = true →
      (K 2)) ∧
    ((decide ((u0.length : Int) > 100)) = false →
      (∃ inv29 : Int → Prop, ∃ mu29 : Int → Nat, inv29 0 ∧
      (∀ (x11 : Int), inv29 x11 →
      (((decide (x11 < (u0.length : Int))) = true →
        ((0 ≤ x11 ∧ x11 < (u0.length : Int)) ∧
        (∀ q55, u0[x11.toNat]? = some q55 →
        (q55.F.Data.length ≤ 140737488355328 →
        ((((((decide (q55.Time < 0)) || (decide (q55.Time > 1000000))) || (decide (q55.Bus < 0))) || (decide (q55.Bus > 3))) = true →
          (K 3)) ∧
        (((((decide (q55.Time < 0)) || (decide (q55.Time > 1000000))) || (decide (q55.Bus < 0))) || (decide (q55.Bus > 3))) = false →
          (((decide (x11 > 0)) = true →
            ((0 ≤ w64 (x11 - 1) ∧ w64 (x11 - 1) < (u0.length : Int)) ∧
            (∀ q160, u0[(w64 (x11 - 1)).toNat]? = some q160 →
            (q160.F.Data.length ≤ 140737488355328 →
            (((decide (q55.Time < q160.Time)) = true →
              (K 12)) ∧
            ((decide (q55.Time < q160.Time)) = false →
              ((((fcheckfr q55.F) != 0) = true →
                (K (fcheckfr q55.F))) ∧
              (((fcheckfr q55.F) != 0) = false →
                (inv29 (w64 (x11 + 1)) ∧ mu29 (w64 (x11 + 1)) < mu29 x11))))))))) ∧
          ((decide (x11 > 0)) = false →
            ((((fcheckfr q55.F) != 0) = true →
              (K (fcheckfr q55.F))) ∧
            (((fcheckfr q55.F) != 0) = false →
              (inv29 (w64 (x11 + 1)) ∧ mu29 (w64 (x11 + 1)) < mu29 x11))))))))))) ∧
      ((decide (x11 < (u0.length : Int))) = false →
        (K 0))))))))

def tline_vc (u0 : List UInt8) (K : (Line × Bool) → Prop) : Prop :=
  ((u0.length ≤ 1000000 ∧ ([32] : List UInt8).length = 1) ∧
    ((splitS u0 ([32] : List UInt8)).length ≤ 140737488355328 →
    (((((splitS u0 ([32] : List UInt8)).length : Int) != 3) = true →
      (K ((⟨0, 0, (⟨0, false, false, false, 0, []⟩ : Frame)⟩ : Line), false))) ∧
    ((((splitS u0 ([32] : List UInt8)).length : Int) != 3) = false →
      ((0 ≤ (0 : Int) ∧ (0 : Int) < ((splitS u0 ([32] : List UInt8)).length : Int)) ∧
      (∀ q66, (splitS u0 ([32] : List UInt8))[(0 : Int).toNat]? = some q66 →
      ((q66.length ≤ 1000000) ∧
      ((0 ≤ (1 : Int) ∧ (1 : Int) < ((splitS u0 ([32] : List UInt8)).length : Int)) ∧
      (∀ q102, (splitS u0 ([32] : List UInt8))[(1 : Int).toNat]? = some q102 →
      ((q102.length ≤ 1000000) ∧
      ((0 ≤ (2 : Int) ∧ (2 : Int) < ((splitS u0 ([32] : List UInt8)).length : Int)) ∧
      (∀ q138, (splitS u0 ([32] : List UInt8))[(2 : Int).toNat]? = some q138 →
      ((q138.length < 4294967281 ∧ ([63, 35] : List UInt8).length < 4294967281 ∧ q138.all (fun b => decide (b.toNat < 128)) = true ∧ ([63, 35] : List UInt8).all (fun b => decide (b.toNat < 128)) = true) ∧
      (((((Lib.indexAny q138 ([63, 35] : List UInt8)) != 3) && ((Lib.indexAny q138 ([63, 35] : List UInt8)) != 8)) = true →
        (K ((⟨0, 0, (⟨0, false, false, false, 0, []⟩ : Frame)⟩ : Line), false))) ∧
      ((((Lib.indexAny q138 ([63, 35] : List UInt8)) != 3) && ((Lib.indexAny q138 ([63, 35] : List UInt8)) != 8)) = false →
        ((0 ≤ (2 : Int) ∧ (2 : Int) < ((splitS u0 ([32] : List UInt8)).length : Int)) ∧
        (∀ q201, (splitS u0 ([32] : List UInt8))[(2 : Int).toNat]? = some q201 →
        ((0 ≤ (Lib.indexAny q138 ([63, 35] : List UInt8)) ∧ (Lib.indexAny q138 ([63, 35] : List UInt8)) ≤ (q201.length : Int)) ∧
        (((q201.take (Lib.indexAny q138 ([63, 35] : List UInt8)).toNat).length ≤ 1000000) ∧
        (((((!(countS q66).2) || (!(countS q102).2)) || (!(thexS (q201.take (Lib.indexAny q138 ([63, 35] : List UInt8)).toNat)).2)) = true →
          (K ((⟨0, 0, (⟨0, false, false, false, 0, []⟩ : Frame)⟩ : Line), false))) ∧
        ((((!(countS q66).2) || (!(countS q102).2)) || (!(thexS (q201.take (Lib.indexAny q138 ([63, 35] : List UInt8)).toNat)).2)) = false →
          ((0 ≤ (2 : Int) ∧ (2 : Int) < ((splitS u0 ([32] : List UInt8)).length : Int)) ∧
          (∀ q279, (splitS u0 ([32] : List UInt8))[(2 : Int).toNat]? = some q279 →
          ((0 ≤ (Lib.indexAny q138 ([63, 35] : List UInt8)) ∧ (Lib.indexAny q138 ([63, 35] : List UInt8)) ≤ (q279.length : Int)) ∧
          (((cutp (q279.drop (Lib.indexAny q138 ([63, 35] : List UInt8)).toNat) ([63] : List UInt8)).2 = true →
            (((cutp (q279.drop (Lib.indexAny q138 ([63, 35] : List UInt8)).toNat) ([63] : List UInt8)).1.length ≤ 1000000) ∧
            (K ((⟨(countS q66).1, (countS q102).1, (⟨(thexS (q201.take (Lib.indexAny q138 ([63, 35] : List UInt8)).toNat)).1, (Lib.indexAny q138 ([63, 35] : List UInt8)) == 8, false, true, (countS (cutp (q279.drop (Lib.indexAny q138 ([63, 35] : List UInt8)).toNat) ([63] : List UInt8)).1).1, []⟩ : Frame)⟩ : Line), (countS (cutp (q279.drop (Lib.indexAny q138 ([63, 35] : List UInt8)).toNat) ([63] : List UInt8)).1).2)))) ∧
          ((cutp (q279.drop (Lib.indexAny q138 ([63, 35] : List UInt8)).toNat) ([63] : List UInt8)).2 = false →
            ((0 ≤ (1 : Int) ∧ (1 : Int) ≤ ((q279.drop (Lib.indexAny q138 ([63, 35] : List UInt8)).toNat).length : Int)) ∧
            (((cutp ((q279.drop (Lib.indexAny q138 ([63, 35] : List UInt8)).toNat).drop (1 : Int).toNat) ([35] : List UInt8)).2 = true →
              ((((((cutp ((q279.drop (Lib.indexAny q138 ([63, 35] : List UInt8)).toNat).drop (1 : Int).toNat) ([35] : List UInt8)).1.length : Int).tmod 2) != 0) = true →
                (K ((⟨0, 0, (⟨0, false, false, false, 0, []⟩ : Frame)⟩ : Line), false))) ∧
              (((((cutp ((q279.drop (Lib.indexAny q138 ([63, 35] : List UInt8)).toNat).drop (1 : Int).toNat) ([35] : List UInt8)).1.length : Int).tmod 2) != 0) = false →
                (∃ inv434 : Int → Line → Prop, ∃ mu434 : Int → Line → Nat, inv434 0 (⟨(countS q66).1, (countS q102).1, (⟨(thexS (q201.take (Lib.indexAny q138 ([63, 35] : List UInt8)).toNat)).1, (Lib.indexAny q138 ([63, 35] : List UInt8)) == 8, true, false, 0, ([] : List Int)⟩ : Frame)⟩ : Line) ∧
                (∀ (x17 : Int) (yb45 : Line), inv434 x17 yb45 →
                (((decide (x17 < ((cutp ((q279.drop (Lib.indexAny q138 ([63, 35] : List UInt8)).toNat).drop (1 : Int).toNat) ([35] : List UInt8)).1.length : Int))) = true →
                  ((0 ≤ x17 ∧ x17 ≤ (w64 (x17 + 2)) ∧ (w64 (x17 + 2)) ≤ ((cutp ((q279.drop (Lib.indexAny q138 ([63, 35] : List UInt8)).toNat).drop (1 : Int).toNat) ([35] : List UInt8)).1.length : Int)) ∧
                  (((((cutp ((q279.drop (Lib.indexAny q138 ([63, 35] : List UInt8)).toNat).drop (1 : Int).toNat) ([35] : List UInt8)).1.take (w64 (x17 + 2)).toNat).drop x17.toNat).length ≤ 1000000) ∧
                  (((!(thexS (((cutp ((q279.drop (Lib.indexAny q138 ([63, 35] : List UInt8)).toNat).drop (1 : Int).toNat) ([35] : List UInt8)).1.take (w64 (x17 + 2)).toNat).drop x17.toNat)).2) = true →
                    (K ((⟨0, 0, (⟨0, false, false, false, 0, []⟩ : Frame)⟩ : Line), false))) ∧
                  ((!(thexS (((cutp ((q279.drop (Lib.indexAny q138 ([63, 35] : List UInt8)).toNat).drop (1 : Int).toNat) ([35] : List UInt8)).1.take (w64 (x17 + 2)).toNat).drop x17.toNat)).2) = false →
                    (((yb45.F.Data.length + 1) * 1 ≤ 140737488355328) ∧
                    (inv434 (w64 (x17 + 2)) (⟨yb45.Time, yb45.Bus, (⟨yb45.F.ID, yb45.F.Long, yb45.F.Fast, yb45.F.Remote, yb45.F.Size, yb45.F.Data ++ [w8 (thexS (((cutp ((q279.drop (Lib.indexAny q138 ([63, 35] : List UInt8)).toNat).drop (1 : Int).toNat) ([35] : List UInt8)).1.take (w64 (x17 + 2)).toNat).drop x17.toNat)).1]⟩ : Frame)⟩ : Line) ∧ mu434 (w64 (x17 + 2)) (⟨yb45.Time, yb45.Bus, (⟨yb45.F.ID, yb45.F.Long, yb45.F.Fast, yb45.F.Remote, yb45.F.Size, yb45.F.Data ++ [w8 (thexS (((cutp ((q279.drop (Lib.indexAny q138 ([63, 35] : List UInt8)).toNat).drop (1 : Int).toNat) ([35] : List UInt8)).1.take (w64 (x17 + 2)).toNat).drop x17.toNat)).1]⟩ : Frame)⟩ : Line) < mu434 x17 yb45))))))) ∧
                ((decide (x17 < ((cutp ((q279.drop (Lib.indexAny q138 ([63, 35] : List UInt8)).toNat).drop (1 : Int).toNat) ([35] : List UInt8)).1.length : Int))) = false →
                  (K (yb45, true))))))))) ∧
            ((cutp ((q279.drop (Lib.indexAny q138 ([63, 35] : List UInt8)).toNat).drop (1 : Int).toNat) ([35] : List UInt8)).2 = false →
              (((((((q279.drop (Lib.indexAny q138 ([63, 35] : List UInt8)).toNat).drop (1 : Int).toNat).length : Int).tmod 2) != 0) = true →
                (K ((⟨0, 0, (⟨0, false, false, false, 0, []⟩ : Frame)⟩ : Line), false))) ∧
              ((((((q279.drop (Lib.indexAny q138 ([63, 35] : List UInt8)).toNat).drop (1 : Int).toNat).length : Int).tmod 2) != 0) = false →
                (∃ inv584 : Int → Line → Prop, ∃ mu584 : Int → Line → Nat, inv584 0 (⟨(countS q66).1, (countS q102).1, (⟨(thexS (q201.take (Lib.indexAny q138 ([63, 35] : List UInt8)).toNat)).1, (Lib.indexAny q138 ([63, 35] : List UInt8)) == 8, false, false, 0, ([] : List Int)⟩ : Frame)⟩ : Line) ∧
                (∀ (x17 : Int) (yb45 : Line), inv584 x17 yb45 →
                (((decide (x17 < (((q279.drop (Lib.indexAny q138 ([63, 35] : List UInt8)).toNat).drop (1 : Int).toNat).length : Int))) = true →
                  ((0 ≤ x17 ∧ x17 ≤ (w64 (x17 + 2)) ∧ (w64 (x17 + 2)) ≤ (((q279.drop (Lib.indexAny q138 ([63, 35] : List UInt8)).toNat).drop (1 : Int).toNat).length : Int)) ∧
                  ((((((q279.drop (Lib.indexAny q138 ([63, 35] : List UInt8)).toNat).drop (1 : Int).toNat).take (w64 (x17 + 2)).toNat).drop x17.toNat).length ≤ 1000000) ∧
                  (((!(thexS ((((q279.drop (Lib.indexAny q138 ([63, 35] : List UInt8)).toNat).drop (1 : Int).toNat).take (w64 (x17 + 2)).toNat).drop x17.toNat)).2) = true →
                    (K ((⟨0, 0, (⟨0, false, false, false, 0, []⟩ : Frame)⟩ : Line), false))) ∧
                  ((!(thexS ((((q279.drop (Lib.indexAny q138 ([63, 35] : List UInt8)).toNat).drop (1 : Int).toNat).take (w64 (x17 + 2)).toNat).drop x17.toNat)).2) = false →
                    (((yb45.F.Data.length + 1) * 1 ≤ 140737488355328) ∧
                    (inv584 (w64 (x17 + 2)) (⟨yb45.Time, yb45.Bus, (⟨yb45.F.ID, yb45.F.Long, yb45.F.Fast, yb45.F.Remote, yb45.F.Size, yb45.F.Data ++ [w8 (thexS ((((q279.drop (Lib.indexAny q138 ([63, 35] : List UInt8)).toNat).drop (1 : Int).toNat).take (w64 (x17 + 2)).toNat).drop x17.toNat)).1]⟩ : Frame)⟩ : Line) ∧ mu584 (w64 (x17 + 2)) (⟨yb45.Time, yb45.Bus, (⟨yb45.F.ID, yb45.F.Long, yb45.F.Fast, yb45.F.Remote, yb45.F.Size, yb45.F.Data ++ [w8 (thexS ((((q279.drop (Lib.indexAny q138 ([63, 35] : List UInt8)).toNat).drop (1 : Int).toNat).take (w64 (x17 + 2)).toNat).drop x17.toNat)).1]⟩ : Frame)⟩ : Line) < mu584 x17 yb45))))))) ∧
                ((decide (x17 < (((q279.drop (Lib.indexAny q138 ([63, 35] : List UInt8)).toNat).drop (1 : Int).toNat).length : Int))) = false →
                  (K (yb45, true)))))))))))))))))))))))))))))))))))))

def sl1_vc (u0 : Line) (u1 : Line) (K : Bool → Prop) : Prop :=
  (u0.F.Data.length ≤ 140737488355328 →
    (u1.F.Data.length ≤ 140737488355328 →
    (K (((u0.Time == u1.Time) && (u0.Bus == u1.Bus)) && (sameS u0.F u1.F)))))
def sl1 (u0 : Line) (u1 : Line) : Bool :=
  ((u0.Time == u1.Time) && (u0.Bus == u1.Bus)) && (sameS u0.F u1.F)
theorem sl1_ok (u0 : Line) (u1 : Line) : sl1_vc u0 u1 (fun r => r = sl1 u0 u1) := (fun _ => (fun _ => (by rfl)))

/-! Pure proofs: no program in sight. -/
/-! ### Lines are checked -/
def chkF : Int → List Line → Int
  | _, [] => 0
  | last, x :: r => if (((decide (x.Time < 0)) || (decide (x.Time > 1000000))) || (decide (x.Bus < 0))) || (decide (x.Bus ≥ 4)) then 3 else if x.Time < last then 12 else if fcheckfr x.F != 0 then fcheckfr x.F else chkF x.Time r
def checkS (l : List Line) : Int := if (l.length : Int) > 100 then 2 else chkF 0 l
theorem drop_cons {α : Type} {l : List α} {k : Nat} {q : α} (h : l[k]? = some q) : l.drop k = q :: l.drop (k + 1) := by
  obtain ⟨h2, h3⟩ := List.getElem?_eq_some_iff.1 h
  rw [List.drop_eq_getElem_cons h2, h3]
theorem tcheck_ok (l : List Line) : tcheck_vc l (fun r => r = checkS l) := by
  intro hl
  refine ⟨fun h => by unfold checkS; rw [if_pos (of_decide_eq_true h)], fun h => ?_⟩
  have hc : checkS l = chkF 0 l := by unfold checkS; rw [if_neg (of_decide_eq_false h)]
  rw [hc]
  refine ⟨fun t i => ∃ k : Nat, i = k ∧ k ≤ l.length ∧ chkF t (l.drop k) = chkF 0 l, fun _ i => l.length - i.toNat, ⟨0, rfl, by omega, rfl⟩, ?_⟩
  rintro t _ ⟨k, rfl, hk, he⟩
  refine ⟨fun h1 => ?_, fun h1 => ?_⟩
  · have hkm : k < l.length := by simpa using h1
    refine ⟨by omega, fun q hq _ => ?_⟩
    rw [Int.toNat_natCast] at hq
    rw [drop_cons hq, chkF] at he
    rw [w64_succ k (by omega)]
    refine ⟨fun h2 => by rw [if_pos h2] at he; exact he, fun h2 => ?_⟩
    rw [if_neg (by rw [h2]; decide)] at he
    refine ⟨fun h3 => by rw [if_pos (of_decide_eq_true h3)] at he; exact he, fun h3 => ?_⟩
    rw [if_neg (of_decide_eq_false h3)] at he
    refine ⟨fun h4 => by rw [if_pos h4] at he; exact he, fun h4 => ?_⟩
    rw [if_neg (by rw [h4]; decide)] at he
    exact ⟨⟨k + 1, rfl, by omega, he⟩, by dsimp only; omega⟩
  · have : k = l.length := by simp at h1; omega
    subst this
    rw [List.drop_length] at he
    exact he
theorem rcheckl_ok (l : List Line) : rcheckl_vc l (fun r => r = checkS l) := by
  intro hl
  refine ⟨fun h => by unfold checkS; rw [if_pos (of_decide_eq_true h)], fun h => ?_⟩
  have hc : checkS l = chkF 0 l := by unfold checkS; rw [if_neg (of_decide_eq_false h)]
  rw [hc]
  refine ⟨fun i => ∃ (k : Nat) (t : Int), i = k ∧ k ≤ l.length ∧ chkF t (l.drop k) = chkF 0 l ∧ (k = 0 → t = 0) ∧ (∀ q, 0 < k → l[k - 1]? = some q → t = q.Time), fun i => l.length - i.toNat, ⟨0, 0, rfl, by omega, rfl, fun _ => rfl, fun _ h => absurd h (by omega)⟩, ?_⟩
  rintro _ ⟨k, t, rfl, hk, he, h0, hp⟩
  refine ⟨fun h1 => ?_, fun h1 => ?_⟩
  · have hkm : k < l.length := by simpa using h1
    refine ⟨by omega, fun q hq _ => ?_⟩
    rw [Int.toNat_natCast] at hq
    rw [drop_cons hq, chkF] at he
    rw [w64_succ k (by omega)]
    have e4 : (decide (q.Bus > 3)) = (decide (q.Bus ≥ 4)) := by rw [Bool.eq_iff_iff]; simp; omega
    rw [e4]
    refine ⟨fun h2 => by rw [if_pos h2] at he; exact he, fun h2 => ?_⟩
    rw [if_neg (by rw [h2]; decide)] at he
    have hlast : chkF q.Time (l.drop (k + 1)) = chkF 0 l → (∃ (k_1 : Nat) (t : Int), ((k + 1 : Nat) : Int) = k_1 ∧ k_1 ≤ l.length ∧ chkF t (l.drop k_1) = chkF 0 l ∧ (k_1 = 0 → t = 0) ∧ (∀ q, 0 < k_1 → l[k_1 - 1]? = some q → t = q.Time)) ∧ l.length - ((k + 1 : Nat) : Int).toNat < l.length - (k : Int).toNat := fun he =>
      ⟨⟨k + 1, q.Time, rfl, by omega, he, fun h => absurd h (by omega), fun x _ hx => by rw [Nat.add_sub_cancel, hq] at hx; cases hx; rfl⟩, by omega⟩
    refine ⟨fun h3 => ?_, fun h3 => ?_⟩
    · have h3 : 0 < k := by have := of_decide_eq_true h3; omega
      have ew : w64 ((k : Int) - 1) = ((k - 1 : Nat) : Int) := by rw [w64_eq _ (by omega)]; omega
      rw [ew]
      refine ⟨by omega, fun p hpp _ => ?_⟩
      rw [Int.toNat_natCast] at hpp
      obtain rfl := hp p h3 hpp
      refine ⟨fun h5 => by rw [if_pos (of_decide_eq_true h5)] at he; exact he, fun h5 => ?_⟩
      rw [if_neg (of_decide_eq_false h5)] at he
      refine ⟨fun h4 => by rw [if_pos h4] at he; exact he, fun h4 => ?_⟩
      rw [if_neg (by rw [h4]; decide)] at he
      exact hlast he
    · have h3 : k = 0 := by have := of_decide_eq_false h3; omega
      obtain rfl := h0 h3
      have h6 : ¬ q.Time < 0 := by
        intro hn
        simp [hn] at h2
      rw [if_neg h6] at he
      refine ⟨fun h4 => by rw [if_pos h4] at he; exact he, fun h4 => ?_⟩
      rw [if_neg (by rw [h4]; decide)] at he
      exact hlast he
  · have : k = l.length := by simp at h1; omega
    subst this
    rw [List.drop_length] at he
    exact he
/-! ### A line is read -/
def zeroL : Line := ⟨0, 0, ⟨0, false, false, false, 0, []⟩⟩
def addB (x : Line) (b : Int) : Line := ⟨x.Time, x.Bus, ⟨x.F.ID, x.F.Long, x.F.Fast, x.F.Remote, x.F.Size, x.F.Data ++ [b]⟩⟩
def dataF (x : Line) : List UInt8 → Line × Bool
  | a :: b :: r => if (thexS [a, b]).2 then dataF (addB x (w8 (thexS [a, b]).1)) r else (zeroL, false)
  | _ => (x, true)
def lineS (u0 : List UInt8) : Line × Bool :=
  match splitA 32 u0 with
  | [w0, w1, w2] =>
    let k := Lib.indexAny w2 [63, 35]
    if k ≠ 3 ∧ k ≠ 8 then (zeroL, false) else
    let h := thexS (w2.take k.toNat)
    if (((!(countS w0).2) || (!(countS w1).2)) || (!h.2)) then (zeroL, false) else
    let rest := w2.drop k.toNat
    if (cutS rest [63]).2 then (⟨(countS w0).1, (countS w1).1, ⟨h.1, k == 8, false, true, (countS (cutS rest [63]).1).1, []⟩⟩, (countS (cutS rest [63]).1).2) else
    let c := cutS (rest.drop 1) [35]
    if c.1.length % 2 ≠ 0 then (zeroL, false) else dataF ⟨(countS w0).1, (countS w1).1, ⟨h.1, k == 8, c.2, false, 0, []⟩⟩ c.1
  | _ => (zeroL, false)
theorem data_loop (d : List UInt8) (hd : d.length ≤ 1000000) (he : d.length % 2 = 0) (x : Line) (hx : x.F.Data = []) (K : Line × Bool → Prop) (hK : K (dataF x d)) :
    ∃ inv : Int → Line → Prop, ∃ mu : Int → Line → Nat, inv 0 x ∧ ∀ (i : Int) (y : Line), inv i y →
      (((decide (i < (d.length : Int))) = true →
        ((0 ≤ i ∧ i ≤ (w64 (i + 2)) ∧ (w64 (i + 2)) ≤ (d.length : Int)) ∧
        ((((d.take (w64 (i + 2)).toNat).drop i.toNat).length ≤ 1000000) ∧
        (((!(thexS ((d.take (w64 (i + 2)).toNat).drop i.toNat)).2) = true → (K (zeroL, false))) ∧
        ((!(thexS ((d.take (w64 (i + 2)).toNat).drop i.toNat)).2) = false →
          (((y.F.Data.length + 1) * 1 ≤ 140737488355328) ∧
          (inv (w64 (i + 2)) (addB y (w8 (thexS ((d.take (w64 (i + 2)).toNat).drop i.toNat)).1)) ∧ mu (w64 (i + 2)) (addB y (w8 (thexS ((d.take (w64 (i + 2)).toNat).drop i.toNat)).1)) < mu i y))))))) ∧
      ((decide (i < (d.length : Int))) = false → K (y, true))) := by
  refine ⟨fun i y => ∃ k : Nat, i = ((2 * k : Nat) : Int) ∧ 2 * k ≤ d.length ∧ dataF y (d.drop (2 * k)) = dataF x d ∧ y.F.Data.length = k, fun i _ => d.length - i.toNat, ⟨0, rfl, by omega, rfl, by rw [hx]; rfl⟩, ?_⟩
  rintro _ y ⟨k, rfl, hk, hf, hy⟩
  refine ⟨fun h1 => ?_, fun h1 => ?_⟩
  · have hkm : 2 * k < d.length := by have := of_decide_eq_true h1; omega
    have ew : w64 (((2 * k : Nat) : Int) + 2) = ((2 * (k + 1) : Nat) : Int) := by rw [w64_eq _ (by omega)]; omega
    obtain ⟨a, b, hab⟩ : ∃ a b, d.drop (2 * k) = a :: b :: d.drop (2 * (k + 1)) := by
      refine ⟨d[2 * k], d[2 * k + 1]'(by omega), ?_⟩
      rw [List.drop_eq_getElem_cons hkm, List.drop_eq_getElem_cons (show 2 * k + 1 < d.length by omega)]
      rfl
    have et : (d.take (2 * (k + 1))).drop (2 * k) = [a, b] := by
      rw [List.drop_take, hab]
      have : 2 * (k + 1) - 2 * k = 2 := by omega
      rw [this]
      rfl
    rw [ew, Int.toNat_natCast, Int.toNat_natCast, et]
    rw [hab, dataF] at hf
    refine ⟨by omega, by simp, fun h2 => ?_, fun h2 => ?_⟩
    · have h2 : (thexS [a, b]).2 = false := by simpa using h2
      rw [if_neg (by rw [h2]; decide)] at hf
      rw [hf]; exact hK
    · have h2 : (thexS [a, b]).2 = true := by simpa using h2
      rw [if_pos h2] at hf
      refine ⟨by omega, ⟨k + 1, rfl, by omega, hf, ?_⟩, by dsimp only; omega⟩
      show (y.F.Data ++ [_]).length = k + 1
      rw [List.length_append, hy]; rfl
  · have h1 : 2 * k = d.length := by have := of_decide_eq_false h1; omega
    rw [h1, List.drop_length, dataF] at hf
    · rw [hf]; exact hK
    · intro a b r h; cases h
theorem split_mem_len (c : UInt8) : ∀ (l : List UInt8) (w : List UInt8), w ∈ splitA c l → w.length ≤ l.length
  | [], w, h => by simp [splitA] at h; subst h; simp
  | b :: r, w, h => by
    rw [splitA] at h
    split at h
    · rcases List.mem_cons.1 h with rfl | h
      · simp
      · have := split_mem_len c r w h; rw [List.length_cons]; omega
    · split at h
      · next h2 => exact absurd h2 (splitA_ne c r)
      · next x t h2 =>
        rcases List.mem_cons.1 h with rfl | h
        · have := split_mem_len c r x (by rw [h2]; exact List.mem_cons_self)
          rw [List.length_cons, List.length_cons]; omega
        · have := split_mem_len c r w (by rw [h2]; exact List.mem_cons_of_mem _ h)
          rw [List.length_cons]; omega
theorem split_mem (c : UInt8) : ∀ (l : List UInt8) (w : List UInt8), w ∈ splitA c l → ∀ b ∈ w, b ∈ l
  | [], w, h => by simp [splitA] at h; subst h; simp
  | d :: r, w, h => by
    intro b hb
    rw [splitA] at h
    split at h
    · rcases List.mem_cons.1 h with rfl | h
      · cases hb
      · exact List.mem_cons_of_mem _ (split_mem c r w h b hb)
    · split at h
      · next h2 => exact absurd h2 (splitA_ne c r)
      · next x t h2 =>
        rcases List.mem_cons.1 h with rfl | h
        · rcases List.mem_cons.1 hb with rfl | hb
          · exact List.mem_cons_self
          · exact List.mem_cons_of_mem _ (split_mem c r x (by rw [h2]; exact List.mem_cons_self) b hb)
        · exact List.mem_cons_of_mem _ (split_mem c r w (by rw [h2]; exact List.mem_cons_of_mem _ h) b hb)
theorem indexAny_le (s : List UInt8) : ∀ l : List UInt8, Lib.indexAny l s ≤ l.length
  | [] => by simp [Lib.indexAny]
  | b :: r => by
    have := indexAny_le s r
    rw [Lib.indexAny, List.length_cons]
    split
    · omega
    · split <;> omega
theorem indexAny_lt (s : List UInt8) : ∀ l : List UInt8, 0 ≤ Lib.indexAny l s → Lib.indexAny l s < l.length
  | [], h => by simp [Lib.indexAny] at h
  | b :: r, h => by
    have h2 := indexAny_lt s r
    rw [Lib.indexAny, List.length_cons] at *
    split at h
    · next h1 => rw [if_pos h1]; omega
    · next h1 =>
      rw [if_neg h1]
      split at h
      · omega
      · next h3 =>
        rw [if_neg h3]
        have h4 : Lib.indexAny r s ≠ -1 := by simpa using h3
        have := Lib.indexAny_ge s r
        have := h2 (by omega)
        omega
theorem tmod2 (n : Nat) : (((n : Int).tmod 2) != 0) = decide (n % 2 ≠ 0) := by
  have e : (n : Int).tmod 2 = ((n % 2 : Nat) : Int) := rfl
  rw [e, Bool.eq_iff_iff]
  simp
  omega
theorem cutS_len (l p : List UInt8) : (cutS l p).1.length ≤ l.length := by
  unfold cutS
  cases hasp0 l p
  · exact Nat.le_refl _
  · show (l.drop _).length ≤ _
    rw [List.length_drop]; omega
theorem cutS_no {l p : List UInt8} (h : (cutS l p).2 = false) : (cutS l p).1 = l := by
  unfold cutS at *
  cases h1 : hasp0 l p
  · rfl
  · rw [h1] at h; cases h
def asc (l : List UInt8) : Bool := l.all (fun b => decide (b.toNat < 128))
theorem asc_split {l w : List UInt8} {c : UInt8} (h : asc l = true) (hw : w ∈ splitA c l) : asc w = true := by
  unfold asc at *
  rw [List.all_eq_true] at *
  exact fun b hb => h b (split_mem c l w hw b hb)
theorem tline_ok (l : List UInt8) (h : l.length ≤ 1000000 ∧ asc l = true) : tline_vc l (fun r => r = lineS l) := by
  obtain ⟨hl, ha⟩ := h
  refine ⟨⟨hl, rfl⟩, ?_⟩
  have e : splitS l ([32] : List UInt8) = splitA 32 l := rfl
  rw [e]
  intro _
  refine ⟨fun h1 => ?_, fun h1 => ?_⟩
  · have h1 : (splitA 32 l).length ≠ 3 := by have : ((splitA 32 l).length : Int) ≠ 3 := by simpa using h1
                                             omega
    unfold lineS
    split
    · next w0 w1 w2 hw => rw [hw] at h1; exact absurd rfl h1
    · rfl
  · have h1 : (splitA 32 l).length = 3 := by
      have : ((splitA 32 l).length : Int) = 3 := by simpa using h1
      omega
    obtain ⟨w0, w1, w2, hw⟩ : ∃ w0 w1 w2, splitA 32 l = [w0, w1, w2] := by
      match hs : splitA 32 l with
      | [a, b, c] => exact ⟨a, b, c, rfl⟩
      | [] => rw [hs] at h1; simp at h1
      | [_] => rw [hs] at h1; simp at h1
      | [_, _] => rw [hs] at h1; simp at h1
      | _ :: _ :: _ :: _ :: _ => rw [hs] at h1; simp at h1
    have l0 := split_mem_len 32 l w0 (by rw [hw]; simp)
    have l1 := split_mem_len 32 l w1 (by rw [hw]; simp)
    have l2 := split_mem_len 32 l w2 (by rw [hw]; simp)
    have a2 := asc_split ha (show w2 ∈ splitA 32 l by rw [hw]; simp)
    have hk := indexAny_le [63, 35] w2
    have hL : lineS l = lineS l := rfl
    conv at hL => rhs; unfold lineS
    rw [hw] at hL ⊢
    simp only at hL
    refine ⟨by simp, ?_⟩
    rintro _ ⟨⟩
    refine ⟨by omega, by simp, ?_⟩
    rintro _ ⟨⟩
    refine ⟨by omega, by simp, ?_⟩
    rintro _ ⟨⟩
    refine ⟨⟨by omega, by decide, a2, by decide⟩, fun h2 => ?_, fun h2 => ?_⟩
    · have h2 : Lib.indexAny w2 [63, 35] ≠ 3 ∧ Lib.indexAny w2 [63, 35] ≠ 8 := by simpa using h2
      rw [if_pos h2] at hL
      exact hL.symm
    have h2 : ¬ (Lib.indexAny w2 [63, 35] ≠ 3 ∧ Lib.indexAny w2 [63, 35] ≠ 8) := by
      intro h3
      simp [h3] at h2
    rw [if_neg h2] at hL
    have hk0 : 3 ≤ Lib.indexAny w2 [63, 35] := by omega
    refine ⟨by simp, ?_⟩
    rintro _ ⟨⟩
    refine ⟨by omega, by rw [List.length_take]; omega, fun h3 => ?_, fun h3 => ?_⟩
    · rw [if_pos h3] at hL
      exact hL.symm
    rw [if_neg (by rw [h3]; decide)] at hL
    refine ⟨by simp, ?_⟩
    rintro _ ⟨⟩
    have lr : (w2.drop (Lib.indexAny w2 [63, 35]).toNat).length ≤ 1000000 := by rw [List.length_drop]; omega
    have hlt := indexAny_lt [63, 35] w2 (by omega)
    have hone : 1 ≤ (w2.drop (Lib.indexAny w2 [63, 35]).toNat).length := by rw [List.length_drop]; omega
    refine ⟨by omega, fun h4 => ?_, fun h4 => ?_⟩
    · have h4' : (cutS (w2.drop (Lib.indexAny w2 [63, 35]).toNat) [63]).2 = true := h4
      rw [if_pos h4'] at hL
      refine ⟨Nat.le_trans (cutS_len _ _) lr, ?_⟩
      exact hL.symm
    have h4' : (cutS (w2.drop (Lib.indexAny w2 [63, 35]).toNat) [63]).2 = false := h4
    rw [if_neg (by rw [h4']; decide)] at hL
    have ln : ((w2.drop (Lib.indexAny w2 [63, 35]).toNat).drop 1).length ≤ 1000000 := by rw [List.length_drop]; omega
    refine ⟨by omega, fun h5 => ?_, fun h5 => ?_⟩
    · have h5' : (cutS ((w2.drop (Lib.indexAny w2 [63, 35]).toNat).drop 1) [35]).2 = true := h5
      have e1 : ((1 : Int)).toNat = 1 := rfl
      rw [h5'] at hL
      have ec : cutp ((w2.drop (Lib.indexAny w2 [63, 35]).toNat).drop 1) [35] = cutS ((w2.drop (Lib.indexAny w2 [63, 35]).toNat).drop 1) [35] := rfl
      rw [e1, ec, tmod2]
      refine ⟨fun h6 => ?_, fun h6 => ?_⟩
      · rw [if_pos (of_decide_eq_true h6)] at hL
        exact hL.symm
      · rw [if_neg (of_decide_eq_false h6)] at hL
        have h6 := Decidable.not_not.1 (of_decide_eq_false h6)
        exact data_loop _ (Nat.le_trans (cutS_len _ _) ln) h6 _ rfl (fun r => r = lineS l) hL.symm
    · have h5' : (cutS ((w2.drop (Lib.indexAny w2 [63, 35]).toNat).drop 1) [35]).2 = false := h5
      have e1 : ((1 : Int)).toNat = 1 := rfl
      rw [h5', cutS_no h5'] at hL
      rw [e1, tmod2]
      refine ⟨fun h6 => ?_, fun h6 => ?_⟩
      · rw [if_pos (of_decide_eq_true h6)] at hL
        exact hL.symm
      · rw [if_neg (of_decide_eq_false h6)] at hL
        have h6 := Decidable.not_not.1 (of_decide_eq_false h6)
        exact data_loop _ ln h6 _ rfl (fun r => r = lineS l) hL.symm

end Go.Proofs.YtdenmllkjdijlaaGreatDoor
set_option linter.unusedVariables false
set_option linter.unusedSimpArgs false
namespace Go.Proofs.YtdenmllkjdijlaaGreatDoor
open Go.Sy Go.RowKit
def leqf_vc (u0 : List Line) (u1 : List Line) (u2 : Line → Line → Bool) (K : Bool → Prop) : Prop :=
  (u0.length ≤ 140737488355328 →
    (u1.length ≤ 140737488355328 →
    ((((u0.length : Int) != (u1.length : Int)) = true →
      (K false)) ∧
    (((u0.length : Int) != (u1.length : Int)) = false →
      (∃ inv41 : Int → Prop, ∃ mu41 : Int → Nat, inv41 0 ∧
      (∀ (x17 : Int), inv41 x17 →
      (((decide (x17 < (u0.length : Int))) = true →
        ((0 ≤ x17 ∧ x17 < (u0.length : Int)) ∧
        (∀ q67, u0[x17.toNat]? = some q67 →
        (q67.F.Data.length ≤ 140737488355328 →
        ((0 ≤ x17 ∧ x17 < (u1.length : Int)) ∧
        (∀ q100, u1[x17.toNat]? = some q100 →
        (q100.F.Data.length ≤ 140737488355328 →
        (((!(u2 q67 q100)) = true →
          (K false)) ∧
        ((!(u2 q67 q100)) = false →
          (inv41 (w64 (x17 + 1)) ∧ mu41 (w64 (x17 + 1)) < mu41 x17)))))))))) ∧
      ((decide (x17 < (u0.length : Int))) = false →
        (K true)))))))))

def tprint_vc (u0 : List Line) (K : ((List UInt8) × Int) → Prop) : Prop :=
  (u0.length ≤ 140737488355328 →
    ((((checkS u0) != 0) = true →
      (K ([], (checkS u0)))) ∧
    (((checkS u0) != 0) = false →
      (∃ inv48 : Int → (List UInt8) → Prop, ∃ mu48 : Int → (List UInt8) → Nat, inv48 0 ([] : List UInt8) ∧
      (∀ (x17 : Int) (yb35 : List UInt8), inv48 x17 yb35 →
      (((decide (x17 < (u0.length : Int))) = true →
        (∃ inv68 : (List UInt8) → Prop,
        ((0 ≤ x17 ∧ x17 < (u0.length : Int)) ∧
        (∀ q92, u0[x17.toNat]? = some q92 →
        (q92.F.Data.length ≤ 140737488355328 →
        ((-9223372036854775808 ≤ q92.Time ∧ q92.Time ≤ 9223372036854775807) ∧
        ((((itoaS q92.Time).length : Int) + (([32] : List UInt8).length : Int) ≤ 9223372036854775807) ∧
        ((-9223372036854775808 ≤ q92.Bus ∧ q92.Bus ≤ 9223372036854775807) ∧
        (((((itoaS q92.Time) ++ ([32] : List UInt8)).length : Int) + ((itoaS q92.Bus).length : Int) ≤ 9223372036854775807) ∧
        ((((((itoaS q92.Time) ++ ([32] : List UInt8)) ++ (itoaS q92.Bus)).length : Int) + (([32] : List UInt8).length : Int) ≤ 9223372036854775807) ∧
        ((0 ≤ q92.F.ID ∧ q92.F.ID < 4611686018427387904) ∧
        (((((((itoaS q92.Time) ++ ([32] : List UInt8)) ++ (itoaS q92.Bus)) ++ ([32] : List UInt8)).length : Int) + ((numS q92.F.ID q92.F.Long).length : Int) ≤ 9223372036854775807) ∧
        ((yb35.length + (((((itoaS q92.Time) ++ ([32] : List UInt8)) ++ (itoaS q92.Bus)) ++ ([32] : List UInt8)) ++ (numS q92.F.ID q92.F.Long)).length ≤ 140737488355328) ∧
        (∃ inv191 : (List UInt8) → Prop,
        ((q92.F.Remote = true →
          ((-9223372036854775808 ≤ q92.F.Size ∧ q92.F.Size ≤ 9223372036854775807) ∧
          (((([63] : List UInt8).length : Int) + ((itoaS q92.F.Size).length : Int) ≤ 9223372036854775807) ∧
          (((yb35 ++ (((((itoaS q92.Time) ++ ([32] : List UInt8)) ++ (itoaS q92.Bus)) ++ ([32] : List UInt8)) ++ (numS q92.F.ID q92.F.Long))).length + (([63] : List UInt8) ++ (itoaS q92.F.Size)).length ≤ 140737488355328) ∧
          (inv191 ((yb35 ++ (((((itoaS q92.Time) ++ ([32] : List UInt8)) ++ (itoaS q92.Bus)) ++ ([32] : List UInt8)) ++ (numS q92.F.ID q92.F.Long))) ++ (([63] : List UInt8) ++ (itoaS q92.F.Size)))))))) ∧
        (q92.F.Remote = false →
          ((q92.F.Fast = true →
            (((yb35 ++ (((((itoaS q92.Time) ++ ([32] : List UInt8)) ++ (itoaS q92.Bus)) ++ ([32] : List UInt8)) ++ (numS q92.F.ID q92.F.Long))).length + ([35, 35] : List UInt8).length ≤ 140737488355328) ∧
            (inv191 ((yb35 ++ (((((itoaS q92.Time) ++ ([32] : List UInt8)) ++ (itoaS q92.Bus)) ++ ([32] : List UInt8)) ++ (numS q92.F.ID q92.F.Long))) ++ ([35, 35] : List UInt8))))) ∧
          (q92.F.Fast = false →
            (((yb35 ++ (((((itoaS q92.Time) ++ ([32] : List UInt8)) ++ (itoaS q92.Bus)) ++ ([32] : List UInt8)) ++ (numS q92.F.ID q92.F.Long))).length + ([35] : List UInt8).length ≤ 140737488355328) ∧
            (inv191 ((yb35 ++ (((((itoaS q92.Time) ++ ([32] : List UInt8)) ++ (itoaS q92.Bus)) ++ ([32] : List UInt8)) ++ (numS q92.F.ID q92.F.Long))) ++ ([35] : List UInt8)))))))) ∧
        (∀ (yb35vv : List UInt8), inv191 yb35vv →
          (∃ inv216 : Int → (List UInt8) → Prop, ∃ mu216 : Int → (List UInt8) → Nat, inv216 0 yb35vv ∧
          (∀ (x59 : Int) (yb35vvv : List UInt8), inv216 x59 yb35vvv →
          (((decide (x59 < (q92.F.Data.length : Int))) = true →
            ((0 ≤ x59 ∧ x59 < (q92.F.Data.length : Int)) ∧
            (∀ q240, q92.F.Data[x59.toNat]? = some q240 →
            ((0 ≤ bShr .u8 q240 4 ∧ bShr .u8 q240 4 ≤ (w8 ((bShr .u8 q240 4) + 1)) ∧ (w8 ((bShr .u8 q240 4) + 1)) ≤ (([48, 49, 50, 51, 52, 53, 54, 55, 56, 57, 97, 98, 99, 100, 101, 102] : List UInt8).length : Int)) ∧
            ((0 ≤ bAnd .u8 q240 15 ∧ bAnd .u8 q240 15 ≤ (w8 ((bAnd .u8 q240 15) + 1)) ∧ (w8 ((bAnd .u8 q240 15) + 1)) ≤ (([48, 49, 50, 51, 52, 53, 54, 55, 56, 57, 97, 98, 99, 100, 101, 102] : List UInt8).length : Int)) ∧
            (((((([48, 49, 50, 51, 52, 53, 54, 55, 56, 57, 97, 98, 99, 100, 101, 102] : List UInt8).take (w8 ((bShr .u8 q240 4) + 1)).toNat).drop (bShr .u8 q240 4).toNat).length : Int) + (((([48, 49, 50, 51, 52, 53, 54, 55, 56, 57, 97, 98, 99, 100, 101, 102] : List UInt8).take (w8 ((bAnd .u8 q240 15) + 1)).toNat).drop (bAnd .u8 q240 15).toNat).length : Int) ≤ 9223372036854775807) ∧
            ((yb35vvv.length + (((([48, 49, 50, 51, 52, 53, 54, 55, 56, 57, 97, 98, 99, 100, 101, 102] : List UInt8).take (w8 ((bShr .u8 q240 4) + 1)).toNat).drop (bShr .u8 q240 4).toNat) ++ ((([48, 49, 50, 51, 52, 53, 54, 55, 56, 57, 97, 98, 99, 100, 101, 102] : List UInt8).take (w8 ((bAnd .u8 q240 15) + 1)).toNat).drop (bAnd .u8 q240 15).toNat)).length ≤ 140737488355328) ∧
            (inv216 (w64 (x59 + 1)) (yb35vvv ++ (((([48, 49, 50, 51, 52, 53, 54, 55, 56, 57, 97, 98, 99, 100, 101, 102] : List UInt8).take (w8 ((bShr .u8 q240 4) + 1)).toNat).drop (bShr .u8 q240 4).toNat) ++ ((([48, 49, 50, 51, 52, 53, 54, 55, 56, 57, 97, 98, 99, 100, 101, 102] : List UInt8).take (w8 ((bAnd .u8 q240 15) + 1)).toNat).drop (bAnd .u8 q240 15).toNat))) ∧ mu216 (w64 (x59 + 1)) (yb35vvv ++ (((([48, 49, 50, 51, 52, 53, 54, 55, 56, 57, 97, 98, 99, 100, 101, 102] : List UInt8).take (w8 ((bShr .u8 q240 4) + 1)).toNat).drop (bShr .u8 q240 4).toNat) ++ ((([48, 49, 50, 51, 52, 53, 54, 55, 56, 57, 97, 98, 99, 100, 101, 102] : List UInt8).take (w8 ((bAnd .u8 q240 15) + 1)).toNat).drop (bAnd .u8 q240 15).toNat))) < mu216 x59 yb35vvv)))))))) ∧
          ((decide (x59 < (q92.F.Data.length : Int))) = false →
            ((yb35vvv.length + ([10] : List UInt8).length ≤ 140737488355328) ∧
            (inv68 (yb35vvv ++ ([10] : List UInt8))))))))))))))))))))) ∧
        (∀ (yb35v : List UInt8), inv68 yb35v →
          (inv48 (w64 (x17 + 1)) yb35v ∧ mu48 (w64 (x17 + 1)) yb35v < mu48 x17 yb35)))) ∧
      ((decide (x17 < (u0.length : Int))) = false →
        (K (yb35, 0)))))))))

def tparse_vc (u0 : List UInt8) (K : ((List Line) × Int × Int) → Prop) : Prop :=
  (((decide ((u0.length : Int) > 40000)) = true →
      (K ([], 0, 2))) ∧
    ((decide ((u0.length : Int) > 40000)) = false →
      (((u0 == ([] : List UInt8)) = true →
        (K ([], 0, 0))) ∧
      ((u0 == ([] : List UInt8)) = false →
        ((u0.length ≤ 1000000 ∧ ([10] : List UInt8).length = 1) ∧
        ((splitS u0 ([10] : List UInt8)).length ≤ 140737488355328 →
        ((0 ≤ w64 (((splitS u0 ([10] : List UInt8)).length : Int) - 1) ∧ w64 (((splitS u0 ([10] : List UInt8)).length : Int) - 1) ≤ ((splitS u0 ([10] : List UInt8)).length : Int)) ∧
        (∃ inv84 : (List Line) → Int → Prop, ∃ mu84 : (List Line) → Int → Nat, inv84 ([] : List Line) 0 ∧
        (∀ (x2 : List Line) (x24 : Int), inv84 x2 x24 →
        (((decide (x24 < (((splitS u0 ([10] : List UInt8)).take (w64 (((splitS u0 ([10] : List UInt8)).length : Int) - 1)).toNat).length : Int))) = true →
          ((0 ≤ x24 ∧ x24 < (((splitS u0 ([10] : List UInt8)).take (w64 (((splitS u0 ([10] : List UInt8)).length : Int) - 1)).toNat).length : Int)) ∧
          (∀ q116, ((splitS u0 ([10] : List UInt8)).take (w64 (((splitS u0 ([10] : List UInt8)).length : Int) - 1)).toNat)[x24.toNat]? = some q116 →
          ((q116.length ≤ 1000000 ∧ asc q116 = true) ∧
          ((lineS q116).1.F.Data.length ≤ 140737488355328 →
          (((!(lineS q116).2) = true →
            (K ([], x24, 1))) ∧
          ((!(lineS q116).2) = false →
            (((x2.length + 1) * 64 ≤ 140737488355328) ∧
            (inv84 (x2 ++ [(lineS q116).1]) (w64 (x24 + 1)) ∧ mu84 (x2 ++ [(lineS q116).1]) (w64 (x24 + 1)) < mu84 x2 x24))))))))) ∧
        ((decide (x24 < (((splitS u0 ([10] : List UInt8)).take (w64 (((splitS u0 ([10] : List UInt8)).length : Int) - 1)).toNat).length : Int))) = false →
          ((0 ≤ w64 (((splitS u0 ([10] : List UInt8)).length : Int) - 1) ∧ w64 (((splitS u0 ([10] : List UInt8)).length : Int) - 1) < ((splitS u0 ([10] : List UInt8)).length : Int)) ∧
          (∀ q220, (splitS u0 ([10] : List UInt8))[(w64 (((splitS u0 ([10] : List UInt8)).length : Int) - 1)).toNat]? = some q220 →
          (((q220 != ([] : List UInt8)) = true →
            (K ([], w64 (((splitS u0 ([10] : List UInt8)).length : Int) - 1), 1))) ∧
          ((q220 != ([] : List UInt8)) = false →
            ((((checkS x2) != 0) = true →
              (K ([], 0, (checkS x2)))) ∧
            (((checkS x2) != 0) = false →
              (K (x2, 0, 0)))))))))))))))))))

/-! Pure proofs: no program in sight. -/
def leqfS (a b : List Line) (p : Line → Line → Bool) : Bool := decide (a.length = b.length) && (a.zip b).all fun x => p x.1 x.2
theorem leqf_ok (a b : List Line) (p : Line → Line → Bool) : leqf_vc a b p (fun r => r = leqfS a b p) := by
  intro ha hb
  refine ⟨fun h => ?_, fun h => ?_⟩
  · have h : ¬ (a.length : Int) = (b.length : Int) := by simpa using h
    have h : a.length ≠ b.length := by omega
    simp [leqfS, h]
  · have h : a.length = b.length := by
      have h : (a.length : Int) = (b.length : Int) := by simpa only [bne_eq_false_iff_eq] using h
      omega
    refine rg0 ha (fun k => ∀ x ∈ (a.zip b).take k, p x.1 x.2 = true) (fun x hx => by simp at hx) ?_ ?_
    · intro k q hk hq hj inv mu hn
      refine fun _ => ⟨by omega, fun y hy _ => ?_⟩
      rw [Int.toNat_natCast] at hy
      have hz : (a.zip b)[k]? = some (q, y) := by rw [List.getElem?_zip_eq_some]; exact ⟨hq, hy⟩
      refine ⟨fun h2 => ?_, fun h2 => hn fun x hx => ?_⟩
      · have h2 : p q y = false := by simpa using h2
        have : (a.zip b).all (fun x => p x.1 x.2) = false := List.all_eq_false.2 ⟨(q, y), List.mem_of_getElem? hz, by simp [h2]⟩
        simp [leqfS, this]
      · have h2 : p q y = true := by simpa using h2
        rw [List.take_add_one, hz] at hx
        rcases List.mem_append.1 hx with hx | hx
        · exact hj x hx
        · obtain rfl : x = (q, y) := by simpa using hx
          exact h2
    · intro hj
      rw [List.take_of_length_le (by simp; omega)] at hj
      have : (a.zip b).all (fun x => p x.1 x.2) = true := List.all_eq_true.2 hj
      simp [leqfS, this, h]
/-! ### Lines are printed -/
def hex2 (b : Int) : List UInt8 := [hexd (b.toNat / 16), hexd (b.toNat % 16)]
def headP (x : Line) : List UInt8 := (((((itoaS x.Time) ++ ([32] : List UInt8)) ++ (itoaS x.Bus)) ++ ([32] : List UInt8)) ++ (numS x.F.ID x.F.Long))
def midP (x : Line) : List UInt8 := if x.F.Remote = true then ([63] : List UInt8) ++ (itoaS x.F.Size) else if x.F.Fast = true then [35, 35] else [35]
def dataP (d : List Int) : List UInt8 := (d.map hex2).flatten
def lineP (x : Line) : List UInt8 := headP x ++ (midP x ++ (dataP x.F.Data ++ [10]))
def linesP (l : List Line) : List UInt8 := (l.map lineP).flatten
def printS (l : List Line) : List UInt8 × Int := if checkS l = 0 then (linesP l, 0) else ([], checkS l)
/-- What is known of a line that is right. -/
def okL (x : Line) : Prop := (0 ≤ x.Time ∧ x.Time ≤ 1000000) ∧ (0 ≤ x.Bus ∧ x.Bus ≤ 3) ∧ fcheckfr x.F = 0
theorem chkF_ok : ∀ (l : List Line) (t : Int), chkF t l = 0 → ∀ x ∈ l, okL x
  | [], _, _, x, hx => by cases hx
  | y :: r, t, h, x, hx => by
    rw [chkF] at h
    split at h
    · cases h
    · next h1 =>
      split at h
      · cases h
      · split at h
        · next h3 => rw [h] at h3; cases h3
        · next h3 =>
          rcases List.mem_cons.1 hx with rfl | hx
          · refine ⟨?_, ?_, by simpa using h3⟩
            · simp at h1; omega
            · simp at h1; omega
          · exact chkF_ok r _ h x hx
theorem checkS_ok {l : List Line} (h : checkS l = 0) : l.length ≤ 100 ∧ chkF 0 l = 0 := by
  unfold checkS at h
  split at h
  · cases h
  · exact ⟨by omega, h⟩
theorem fcheck0 {f : Frame} (h : fcheckfr f = 0) : (0 ≤ f.ID ∧ f.ID ≤ 536870911 ∧ (f.Long = false → f.ID ≤ 2047)) ∧ (f.Remote = true → f.Fast = false ∧ f.Data = []) ∧ (0 ≤ f.Size ∧ f.Size ≤ 8 ∧ (f.Remote = false → f.Size = 0)) ∧ f.Data.length ≤ 64 := by
  unfold fcheckfr at h
  cases h1 : ((decide (f.ID < 0)) || ((!f.Long) && (decide (f.ID > 2047)))) || (decide (f.ID > 536870911)) with
  | true => rw [h1] at h; cases h
  | false =>
    cases h2 : f.Remote && (f.Fast || (decide ((f.Data.length : Int) > 0))) with
    | true => rw [h1, h2] at h; cases h
    | false =>
      cases h3 : ((decide (f.Size < 0)) || (decide (f.Size > 8))) || ((!f.Remote) && (f.Size != 0)) with
      | true => rw [h1, h2, h3] at h; cases h
      | false =>
        cases h4 : (decide ((f.Data.length : Int) > 64)) || ((!f.Fast) && (decide ((f.Data.length : Int) > 8))) with
        | true => rw [h1, h2, h3, h4] at h; cases h
        | false =>
          clear h
          refine ⟨⟨?_, ?_, fun h => ?_⟩, fun h => ?_, ⟨?_, ?_, fun h => ?_⟩, ?_⟩
          · simp at h1; omega
          · simp at h1; omega
          · rw [h] at h1; simp at h1; omega
          · rw [h] at h2
            simp at h2
            exact h2
          · simp at h3; omega
          · simp at h3; omega
          · rw [h] at h3; simp at h3; omega
          · simp at h4; omega
theorem digsF_len : ∀ k u, (digsF k u).length ≤ k + 1
  | 0, _ => by simp [digsF]
  | k + 1, u => by
    rw [digsF]
    split
    · simp
    · have := digsF_len k (u / 10)
      rw [List.length_append, List.length_cons, List.length_nil]; omega
theorem itoaS_len (n : Int) : (itoaS n).length ≤ 22 := by
  unfold itoaS
  split
  · have := digsF_len 20 n.natAbs; rw [List.length_cons]; omega
  · have := digsF_len 20 n.toNat; omega
theorem headP_len (x : Line) : (headP x).length ≤ 60 := by
  have h1 := itoaS_len x.Time; have h2 := itoaS_len x.Bus; have h3 := numS_len x.F.ID x.F.Long
  unfold headP
  simp only [List.length_append, List.length_cons, List.length_nil]
  omega
theorem midP_len (x : Line) : (midP x).length ≤ 23 := by
  have h1 := itoaS_len x.F.Size
  unfold midP
  split
  · simp only [List.length_append, List.length_cons, List.length_nil]; omega
  · split <;> simp
theorem dataP_len (d : List Int) : (dataP d).length = 2 * d.length := by
  unfold dataP
  induction d with
  | nil => rfl
  | cons b r ih => rw [List.map_cons, List.flatten_cons, List.length_append, ih, List.length_cons]; simp [hex2]; omega
theorem lineP_len {x : Line} (h : okL x) : (lineP x).length ≤ 220 := by
  have h1 := headP_len x; have h2 := midP_len x; have h3 := dataP_len x.F.Data; have h4 := (fcheck0 h.2.2).2.2.2
  unfold lineP
  simp only [List.length_append, List.length_cons, List.length_nil]
  omega
theorem linesP_len : ∀ l : List Line, (∀ x ∈ l, okL x) → (linesP l).length ≤ 220 * l.length
  | [], _ => by simp [linesP]
  | x :: r, h => by
    have h1 := lineP_len (h x List.mem_cons_self)
    have h2 := linesP_len r fun y hy => h y (List.mem_cons_of_mem _ hy)
    show (lineP x ++ linesP r).length ≤ _
    rw [List.length_append, List.length_cons]; omega
theorem dig_hi : ∀ b : Fin 256, (0 ≤ bShr .u8 ((b.val : Nat) : Int) 4 ∧ bShr .u8 ((b.val : Nat) : Int) 4 ≤ (w8 ((bShr .u8 ((b.val : Nat) : Int) 4) + 1)) ∧ (w8 ((bShr .u8 ((b.val : Nat) : Int) 4) + 1)) ≤ (dgt.length : Int)) ∧
    (dgt.take (w8 ((bShr .u8 ((b.val : Nat) : Int) 4) + 1)).toNat).drop (bShr .u8 ((b.val : Nat) : Int) 4).toNat = [hexd (b.val / 16)] := by decide +kernel
theorem dig_lo : ∀ b : Fin 256, (0 ≤ bAnd .u8 ((b.val : Nat) : Int) 15 ∧ bAnd .u8 ((b.val : Nat) : Int) 15 ≤ (w8 ((bAnd .u8 ((b.val : Nat) : Int) 15) + 1)) ∧ (w8 ((bAnd .u8 ((b.val : Nat) : Int) 15) + 1)) ≤ (dgt.length : Int)) ∧
    (dgt.take (w8 ((bAnd .u8 ((b.val : Nat) : Int) 15) + 1)).toNat).drop (bAnd .u8 ((b.val : Nat) : Int) 15).toNat = [hexd (b.val % 16)] := by decide +kernel
def bytesL (l : List Line) : Prop := ∀ x ∈ l, ∀ b ∈ x.F.Data, 0 ≤ b ∧ b ≤ 255
theorem take_one {α : Type} {l : List α} {k : Nat} {q : α} (h : l[k]? = some q) : l.take (k + 1) = l.take k ++ [q] := by rw [List.take_add_one, h]; rfl
theorem tprint_ok (l : List Line) (hB : bytesL l) : tprint_vc l (fun r => r = printS l) := by
  intro hl
  refine ⟨fun h => ?_, fun h => ?_⟩
  · have h : checkS l ≠ 0 := by simpa using h
    unfold printS; rw [if_neg h]
  have h : checkS l = 0 := by simpa using h
  have hP : printS l = (linesP l, 0) := by unfold printS; rw [if_pos h]
  obtain ⟨h100, hc⟩ := checkS_ok h
  have hok := chkF_ok l 0 hc
  refine ⟨fun i acc => ∃ k : Nat, i = k ∧ k ≤ l.length ∧ acc = linesP (l.take k), fun i _ => l.length - i.toNat, ⟨0, rfl, by omega, rfl⟩, ?_⟩
  rintro _ _ ⟨k, rfl, hk, rfl⟩
  refine ⟨fun h1 => ?_, fun h1 => ?_⟩
  · have hkm : k < l.length := by simpa using h1
    have hacc : (linesP (l.take k)).length ≤ 22000 := by
      have := linesP_len (l.take k) fun x hx => hok x (List.mem_of_mem_take hx)
      rw [List.length_take] at this
      omega
    refine ⟨fun v => v = linesP (l.take (k + 1)), ⟨by omega, fun q hq _ => ?_⟩, fun v hv => ?_⟩
    · rw [Int.toNat_natCast] at hq
      have hm := List.mem_of_getElem? hq
      have hq2 := hok q hm
      obtain ⟨ho1, ho2, ho3⟩ := hq2
      obtain ⟨hf1, hf2, hf3, hf4⟩ := fcheck0 ho3
      have hqb := hB q hm
      have l1 := itoaS_len q.Time; have l2 := itoaS_len q.Bus; have l3 := numS_len q.F.ID q.F.Long; have l4 := itoaS_len q.F.Size; have l5 := headP_len q
      have hlen : (headP q).length = (itoaS q.Time).length + 1 + (itoaS q.Bus).length + 1 + (numS q.F.ID q.F.Long).length := by unfold headP; simp only [List.length_append, List.length_cons, List.length_nil]
      refine ⟨by omega, by simp only [List.length_cons, List.length_nil]; omega, by omega, by simp only [List.length_append, List.length_cons, List.length_nil]; omega, by simp only [List.length_append, List.length_cons, List.length_nil]; omega, by omega, by simp only [List.length_append, List.length_cons, List.length_nil]; omega, ?_, fun v => v = linesP (l.take k) ++ headP q ++ midP q, ⟨fun hr => ?_, fun hr => ?_⟩, ?_⟩
      · show (linesP (l.take k)).length + (headP q).length ≤ _
        omega
      · refine ⟨by omega, by simp only [List.length_cons, List.length_nil]; omega, ?_, ?_⟩
        · show (linesP (l.take k) ++ headP q).length + (([63] : List UInt8) ++ itoaS q.F.Size).length ≤ _
          simp only [List.length_append, List.length_cons, List.length_nil]; omega
        · show linesP (l.take k) ++ headP q ++ _ = _
          unfold midP; rw [if_pos hr]
      · refine ⟨fun hf => ⟨?_, ?_⟩, fun hf => ⟨?_, ?_⟩⟩
        · show (linesP (l.take k) ++ headP q).length + _ ≤ _
          simp only [List.length_append, List.length_cons, List.length_nil]; omega
        · show linesP (l.take k) ++ headP q ++ _ = _
          unfold midP; rw [if_neg (by rw [hr]; decide), if_pos hf]
        · show (linesP (l.take k) ++ headP q).length + _ ≤ _
          simp only [List.length_append, List.length_cons, List.length_nil]; omega
        · show linesP (l.take k) ++ headP q ++ _ = _
          unfold midP; rw [if_neg (by rw [hr]; decide), if_neg (by rw [hf]; decide)]
      · rintro _ rfl
        have l6 := midP_len q
        refine ⟨fun j v => ∃ m : Nat, j = m ∧ m ≤ q.F.Data.length ∧ v = linesP (l.take k) ++ headP q ++ midP q ++ dataP (q.F.Data.take m), fun j _ => q.F.Data.length - j.toNat, ⟨0, rfl, by omega, by simp [dataP]⟩, ?_⟩
        rintro _ _ ⟨m, rfl, hm2, rfl⟩
        have l7 := dataP_len (q.F.Data.take m)
        rw [List.length_take] at l7
        refine ⟨fun h2 => ?_, fun h2 => ?_⟩
        · have hmm : m < q.F.Data.length := by simpa using h2
          refine ⟨by omega, fun b hb => ?_⟩
          rw [Int.toNat_natCast] at hb
          have hb2 := hqb b (List.mem_of_getElem? hb)
          obtain ⟨c, hc9, rfl⟩ : ∃ c : Nat, c < 256 ∧ b = (c : Int) := ⟨b.toNat, by omega, by omega⟩
          obtain ⟨d1, d2⟩ := dig_hi ⟨c, hc9⟩
          obtain ⟨d3, d4⟩ := dig_lo ⟨c, hc9⟩
          have d2' : (([48, 49, 50, 51, 52, 53, 54, 55, 56, 57, 97, 98, 99, 100, 101, 102] : List UInt8).take (w8 ((bShr .u8 (c : Int) 4) + 1)).toNat).drop (bShr .u8 (c : Int) 4).toNat = [hexd (c / 16)] := d2
          have d4' : (([48, 49, 50, 51, 52, 53, 54, 55, 56, 57, 97, 98, 99, 100, 101, 102] : List UInt8).take (w8 ((bAnd .u8 (c : Int) 15) + 1)).toNat).drop (bAnd .u8 (c : Int) 15).toNat = [hexd (c % 16)] := d4
          rw [d2', d4', w64_succ m (by omega)]
          refine ⟨d1, d3, by simp only [List.length_cons, List.length_nil]; omega, by simp only [List.length_append, List.length_cons, List.length_nil]; omega, ⟨m + 1, rfl, by omega, ?_⟩, by dsimp only; omega⟩
          have e9 : dataP (q.F.Data.take (m + 1)) = dataP (q.F.Data.take m) ++ [hexd (c / 16), hexd (c % 16)] := by
            rw [take_one hb]
            unfold dataP
            rw [List.map_append, List.flatten_append]
            simp [hex2]
          rw [e9]
          simp
        · have h3 : m = q.F.Data.length := by simp at h2; omega
          subst h3
          rw [List.take_length] at l7 ⊢
          refine ⟨by simp only [List.length_append, List.length_cons, List.length_nil]; omega, ?_⟩
          rw [take_one hq]
          unfold linesP
          rw [List.map_append, List.flatten_append]
          simp [lineP]
    · subst hv
      rw [w64_succ k (by omega)]
      exact ⟨⟨k + 1, rfl, by omega, rfl⟩, by dsimp only; omega⟩
  · have : k = l.length := by simp at h1; omega
    subst this
    rw [hP, List.take_length]
/-! ### A text is read -/
def parseF : List Line → Int → List (List UInt8) → List Line × Int × Int
  | _, _, [] => ([], 0, 0)
  | acc, i, [w] => if (w != ([] : List UInt8)) = true then ([], i, 1) else if ((checkS acc) != 0) = true then ([], 0, checkS acc) else (acc, 0, 0)
  | acc, i, w :: y :: r => if (!(lineS w).2) = true then ([], i, 1) else parseF (acc ++ [(lineS w).1]) (i + 1) (y :: r)
def parseS (u : List UInt8) : List Line × Int × Int := if (u.length : Int) > 40000 then ([], 0, 2) else if (u == ([] : List UInt8)) = true then ([], 0, 0) else parseF [] 0 (splitA 10 u)
theorem tparse_ok (u : List UInt8) (ha : asc u = true) : tparse_vc u (fun r => r = parseS u) := by
  have hS : parseS u = parseS u := rfl
  conv at hS => rhs; unfold parseS
  refine ⟨fun h => by rw [if_pos (of_decide_eq_true h)] at hS; exact hS.symm, fun h => ?_⟩
  have hu := of_decide_eq_false h
  rw [if_neg hu] at hS
  refine ⟨fun h => by rw [if_pos h] at hS; exact hS.symm, fun h => ?_⟩
  rw [if_neg (by rw [h]; decide)] at hS
  have e : splitS u ([10] : List UInt8) = splitA 10 u := rfl
  rw [e]
  have hn := splitA_len 10 u
  have hct : u.count 10 ≤ u.length := List.count_le_length
  generalize hp : splitA 10 u = p at *
  have ew : w64 ((p.length : Int) - 1) = ((p.length - 1 : Nat) : Int) := by rw [w64_eq _ (by omega)]; omega
  rw [ew, Int.toNat_natCast, List.length_take]
  refine ⟨⟨by omega, rfl⟩, fun _ => ⟨by omega, fun x i => ∃ k : Nat, i = k ∧ k ≤ p.length - 1 ∧ x.length = k ∧ parseF x (k : Int) (p.drop k) = parseF [] 0 p, fun _ i => p.length - i.toNat, ⟨0, rfl, by omega, rfl, rfl⟩, ?_⟩⟩
  rintro x _ ⟨k, rfl, hk, hx, hf⟩
  refine ⟨fun h1 => ?_, fun h1 => ?_⟩
  · have h1 : k < p.length - 1 := by have := of_decide_eq_true h1; omega
    refine ⟨by omega, fun q hq => ?_⟩
    rw [Int.toNat_natCast, List.getElem?_take_of_lt (by omega)] at hq
    have hm : q ∈ splitA 10 u := by rw [hp]; exact List.mem_of_getElem? hq
    obtain ⟨y, r, hy⟩ : ∃ y r, p.drop (k + 1) = y :: r := by
      have h2 : k + 1 < p.length := by omega
      exact ⟨_, _, List.drop_eq_getElem_cons h2⟩
    rw [drop_cons hq, hy, parseF] at hf
    have hlq := split_mem_len 10 u q hm
    refine ⟨⟨by omega, asc_split ha hm⟩, fun _ => ⟨fun h2 => ?_, fun h2 => ?_⟩⟩
    · rw [if_pos h2] at hf
      rw [hS, ← hf]
    · rw [if_neg (by rw [h2]; decide)] at hf
      rw [w64_succ k (by omega)]
      refine ⟨by omega, ⟨k + 1, rfl, by omega, by simp [hx], ?_⟩, by dsimp only; omega⟩
      rw [hy, ← hf]
      rfl
  · have h1 : k = p.length - 1 := by have := of_decide_eq_false h1; omega
    refine ⟨by omega, fun q hq => ?_⟩
    rw [← h1] at hq ⊢
    have hd : p.drop (k + 1) = [] := List.drop_eq_nil_of_le (by omega)
    rw [drop_cons hq, hd, parseF] at hf
    refine ⟨fun h2 => ?_, fun h2 => ?_⟩
    · rw [if_pos h2] at hf; rw [hS, ← hf]
    · rw [if_neg (by rw [h2]; decide)] at hf
      refine ⟨fun h3 => ?_, fun h3 => ?_⟩
      · rw [if_pos h3] at hf; rw [hS, ← hf]
      · rw [if_neg (by rw [h3]; decide)] at hf; rw [hS, ← hf]

end Go.Proofs.YtdenmllkjdijlaaGreatDoor
set_option linter.unusedVariables false
set_option linter.unusedSimpArgs false
namespace Go.Proofs.YtdenmllkjdijlaaGreatDoor
open Go.Sy Go.RowKit
def slines_vc (u0 : List Line) (u1 : List Line) (K : Bool → Prop) : Prop :=
  (u0.length ≤ 140737488355328 →
    (u1.length ≤ 140737488355328 →
    (K (leqfS u0 u1 (fun x0 x1 => sl1 x0 x1 )))))

/-! Pure proofs: no program in sight. -/
def slinesS (a b : List Line) : Bool := leqfS a b (fun x0 x1 => sl1 x0 x1 )
theorem slines_ok (a b : List Line) : slines_vc a b (fun r => r = slinesS a b) := fun _ _ => rfl

end Go.Proofs.YtdenmllkjdijlaaGreatDoor
set_option linter.unusedVariables false
set_option linter.unusedSimpArgs false
namespace Go.Proofs.YtdenmllkjdijlaaGreatDoor
open Go.Sy Go.RowKit
def traced_vc  (K : Bool → Prop) : Prop :=
  ((bytesL ([(⟨7, 1, (⟨18, false, false, false, 0, ([171] : List Int)⟩ : Frame)⟩ : Line)] : List Line)) ∧
    ((asc (printS ([(⟨7, 1, (⟨18, false, false, false, 0, ([171] : List Int)⟩ : Frame)⟩ : Line)] : List Line)).1 = true) ∧
    ((parseS (printS ([(⟨7, 1, (⟨18, false, false, false, 0, ([171] : List Int)⟩ : Frame)⟩ : Line)] : List Line)).1).1.length ≤ 140737488355328 →
    (K ((((((printS ([(⟨7, 1, (⟨18, false, false, false, 0, ([171] : List Int)⟩ : Frame)⟩ : Line)] : List Line)).2 == 0) && ((parseS (printS ([(⟨7, 1, (⟨18, false, false, false, 0, ([171] : List Int)⟩ : Frame)⟩ : Line)] : List Line)).1).2.2 == 0)) && ((parseS (printS ([(⟨7, 1, (⟨18, false, false, false, 0, ([171] : List Int)⟩ : Frame)⟩ : Line)] : List Line)).1).2.1 == 0)) && ((printS ([(⟨7, 1, (⟨18, false, false, false, 0, ([171] : List Int)⟩ : Frame)⟩ : Line)] : List Line)).1 == ([55, 32, 49, 32, 48, 49, 50, 35, 97, 98, 10] : List UInt8))) && (slinesS ([(⟨7, 1, (⟨18, false, false, false, 0, ([171] : List Int)⟩ : Frame)⟩ : Line)] : List Line) (parseS (printS ([(⟨7, 1, (⟨18, false, false, false, 0, ([171] : List Int)⟩ : Frame)⟩ : Line)] : List Line)).1).1))))))

/-! Pure proofs: no program in sight. -/
theorem traced_ok : traced_vc (fun r => r = true) := by
  refine ⟨?_, by decide +kernel, fun _ => by decide +kernel⟩
  intro x hx b hb
  obtain rfl := List.mem_singleton.1 hx
  obtain rfl := List.mem_singleton.1 hb
  decide

end Go.Proofs.YtdenmllkjdijlaaGreatDoor
set_option linter.unusedVariables false
set_option linter.unusedSimpArgs false
namespace Go.Proofs.YtdenmllkjdijlaaGreatDoor
open Go.Sy Go.RowKit
structure Tally where
  bus : Int
  id : Int
  long : Bool
  n : Int
  first : Int
  last : Int
  low : Int
  high : Int
  deriving DecidableEq, Inhabited
def Tally.enc (x : Tally) : List Value := [.int .i64 x.bus, .int .i64 x.id, .bool x.long, .int .i64 x.n, .int .i64 x.first, .int .i64 x.last, .int .i64 x.low, .int .i64 x.high]
def tyTally : Ty Tally := tyFlat Tally.enc 8 (fun _ => rfl) (fun x => by simp [Tally.enc, Value.oneCell'])

def tidxf_vc (u0 : List Tally) (u1 : Tally → Bool) (K : Int → Prop) : Prop :=
  (u0.length ≤ 140737488355328 →
    (∃ inv20 : Int → Prop, ∃ mu20 : Int → Nat, inv20 0 ∧
    (∀ (x8 : Int), inv20 x8 →
    (((decide (x8 < (u0.length : Int))) = true →
      ((0 ≤ x8 ∧ x8 < (u0.length : Int)) ∧
      (∀ q55, u0[x8.toNat]? = some q55 →
      (((u1 q55) = true →
        (K x8)) ∧
      ((u1 q55) = false →
        (inv20 (w64 (x8 + 1)) ∧ mu20 (w64 (x8 + 1)) < mu20 x8)))))) ∧
    ((decide (x8 < (u0.length : Int))) = false →
      (K (-1)))))))

def tal1_vc (u0 : Tally) (u1 : Line) (K : Bool → Prop) : Prop :=
  (K (((u0.bus == u1.Bus) && (u0.id == u1.F.ID)) && (u0.long == u1.F.Long)))
def tal1 (u0 : Tally) (u1 : Line) : Bool :=
  ((u0.bus == u1.Bus) && (u0.id == u1.F.ID)) && (u0.long == u1.F.Long)
theorem tal1_ok (u0 : Tally) (u1 : Line) : tal1_vc u0 u1 (fun r => r = tal1 u0 u1) := (by rfl)

/-! Pure proofs: no program in sight. -/
/-! ### Lines are counted: by number and bus -/
def tmt (x : Line) (t : Tally) : Bool := tal1 t x
def tnew (x : Line) : Tally := ⟨x.Bus, x.F.ID, x.F.Long, 1, 0, x.Time, -1, -1⟩
def tupd (t : Tally) (x : Line) : Tally := ⟨t.bus, t.id, t.long, t.n + 1, t.first, x.Time, if t.low < 0 ∨ x.Time - t.last < t.low then x.Time - t.last else t.low, max t.high (x.Time - t.last)⟩
def tstep : List Tally → Line → List Tally
  | [], x => [tnew x]
  | t :: r, x => if tmt x t then tupd t x :: r else t :: tstep r x
def tfold (l : List Line) : List Tally := l.foldl tstep []
theorem tfold_snoc (l : List Line) (x : Line) : tfold (l ++ [x]) = tstep (tfold l) x := by simp [tfold]
theorem tfold_take {l : List Line} {k : Nat} {x : Line} (h : l[k]? = some x) : tfold (l.take (k + 1)) = tstep (tfold (l.take k)) x := by
  rw [List.take_add_one, h]
  exact tfold_snoc _ x
theorem tstep_none {x : Line} : ∀ {ts : List Tally}, ts.findIdx? (tmt x) = none → tstep ts x = ts ++ [tnew x]
  | [], _ => rfl
  | t :: r, h => by
    rw [List.findIdx?_cons] at h
    split at h
    · cases h
    · next h1 =>
      have h2 : r.findIdx? (tmt x) = none := by simpa using h
      rw [tstep, if_neg h1, tstep_none h2]
      rfl
theorem tstep_some {x : Line} : ∀ {ts : List Tally} {k : Nat}, ts.findIdx? (tmt x) = some k → ∃ t, ts[k]? = some t ∧ tmt x t = true ∧ tstep ts x = ts.set k (tupd t x)
  | [], k, h => by simp at h
  | t :: r, k, h => by
    rw [List.findIdx?_cons] at h
    split at h
    · next h1 =>
      cases h
      exact ⟨t, rfl, h1, by rw [tstep, if_pos h1]; rfl⟩
    · next h1 =>
      rw [Option.map_eq_some_iff] at h
      obtain ⟨j, hj, rfl⟩ := h
      obtain ⟨t', e1, e2, e3⟩ := tstep_some hj
      exact ⟨t', by simpa using e1, e2, by rw [tstep, if_neg h1, e3]; rfl⟩
/-- What is known of what was counted of so many lines. -/
def tbd (k : Nat) (t : Tally) : Prop := (0 ≤ t.bus ∧ t.bus ≤ 3) ∧ (0 ≤ t.id ∧ t.id ≤ 536870911) ∧ (1 ≤ t.n ∧ t.n ≤ k) ∧ (0 ≤ t.last ∧ t.last ≤ 1000000) ∧ (-1 ≤ t.low ∧ t.low ≤ 1000000) ∧ (-1 ≤ t.high ∧ t.high ≤ 1000000)
theorem tbd_new {x : Line} (h : okL x) (k : Nat) : tbd (k + 1) (tnew x) := by
  obtain ⟨h1, h2, h3⟩ := h
  have h4 := (fcheck0 h3).1
  unfold tbd tnew
  simp only
  omega
theorem tbd_upd {t : Tally} {x : Line} {k : Nat} (h : okL x) (ht : tbd k t) (hl : t.last ≤ x.Time) : tbd (k + 1) (tupd t x) := by
  obtain ⟨h1, h2, h3⟩ := h
  obtain ⟨a1, a2, a3, a4, a5, a6⟩ := ht
  refine ⟨a1, a2, ?_, ?_, ?_, ?_⟩
  · simp only [tupd]; omega
  · simp only [tupd]; omega
  · simp only [tupd]; split <;> omega
  · simp only [tupd]; omega
theorem tbd_more {t : Tally} {k : Nat} (h : tbd k t) : tbd (k + 1) t := by
  obtain ⟨a1, a2, a3, a4, a5, a6⟩ := h
  exact ⟨a1, a2, by omega, a4, a5, a6⟩
theorem tstep_all {P : Tally → Prop} {x : Line} (hn : P (tnew x)) : ∀ {ts : List Tally}, (∀ t ∈ ts, P t) → (∀ t ∈ ts, P (tupd t x)) → ∀ t ∈ tstep ts x, P t
  | [], _, _, t, h => by
    rw [tstep, List.mem_singleton] at h; subst h; exact hn
  | y :: r, h1, h2, t, h => by
    rw [tstep] at h
    split at h
    · rcases List.mem_cons.1 h with rfl | h
      · exact h2 y List.mem_cons_self
      · exact h1 t (List.mem_cons_of_mem _ h)
    · rcases List.mem_cons.1 h with rfl | h
      · exact h1 _ List.mem_cons_self
      · exact tstep_all hn (fun t ht => h1 t (List.mem_cons_of_mem _ ht)) (fun t ht => h2 t (List.mem_cons_of_mem _ ht)) t h
theorem tstep_len (x : Line) : ∀ ts : List Tally, (tstep ts x).length ≤ ts.length + 1
  | [] => by simp [tstep]
  | t :: r => by
    rw [tstep]
    split
    · simp
    · have := tstep_len x r; simp only [List.length_cons]; omega
/-- Times rise. -/
theorem chkF_rise : ∀ (l : List Line) (t : Int), chkF t l = 0 → ∀ x ∈ l, t ≤ x.Time
  | [], _, _, x, hx => by cases hx
  | y :: r, t, h, x, hx => by
    rw [chkF] at h
    split at h
    · cases h
    · split at h
      · cases h
      · next h2 =>
        split at h
        · next h3 => rw [h] at h3; cases h3
        · rcases List.mem_cons.1 hx with rfl | hx
          · omega
          · have := chkF_rise r _ h x hx; omega
theorem chkF_at : ∀ (l : List Line) (t : Int), chkF t l = 0 → ∀ (i j : Nat) (x y : Line), i < j → l[i]? = some x → l[j]? = some y → x.Time ≤ y.Time
  | [], _, _, i, j, x, y, _, h, _ => by simp at h
  | z :: r, t, h, i, j, x, y, hij, hx, hy => by
    rw [chkF] at h
    split at h
    · cases h
    · split at h
      · cases h
      · split at h
        · next h3 => rw [h] at h3; cases h3
        · obtain ⟨j, rfl⟩ : ∃ q, j = q + 1 := ⟨j - 1, by omega⟩
          rw [List.getElem?_cons_succ] at hy
          cases i with
          | zero =>
            simp only [List.getElem?_cons_zero, Option.some.injEq] at hx
            subst hx
            exact chkF_rise r _ h y (List.mem_of_getElem? hy)
          | succ i =>
            rw [List.getElem?_cons_succ] at hx
            exact chkF_at r _ h i j x y (by omega) hx hy
/-- All that is counted of lines that are right is bounded; each line is counted once. -/
theorem tfold_ok {l : List Line} (h : checkS l = 0) : ∀ k, k ≤ l.length → (∀ t ∈ tfold (l.take k), tbd k t ∧ ∃ i x, i < k ∧ l[i]? = some x ∧ t.last = x.Time) ∧ (tfold (l.take k)).length ≤ k ∧ ((tfold (l.take k)).map (·.n)).sum = k := by
  obtain ⟨h100, hc⟩ := checkS_ok h
  have hok := chkF_ok l 0 hc
  intro k
  induction k with
  | zero => intro _; exact ⟨by simp [tfold], by simp [tfold], by simp [tfold]⟩
  | succ k ih =>
    intro hk
    obtain ⟨i1, i2, i3⟩ := ih (by omega)
    have hx : l[k]? = some l[k] := List.getElem?_eq_getElem (by omega)
    have ho := hok _ (List.mem_of_getElem? hx)
    rw [tfold_take hx]
    refine ⟨?_, ?_, ?_⟩
    · refine tstep_all (P := fun t => tbd (k + 1) t ∧ ∃ i x, i < k + 1 ∧ l[i]? = some x ∧ t.last = x.Time) ⟨tbd_new ho k, k, _, by omega, hx, rfl⟩ (fun t ht => ?_) fun t ht => ?_
      · obtain ⟨a, i, x, b1, b2, b3⟩ := i1 t ht
        exact ⟨tbd_more a, i, x, by omega, b2, b3⟩
      · obtain ⟨a, i, x, b1, b2, b3⟩ := i1 t ht
        exact ⟨tbd_upd ho a (by rw [b3]; exact chkF_at l 0 hc i k x _ b1 b2 hx), k, _, by omega, hx, rfl⟩
    · have := tstep_len l[k] (tfold (l.take k)); omega
    · cases hf : (tfold (l.take k)).findIdx? (tmt l[k]) with
      | none =>
        rw [tstep_none hf, List.map_append, List.sum_append, i3]
        simp [tnew]
      | some j =>
        obtain ⟨t, e1, e2, e3⟩ := tstep_some hf
        rw [e3, List.map_set]
        have hj := (List.getElem?_eq_some_iff.1 e1)
        have hs : ∀ (m : List Int) (j : Nat) (v : Int), m[j]? = some v → (m.set j (v + 1)).sum = m.sum + 1 := by
          intro m
          induction m with
          | nil => intro j v hv; simp at hv
          | cons a r ihm =>
            intro j v hv
            cases j with
            | zero => simp only [List.getElem?_cons_zero, Option.some.injEq] at hv; subst hv; simp only [List.set_cons_zero, List.sum_cons]; omega
            | succ j => rw [List.getElem?_cons_succ] at hv; simp only [List.set_cons_succ, List.sum_cons]; rw [ihm j v hv]; omega
        have hm : ((tfold (l.take k)).map (·.n))[j]? = some t.n := by rw [List.getElem?_map, e1]; rfl
        have h9 := hs _ j _ hm
        have h8 : (tupd t l[k]).n = t.n + 1 := rfl
        rw [h8, h9, i3]
        omega
/-- The order in which they are told. -/
def tcf (a b : Tally) : Int := if a.bus ≠ b.bus then a.bus - b.bus else if a.long ≠ b.long then (if b.long then -1 else 1) else a.id - b.id
def trow (t : Tally) : Int × Int × Int × Int × Int := (t.bus, if t.long then -t.id - 1 else t.id, t.n, t.low, t.high)
def tsort (ts : List Tally) : List Tally := ts.mergeSort fun a b => decide (tcf a b ≤ 0)
def tallyS (l : List Line) : List (Int × Int × Int × Int × Int) × Int := if checkS l = 0 then ((tsort (tfold l)).map trow, 0) else ([], checkS l)
def tsrtPre (ts : List Tally) : Prop := ∀ t ∈ ts, (0 ≤ t.bus ∧ t.bus ≤ 3) ∧ (0 ≤ t.id ∧ t.id ≤ 536870911)
theorem tcf_self (a : Tally) : tcf a a = 0 := by unfold tcf; simp
theorem tcf_lt (a b : Tally) : tcf a b < 0 ↔ a.bus < b.bus ∨ a.bus = b.bus ∧ (a.long = false ∧ b.long = true ∨ a.long = b.long ∧ a.id < b.id) := by
  unfold tcf
  split
  · omega
  · split
    · next h1 h2 =>
      split
      · next h3 =>
        have : a.long = false := by cases h : a.long with | false => rfl | true => rw [h, h3] at h2; exact absurd rfl h2
        simp [this, h3]; omega
      · next h3 =>
        have h3 : b.long = false := by simpa using h3
        simp [h3]
        have : a.long = true := by cases h : a.long with | true => rfl | false => rw [h, h3] at h2; exact absurd rfl h2
        simp [this]; omega
    · next h1 h2 =>
      have h2 : a.long = b.long := by simpa using h2
      rw [h2]
      cases b.long <;> simp <;> omega
theorem tcf_le (a b : Tally) : tcf a b ≤ 0 ↔ ¬ tcf b a < 0 := by
  rw [tcf_lt]
  unfold tcf
  cases ha : a.long <;> cases hb : b.long <;> simp <;> split <;> omega
theorem tcf_le_trans (a b c : Tally) (h : tcf a b ≤ 0) (k : tcf b c ≤ 0) : tcf a c ≤ 0 := by
  rw [tcf_le, tcf_lt] at *
  cases ha : a.long <;> cases hb : b.long <;> cases hc : c.long <;> simp [ha, hb, hc] at * <;> omega
theorem tcf_total (a b : Tally) : tcf a b ≤ 0 ∨ tcf b a ≤ 0 := by
  rw [tcf_le, tcf_le, tcf_lt, tcf_lt]
  cases ha : a.long <;> cases hb : b.long <;> simp <;> omega
def tkey (t : Tally) : Int × Bool × Int := (t.bus, t.long, t.id)
theorem tcf_antis {a b : Tally} (h : tcf a b ≤ 0) (k : tcf b a ≤ 0) : tkey a = tkey b := by
  rw [tcf_le, tcf_lt] at *
  unfold tkey
  cases ha : a.long <;> cases hb : b.long <;> simp [ha, hb] at * <;> omega
theorem tmt_key (x : Line) (t : Tally) : tmt x t = true ↔ tkey t = tkey (tnew x) := by
  unfold tmt tal1 tkey tnew
  simp
  constructor
  · rintro ⟨⟨h1, h2⟩, h3⟩; exact ⟨h1, h3, h2⟩
  · rintro ⟨h1, h3, h2⟩; exact ⟨⟨h1, h2⟩, h3⟩
theorem tstep_keys (x : Line) : ∀ ts : List Tally, (tstep ts x).map tkey = if tkey (tnew x) ∈ ts.map tkey then ts.map tkey else ts.map tkey ++ [tkey (tnew x)]
  | [] => by simp [tstep]
  | t :: r => by
    rw [tstep]
    by_cases h : tmt x t = true
    · rw [if_pos h, if_pos (by rw [List.map_cons, (tmt_key x t).1 h]; exact List.mem_cons_self)]
      rfl
    · rw [if_neg h, List.map_cons, tstep_keys x r]
      have h1 : tkey (tnew x) ≠ tkey t := fun e => h ((tmt_key x t).2 e.symm)
      by_cases h2 : tkey (tnew x) ∈ r.map tkey
      · rw [if_pos h2, if_pos (by rw [List.map_cons]; exact List.mem_cons_of_mem _ h2)]; rfl
      · rw [if_neg h2, if_neg (by rw [List.map_cons, List.mem_cons]; exact fun h => h.elim h1 h2)]; rfl
theorem tfold_nodup (l : List Line) : ((tfold l).map tkey).Nodup := by
  have : ∀ k, ((tfold (l.take k)).map tkey).Nodup := by
    intro k
    induction k with
    | zero => simp [tfold]
    | succ k ih =>
      cases hx : l[k]? with
      | none => rw [List.take_add_one, hx]; simpa using ih
      | some x =>
        rw [tfold_take hx, tstep_keys]
        split
        · exact ih
        · next h => exact List.nodup_append.2 ⟨ih, by simp, fun a ha b hb => by simp only [List.mem_singleton] at hb; subst hb; rintro rfl; exact h ha⟩
  have := this l.length
  rwa [List.take_length] at this
theorem key_inj : ∀ {ts : List Tally}, (ts.map tkey).Nodup → ∀ a ∈ ts, ∀ b ∈ ts, tkey a = tkey b → a = b
  | [], _, a, ha, _, _, _ => by cases ha
  | t :: r, h, a, ha, b, hb, e => by
    rw [List.map_cons, List.nodup_cons] at h
    rcases List.mem_cons.1 ha with rfl | ha2
    · rcases List.mem_cons.1 hb with rfl | hb2
      · rfl
      · exact absurd (List.mem_map.2 ⟨b, hb2, e.symm⟩) h.1
    · rcases List.mem_cons.1 hb with rfl | hb2
      · exact absurd (List.mem_map.2 ⟨a, ha2, e⟩) h.1
      · exact key_inj h.2 a ha2 b hb2 e
theorem tsort_sorted (ts : List Tally) : (tsort ts).Pairwise fun x y => ¬ tcf y x < 0 := by
  have h := List.pairwise_mergeSort (le := fun a b : Tally => decide (tcf a b ≤ 0)) (fun a b c h k => by simp only [decide_eq_true_eq] at *; exact tcf_le_trans a b c h k) (fun a b => by simp only [Bool.or_eq_true, decide_eq_true_eq]; exact tcf_total a b) ts
  exact h.imp fun h => (tcf_le _ _).1 (by simpa using h)
/-- What is sorted and holds the same is the same. -/
theorem srt_uniq {α : Type} {R : α → α → Prop} : ∀ {a b : List α}, (∀ x ∈ a, ∀ y ∈ a, R x y → R y x → x = y) → a.Perm b → a.Pairwise R → b.Pairwise R → a = b
  | [], b, _, hp, _, _ => by rw [List.nil_perm] at hp; exact hp.symm
  | x :: a, [], _, hp, _, _ => by simp at hp
  | x :: a, y :: b, h, hp, h1, h2 => by
    have hxy : x = y := by
      have m1 : x ∈ y :: b := hp.mem_iff.1 List.mem_cons_self
      have m2 : y ∈ x :: a := hp.mem_iff.2 List.mem_cons_self
      rcases List.mem_cons.1 m1 with e | m1
      · exact e
      rcases List.mem_cons.1 m2 with e | m2
      · exact e.symm
      exact h x List.mem_cons_self y (List.mem_cons_of_mem _ m2) ((List.pairwise_cons.1 h1).1 y m2) ((List.pairwise_cons.1 h2).1 x m1)
    subst hxy
    rw [srt_uniq (fun x hx y hy => h x (List.mem_cons_of_mem _ hx) y (List.mem_cons_of_mem _ hy)) ((List.perm_cons x).1 hp) (List.pairwise_cons.1 h1).2 (List.pairwise_cons.1 h2).2]
theorem tsort_uniq {l : List Line} {l2 : List Tally} (hp : (tfold l).Perm l2) (hs : l2.Pairwise fun x y => ¬ tcf y x < 0) : l2 = tsort (tfold l) := by
  have hq : (tsort (tfold l)).Perm (tfold l) := List.mergeSort_perm _ _
  refine srt_uniq (fun x hx y hy h k => ?_) (hp.symm.trans hq.symm) hs (tsort_sorted _)
  exact key_inj (tfold_nodup l) x (hp.mem_iff.2 hx) y (hp.mem_iff.2 hy) (tcf_antis ((tcf_le _ _).2 h) ((tcf_le _ _).2 k))
def tidxS (l : List Tally) (p : Tally → Bool) : Int := sidx p l
theorem tidxf_ok (l : List Tally) (p : Tally → Bool) : tidxf_vc l p (fun r => r = tidxS l p) := by
  intro hl
  refine rg0 hl (fun k => ∀ j y, j < k → l[j]? = some y → p y = false) (fun j y h => absurd h (Nat.not_lt_zero _)) ?_ ?_
  · intro k q hk hq hj inv mu hn
    refine ⟨fun h => (sidx_at _ l k q hq h hj).symm, fun h => hn fun j y hj1 hy => ?_⟩
    rcases Nat.lt_or_ge j k with h1 | h1
    · exact hj j y h1 hy
    · have : j = k := by omega
      subst this
      rw [hq] at hy
      cases hy
      exact h
  · intro hj
    refine (sidx_none _ l fun j y hy => hj j y (List.getElem?_eq_some_iff.1 hy).1 hy).symm

end Go.Proofs.YtdenmllkjdijlaaGreatDoor
set_option linter.unusedVariables false
set_option linter.unusedSimpArgs false
namespace Go.Proofs.YtdenmllkjdijlaaGreatDoor
open Go.Sy Go.RowKit
def ttally_vc (u0 : List Line) (K : ((List (Int × Int × Int × Int × Int)) × Int) → Prop) : Prop :=
  (u0.length ≤ 140737488355328 →
    ((((checkS u0) != 0) = true →
      (K (([] : List (Int × Int × Int × Int × Int)), (checkS u0)))) ∧
    (((checkS u0) != 0) = false →
      (∃ inv46 : (List Tally) → Int → Prop, ∃ mu46 : (List Tally) → Int → Nat, inv46 ([] : List Tally) 0 ∧
      (∀ (x5 : List Tally) (x22 : Int), inv46 x5 x22 →
      (((decide (x22 < (u0.length : Int))) = true →
        ((0 ≤ x22 ∧ x22 < (u0.length : Int)) ∧
        (∀ q72, u0[x22.toNat]? = some q72 →
        (q72.F.Data.length ≤ 140737488355328 →
        (((decide ((tidxS x5 (fun x0 => tal1 x0 q72)) < 0)) = true →
          (((x5.length + 1) * 8 ≤ 140737488355328) ∧
          (inv46 (x5 ++ [(⟨q72.Bus, q72.F.ID, q72.F.Long, 1, 0, q72.Time, -1, -1⟩ : Tally)]) (w64 (x22 + 1)) ∧ mu46 (x5 ++ [(⟨q72.Bus, q72.F.ID, q72.F.Long, 1, 0, q72.Time, -1, -1⟩ : Tally)]) (w64 (x22 + 1)) < mu46 x5 x22))) ∧
        ((decide ((tidxS x5 (fun x0 => tal1 x0 q72)) < 0)) = false →
          ((0 ≤ (tidxS x5 (fun x0 => tal1 x0 q72)) ∧ (tidxS x5 (fun x0 => tal1 x0 q72)) < (x5.length : Int)) ∧
          (∀ q183, x5[(tidxS x5 (fun x0 => tal1 x0 q72)).toNat]? = some q183 →
          ((((decide (q183.low < 0)) || (decide ((w64 (q72.Time - q183.last)) < q183.low))) = true →
            (inv46 (x5.set (tidxS x5 (fun x0 => tal1 x0 q72)).toNat (⟨q183.bus, q183.id, q183.long, w64 (q183.n + 1), q183.first, q72.Time, w64 (q72.Time - q183.last), max q183.high (w64 (q72.Time - q183.last))⟩ : Tally)) (w64 (x22 + 1)) ∧ mu46 (x5.set (tidxS x5 (fun x0 => tal1 x0 q72)).toNat (⟨q183.bus, q183.id, q183.long, w64 (q183.n + 1), q183.first, q72.Time, w64 (q72.Time - q183.last), max q183.high (w64 (q72.Time - q183.last))⟩ : Tally)) (w64 (x22 + 1)) < mu46 x5 x22)) ∧
          (((decide (q183.low < 0)) || (decide ((w64 (q72.Time - q183.last)) < q183.low))) = false →
            (inv46 (x5.set (tidxS x5 (fun x0 => tal1 x0 q72)).toNat (⟨q183.bus, q183.id, q183.long, w64 (q183.n + 1), q183.first, q72.Time, q183.low, max q183.high (w64 (q72.Time - q183.last))⟩ : Tally)) (w64 (x22 + 1)) ∧ mu46 (x5.set (tidxS x5 (fun x0 => tal1 x0 q72)).toNat (⟨q183.bus, q183.id, q183.long, w64 (q183.n + 1), q183.first, q72.Time, q183.low, max q183.high (w64 (q72.Time - q183.last))⟩ : Tally)) (w64 (x22 + 1)) < mu46 x5 x22))))))))))) ∧
      ((decide (x22 < (u0.length : Int))) = false →
        ((tsrtPre x5) ∧
        (∀ q381, (x5.Perm q381 ∧ q381.Pairwise (fun x y => ¬ tcf y x < 0)) →
        (∃ inv398 : (List (Int × Int × Int × Int × Int)) → Int → Prop, ∃ mu398 : (List (Int × Int × Int × Int × Int)) → Int → Nat, inv398 ([] : List (Int × Int × Int × Int × Int)) 0 ∧
        (∀ (x11 : List (Int × Int × Int × Int × Int)) (x101 : Int), inv398 x11 x101 →
        (((decide (x101 < (q381.length : Int))) = true →
          ((0 ≤ x101 ∧ x101 < (q381.length : Int)) ∧
          (∀ q428, q381[x101.toNat]? = some q428 →
          ((q428.long = true →
            (((x11.length + 1) * 40 ≤ 140737488355328) ∧
            (inv398 (x11 ++ [(q428.bus, w64 ((w64 (0 - q428.id)) - 1), q428.n, q428.low, q428.high)]) (w64 (x101 + 1)) ∧ mu398 (x11 ++ [(q428.bus, w64 ((w64 (0 - q428.id)) - 1), q428.n, q428.low, q428.high)]) (w64 (x101 + 1)) < mu398 x11 x101))) ∧
          (q428.long = false →
            (((x11.length + 1) * 40 ≤ 140737488355328) ∧
            (inv398 (x11 ++ [(q428.bus, q428.id, q428.n, q428.low, q428.high)]) (w64 (x101 + 1)) ∧ mu398 (x11 ++ [(q428.bus, q428.id, q428.n, q428.low, q428.high)]) (w64 (x101 + 1)) < mu398 x11 x101))))))) ∧
        ((decide (x101 < (q381.length : Int))) = false →
          (K (x11, 0)))))))))))))))

/-! Pure proofs: no program in sight. -/
theorem ttally_ok (u : List Line) : ttally_vc u (fun r => r = tallyS u) := by
  intro hl
  refine ⟨fun h => ?_, fun h => ?_⟩
  · have h : checkS u ≠ 0 := by simpa using h
    unfold tallyS; rw [if_neg h]
  have h : checkS u = 0 := by simpa using h
  have hT : tallyS u = ((tsort (tfold u)).map trow, 0) := by unfold tallyS; rw [if_pos h]
  have hok := tfold_ok h
  obtain ⟨h100, hc⟩ := checkS_ok h
  have hL := chkF_ok u 0 hc
  refine ⟨fun x i => ∃ k : Nat, i = k ∧ k ≤ u.length ∧ x = tfold (u.take k), fun _ i => u.length - i.toNat, ⟨0, rfl, by omega, rfl⟩, ?_⟩
  rintro _ _ ⟨k, rfl, hk, rfl⟩
  obtain ⟨i1, i2, i3⟩ := hok k hk
  refine ⟨fun h1 => ?_, fun h1 => ?_⟩
  · have hkm : k < u.length := by simpa using h1
    refine ⟨by omega, fun q hq _ => ?_⟩
    rw [Int.toNat_natCast] at hq
    have hst := tfold_take hq
    have hqL := hL q (List.mem_of_getElem? hq)
    obtain ⟨hq1, _, _⟩ := hqL
    rw [w64_succ k (by omega)]
    have hi : tidxS (tfold (u.take k)) (fun x0 => tal1 x0 q) = sidx (tmt q) (tfold (u.take k)) := rfl
    rw [hi]
    cases hf : (tfold (u.take k)).findIdx? (tmt q) with
    | none =>
      have hv : sidx (tmt q) (tfold (u.take k)) = -1 := by unfold sidx; rw [hf]
      rw [hv]
      refine ⟨fun _ => ⟨by omega, ⟨k + 1, rfl, by omega, ?_⟩, by dsimp only; omega⟩, fun h2 => absurd h2 (by decide)⟩
      rw [hst, tstep_none hf]; rfl
    | some j =>
      have hv : sidx (tmt q) (tfold (u.take k)) = (j : Int) := by unfold sidx; rw [hf]
      obtain ⟨t, e1, e2, e3⟩ := tstep_some hf
      have hj := (List.getElem?_eq_some_iff.1 e1).1
      rw [hv, Int.toNat_natCast]
      refine ⟨fun h2 => absurd (of_decide_eq_true h2) (by omega), fun _ => ⟨by omega, fun t' ht' => ?_⟩⟩
      obtain rfl : t = t' := Option.some.inj (e1.symm.trans ht')
      obtain ⟨⟨a1, a2, a3, a4, a5, a6⟩, _⟩ := i1 t (List.mem_of_getElem? e1)
      have hgap : w64 (q.Time - t.last) = q.Time - t.last := w64_eq _ (by omega)
      have hn : w64 (t.n + 1) = t.n + 1 := w64_eq _ (by omega)
      rw [hgap, hn]
      refine ⟨fun h3 => ⟨⟨k + 1, rfl, by omega, ?_⟩, by dsimp only; omega⟩, fun h3 => ⟨⟨k + 1, rfl, by omega, ?_⟩, by dsimp only; omega⟩⟩
      · rw [hst, e3]; unfold tupd; rw [if_pos (by simpa using h3)]
      · rw [hst, e3]; unfold tupd; rw [if_neg (by simp at h3; omega)]
  · have : k = u.length := by simp at h1; omega
    subst this
    rw [List.take_length] at *
    refine ⟨fun t ht => ⟨(i1 t ht).1.1, (i1 t ht).1.2.1⟩, fun l2 ⟨hp, hs⟩ => ?_⟩
    have hl2 := tsort_uniq hp hs
    have hlen : l2.length ≤ 100 := by have := hp.length_eq; omega
    have hb : ∀ t ∈ l2, (0 ≤ t.id ∧ t.id ≤ 536870911) := fun t ht => (i1 t (hp.mem_iff.2 ht)).1.2.1
    refine ⟨fun x i => ∃ m : Nat, i = m ∧ m ≤ l2.length ∧ x = (l2.take m).map trow, fun _ i => l2.length - i.toNat, ⟨0, rfl, by omega, rfl⟩, ?_⟩
    rintro _ _ ⟨m, rfl, hm, rfl⟩
    refine ⟨fun h2 => ?_, fun h2 => ?_⟩
    · have hmm : m < l2.length := by simpa using h2
      refine ⟨by omega, fun t ht => ?_⟩
      rw [Int.toNat_natCast] at ht
      have hb1 := hb t (List.mem_of_getElem? ht)
      have e1 : (l2.take (m + 1)).map trow = (l2.take m).map trow ++ [trow t] := by rw [take_one ht, List.map_append]; rfl
      have hlm : ((l2.take m).map trow).length = m := by rw [List.length_map, List.length_take]; omega
      rw [w64_succ m (by omega)]
      have ew : w64 (w64 (0 - t.id) - 1) = -t.id - 1 := by rw [w64_eq (0 - t.id) (by omega), w64_eq _ (by omega)]; omega
      rw [ew]
      refine ⟨fun h3 => ⟨by omega, ⟨m + 1, rfl, by omega, ?_⟩, by dsimp only; omega⟩, fun h3 => ⟨by omega, ⟨m + 1, rfl, by omega, ?_⟩, by dsimp only; omega⟩⟩
      · rw [e1]; unfold trow; rw [h3]; rfl
      · rw [e1]; unfold trow; rw [h3]; rfl
    · have : m = l2.length := by simp at h2; omega
      subst this
      rw [List.take_length, hT, ← hl2]

end Go.Proofs.YtdenmllkjdijlaaGreatDoor
set_option linter.unusedVariables false
set_option linter.unusedSimpArgs false
namespace Go.Proofs.YtdenmllkjdijlaaGreatDoor
open Go.Sy Go.RowKit
def teq_vc (u0 : List (Int × Int × Int × Int × Int)) (u1 : List (Int × Int × Int × Int × Int)) (K : Bool → Prop) : Prop :=
  (u0.length ≤ 140737488355328 →
    (u1.length ≤ 140737488355328 →
    ((((u0.length : Int) != (u1.length : Int)) = true →
      (K false)) ∧
    (((u0.length : Int) != (u1.length : Int)) = false →
      (∃ inv37 : Int → Prop, ∃ mu37 : Int → Nat, inv37 0 ∧
      (∀ (x13 : Int), inv37 x13 →
      (((decide (x13 < (u0.length : Int))) = true →
        ((0 ≤ x13 ∧ x13 < (u0.length : Int)) ∧
        (∀ q74, u0[x13.toNat]? = some q74 →
        ((0 ≤ x13 ∧ x13 < (u1.length : Int)) ∧
        (∀ q96, u1[x13.toNat]? = some q96 →
        (((!((q74.1 == q96.1) && ((q74.2.1 == q96.2.1) && ((q74.2.2.1 == q96.2.2.1) && ((q74.2.2.2.1 == q96.2.2.2.1) && ((q74.2.2.2.2 == q96.2.2.2.2) && true)))))) = true →
          (K false)) ∧
        ((!((q74.1 == q96.1) && ((q74.2.1 == q96.2.1) && ((q74.2.2.1 == q96.2.2.1) && ((q74.2.2.2.1 == q96.2.2.2.1) && ((q74.2.2.2.2 == q96.2.2.2.2) && true)))))) = false →
          (inv37 (w64 (x13 + 1)) ∧ mu37 (w64 (x13 + 1)) < mu37 x13)))))))) ∧
      ((decide (x13 < (u0.length : Int))) = false →
        (K true)))))))))

/-! Pure proofs: no program in sight. -/
def isortS (l : List Int) : List Int := l.mergeSort fun x y => decide (x ≤ y)
theorem isort_len (l : List Int) : (isortS l).length = l.length := List.length_mergeSort l
def teqS (a b : List (Int × Int × Int × Int × Int)) : Bool := decide (a = b)
theorem teq_ok (a b : List (Int × Int × Int × Int × Int)) : teq_vc a b (fun r => r = teqS a b) := by
  intro ha hb
  refine ⟨fun h => ?_, fun h => ?_⟩
  · have h : ¬ (a.length : Int) = (b.length : Int) := by simpa using h
    unfold teqS
    rw [decide_eq_false]
    intro e
    rw [e] at h
    exact h rfl
  · have h : a.length = b.length := by
      have h : (a.length : Int) = (b.length : Int) := by simpa only [bne_eq_false_iff_eq] using h
      omega
    refine ⟨fun i => ∃ k : Nat, i = k ∧ k ≤ a.length ∧ ∀ (j : Nat) x y, j < k → a[j]? = some x → b[j]? = some y → x = y, fun i => a.length - i.toNat, ⟨0, rfl, by omega, fun j _ _ hj => absurd hj (Nat.not_lt_zero _)⟩, ?_⟩
    rintro _ ⟨k, rfl, hk, hj⟩
    refine ⟨fun h1 => ?_, fun h1 => ?_⟩
    · have hk : k < a.length := by have := of_decide_eq_true h1; omega
      rw [w64_succ k (by omega)]
      refine ⟨by omega, fun q hq => ⟨by omega, fun p hp => ⟨fun h2 => ?_, fun h2 => ?_⟩⟩⟩
      · unfold teqS
        rw [decide_eq_false]
        rintro rfl
        rw [hq] at hp
        cases hp
        simp at h2
      · have h2 : q = p := by
          obtain ⟨q1, q2, q3, q4, q5⟩ := q
          obtain ⟨p1, p2, p3, p4, p5⟩ := p
          simp at h2
          obtain ⟨e1, e2, e3, e4, e5⟩ := h2
          subst e1 e2 e3 e4 e5
          rfl
        rw [Int.toNat_natCast] at hq hp
        refine ⟨⟨k + 1, rfl, by omega, fun j x y hj1 hx hy => ?_⟩, by (try dsimp only); omega⟩
        rcases Nat.lt_or_ge j k with hc | hc
        · exact hj j x y hc hx hy
        · have : j = k := by omega
          subst this
          rw [hq] at hx
          rw [hp] at hy
          cases hx; cases hy; exact h2
    · have : k = a.length := by have := of_decide_eq_false h1; omega
      subst this
      unfold teqS
      rw [decide_eq_true]
      exact list_eq_at h fun k x y hx hy => hj k x y (List.getElem?_eq_some_iff.1 hx).1 hx hy

end Go.Proofs.YtdenmllkjdijlaaGreatDoor
set_option linter.unusedVariables false
set_option linter.unusedSimpArgs false
namespace Go.Proofs.YtdenmllkjdijlaaGreatDoor
open Go.Sy Go.RowKit
def LTally_vc (u0 : List Line) (K : Bool → Prop) : Prop :=
  (u0.length ≤ 140737488355328 →
    ((tallyS u0).1.length ≤ 140737488355328 →
    ((((checkS u0) != 0) = true →
      (K (((tallyS u0).2 == (checkS u0)) && (((tallyS u0).1.length : Int) == 0)))) ∧
    (((checkS u0) != 0) = false →
      (∃ inv93 : (List (Int × Int × Int × Int × Int)) → Int → Prop, ∃ mu93 : (List (Int × Int × Int × Int × Int)) → Int → Nat, inv93 ([] : List (Int × Int × Int × Int × Int)) 0 ∧
      (∀ (x6 : List (Int × Int × Int × Int × Int)) (x43 : Int), inv93 x6 x43 →
      (((decide (x43 < 4)) = true →
        (∃ inv132 : (List (Int × Int × Int × Int × Int)) → Int → Prop, ∃ mu132 : (List (Int × Int × Int × Int × Int)) → Int → Nat, inv132 x6 0 ∧
        (∀ (x6v : List (Int × Int × Int × Int × Int)) (x48 : Int), inv132 x6v x48 →
        (((decide (x48 < 2)) = true →
          ((0 ≤ x48 ∧ x48 < (([false, true] : List Bool).length : Int)) ∧
          (∀ q168, ([false, true] : List Bool)[x48.toNat]? = some q168 →
          (∃ inv199 : (List Int) → Int → (List (Int × (List Int))) → Prop, ∃ mu199 : (List Int) → Int → (List (Int × (List Int))) → Nat, inv199 ([] : List Int) 0 ([] : List (Int × List Int)) ∧
          (∀ (x11 : List Int) (x55 : Int) (mb180 : List (Int × (List Int))), inv199 x11 x55 mb180 →
          (((decide (x55 < (u0.length : Int))) = true →
            ((0 ≤ x55 ∧ x55 < (u0.length : Int)) ∧
            (∀ q224, u0[x55.toNat]? = some q224 →
            (q224.F.Data.length ≤ 140737488355328 →
            ((((q224.Bus == x43) && (q224.F.Long == q168)) = true →
              (∀ q282 : List Int, (mget mb180 q224.F.ID).getD [] = q282 →
              (∀ nb287, (((mget mb180 q224.F.ID).isSome = false → nb287 = true) ∧ (q282 ≠ [] → nb287 = false)) →
              ((nb287 = true →
                (((x11.length + 1) * 8 ≤ 140737488355328) ∧
                (∀ q347 : List Int, (mget mb180 q224.F.ID).getD [] = q347 →
                (((q347.length + 1) * 8 ≤ 140737488355328) ∧
                (inv199 (x11 ++ [q224.F.ID]) (w64 (x55 + 1)) (mput mb180 q224.F.ID (q347 ++ [q224.Time])) ∧ mu199 (x11 ++ [q224.F.ID]) (w64 (x55 + 1)) (mput mb180 q224.F.ID (q347 ++ [q224.Time])) < mu199 x11 x55 mb180))))) ∧
              (nb287 = false →
                (∀ q411 : List Int, (mget mb180 q224.F.ID).getD [] = q411 →
                (((q411.length + 1) * 8 ≤ 140737488355328) ∧
                (inv199 x11 (w64 (x55 + 1)) (mput mb180 q224.F.ID (q411 ++ [q224.Time])) ∧ mu199 x11 (w64 (x55 + 1)) (mput mb180 q224.F.ID (q411 ++ [q224.Time])) < mu199 x11 x55 mb180)))))))) ∧
            (((q224.Bus == x43) && (q224.F.Long == q168)) = false →
              (inv199 x11 (w64 (x55 + 1)) mb180 ∧ mu199 x11 (w64 (x55 + 1)) mb180 < mu199 x11 x55 mb180))))))) ∧
          ((decide (x55 < (u0.length : Int))) = false →
            ((isortS x11).length ≤ 140737488355328 →
            (∃ inv475 : (List (Int × Int × Int × Int × Int)) → Int → Prop, ∃ mu475 : (List (Int × Int × Int × Int × Int)) → Int → Nat, inv475 x6v 0 ∧
            (∀ (x6vv : List (Int × Int × Int × Int × Int)) (x100 : Int), inv475 x6vv x100 →
            (((decide (x100 < ((isortS x11).length : Int))) = true →
              ((0 ≤ x100 ∧ x100 < ((isortS x11).length : Int)) ∧
              (∀ q509, (isortS x11)[x100.toNat]? = some q509 →
              (∀ q531 : List Int, (mget mb180 q509).getD [] = q531 →
              (q531.length ≤ 140737488355328 →
              ((q168 = true →
                (∃ inv569 : Int → Int → Int → Prop, ∃ mu569 : Int → Int → Int → Nat, inv569 1 (-1) (-1) ∧
                (∀ (x17 : Int) (yb542c3 : Int) (yb542c4 : Int), inv569 x17 yb542c3 yb542c4 →
                (∀ q591 : List Int, (mget mb180 q509).getD [] = q591 →
                (q591.length ≤ 140737488355328 →
                (((decide (x17 < (q591.length : Int))) = true →
                  (∀ q615 : List Int, (mget mb180 q509).getD [] = q615 →
                  (q615.length ≤ 140737488355328 →
                  ((0 ≤ x17 ∧ x17 < (q615.length : Int)) ∧
                  (∀ q631, q615[x17.toNat]? = some q631 →
                  (∀ q650 : List Int, (mget mb180 q509).getD [] = q650 →
                  (q650.length ≤ 140737488355328 →
                  ((0 ≤ w64 (x17 - 1) ∧ w64 (x17 - 1) < (q650.length : Int)) ∧
                  (∀ q669, q650[(w64 (x17 - 1)).toNat]? = some q669 →
                  (((decide (yb542c3 < 0)) = true →
                    (inv569 (w64 (x17 + 1)) (min (w64 (q631 - q669)) (w64 (q631 - q669))) (max yb542c4 (w64 (q631 - q669))) ∧ mu569 (w64 (x17 + 1)) (min (w64 (q631 - q669)) (w64 (q631 - q669))) (max yb542c4 (w64 (q631 - q669))) < mu569 x17 yb542c3 yb542c4)) ∧
                  ((decide (yb542c3 < 0)) = false →
                    (inv569 (w64 (x17 + 1)) (min yb542c3 (w64 (q631 - q669))) (max yb542c4 (w64 (q631 - q669))) ∧ mu569 (w64 (x17 + 1)) (min yb542c3 (w64 (q631 - q669))) (max yb542c4 (w64 (q631 - q669))) < mu569 x17 yb542c3 yb542c4)))))))))))) ∧
                ((decide (x17 < (q591.length : Int))) = false →
                  (((x6vv.length + 1) * 40 ≤ 140737488355328) ∧
                  (inv475 (x6vv ++ [(x43, w64 ((-1) - q509), (q531.length : Int), yb542c3, yb542c4)]) (w64 (x100 + 1)) ∧ mu475 (x6vv ++ [(x43, w64 ((-1) - q509), (q531.length : Int), yb542c3, yb542c4)]) (w64 (x100 + 1)) < mu475 x6vv x100))))))))) ∧
              (q168 = false →
                (∃ inv804 : Int → Int → Int → Prop, ∃ mu804 : Int → Int → Int → Nat, inv804 1 (-1) (-1) ∧
                (∀ (x17 : Int) (yb542c3 : Int) (yb542c4 : Int), inv804 x17 yb542c3 yb542c4 →
                (∀ q826 : List Int, (mget mb180 q509).getD [] = q826 →
                (q826.length ≤ 140737488355328 →
                (((decide (x17 < (q826.length : Int))) = true →
                  (∀ q850 : List Int, (mget mb180 q509).getD [] = q850 →
                  (q850.length ≤ 140737488355328 →
                  ((0 ≤ x17 ∧ x17 < (q850.length : Int)) ∧
                  (∀ q866, q850[x17.toNat]? = some q866 →
                  (∀ q885 : List Int, (mget mb180 q509).getD [] = q885 →
                  (q885.length ≤ 140737488355328 →
                  ((0 ≤ w64 (x17 - 1) ∧ w64 (x17 - 1) < (q885.length : Int)) ∧
                  (∀ q904, q885[(w64 (x17 - 1)).toNat]? = some q904 →
                  (((decide (yb542c3 < 0)) = true →
                    (inv804 (w64 (x17 + 1)) (min (w64 (q866 - q904)) (w64 (q866 - q904))) (max yb542c4 (w64 (q866 - q904))) ∧ mu804 (w64 (x17 + 1)) (min (w64 (q866 - q904)) (w64 (q866 - q904))) (max yb542c4 (w64 (q866 - q904))) < mu804 x17 yb542c3 yb542c4)) ∧
                  ((decide (yb542c3 < 0)) = false →
                    (inv804 (w64 (x17 + 1)) (min yb542c3 (w64 (q866 - q904))) (max yb542c4 (w64 (q866 - q904))) ∧ mu804 (w64 (x17 + 1)) (min yb542c3 (w64 (q866 - q904))) (max yb542c4 (w64 (q866 - q904))) < mu804 x17 yb542c3 yb542c4)))))))))))) ∧
                ((decide (x17 < (q826.length : Int))) = false →
                  (((x6vv.length + 1) * 40 ≤ 140737488355328) ∧
                  (inv475 (x6vv ++ [(x43, q509, (q531.length : Int), yb542c3, yb542c4)]) (w64 (x100 + 1)) ∧ mu475 (x6vv ++ [(x43, q509, (q531.length : Int), yb542c3, yb542c4)]) (w64 (x100 + 1)) < mu475 x6vv x100))))))))))))))) ∧
            ((decide (x100 < ((isortS x11).length : Int))) = false →
              (inv132 x6vv (w64 (x48 + 1)) ∧ mu132 x6vv (w64 (x48 + 1)) < mu132 x6v x48))))))))))))) ∧
        ((decide (x48 < 2)) = false →
          (inv93 x6v (w64 (x43 + 1)) ∧ mu93 x6v (w64 (x43 + 1)) < mu93 x6 x43)))))) ∧
      ((decide (x43 < 4)) = false →
        (K (((tallyS u0).2 == 0) && (teqS (tallyS u0).1 x6)))))))))))

/-! Pure proofs: no program in sight. -/
/-! ### What the document's count comes to -/
def updT (t : Tally) (x : Int) : Tally := ⟨t.bus, t.id, t.long, t.n + 1, t.first, x, if t.low < 0 ∨ x - t.last < t.low then x - t.last else t.low, max t.high (x - t.last)⟩
def tOf (b : Int) (lg : Bool) (id : Int) : List Int → Tally
  | [] => ⟨b, id, lg, 0, 0, 0, -1, -1⟩
  | t :: r => r.foldl updT ⟨b, id, lg, 1, 0, t, -1, -1⟩
theorem tupd_is (t : Tally) (x : Line) : tupd t x = updT t x.Time := rfl
theorem tOf_snoc {b : Int} {lg : Bool} {id : Int} {ts : List Int} (h : ts ≠ []) (x : Int) : tOf b lg id (ts ++ [x]) = updT (tOf b lg id ts) x := by
  cases ts with
  | nil => exact absurd rfl h
  | cons t r => simp [tOf, List.foldl_append]
theorem foldl_updT_fix (r : List Int) : ∀ t : Tally, (r.foldl updT t).bus = t.bus ∧ (r.foldl updT t).id = t.id ∧ (r.foldl updT t).long = t.long ∧ (r.foldl updT t).n = t.n + r.length ∧ (r.foldl updT t).first = t.first := by
  induction r with
  | nil => intro t; simp
  | cons x r ih =>
    intro t
    obtain ⟨h1, h2, h3, h4, h5⟩ := ih (updT t x)
    rw [List.foldl_cons]
    refine ⟨h1, h2, h3, ?_, h5⟩
    rw [h4, List.length_cons]
    show t.n + 1 + _ = _
    omega
theorem tOf_fix {b : Int} {lg : Bool} {id : Int} {ts : List Int} : (tOf b lg id ts).bus = b ∧ (tOf b lg id ts).id = id ∧ (tOf b lg id ts).long = lg ∧ (tOf b lg id ts).n = ts.length := by
  cases ts with
  | nil => simp [tOf]
  | cons t r =>
    obtain ⟨h1, h2, h3, h4, h5⟩ := foldl_updT_fix r ⟨b, id, lg, 1, 0, t, -1, -1⟩
    refine ⟨h1, h2, h3, ?_⟩
    show (r.foldl updT ⟨b, id, lg, 1, 0, t, -1, -1⟩).n = _
    rw [h4, List.length_cons]; simp only; omega
theorem tOf_last {b : Int} {lg : Bool} {id : Int} {ts : List Int} {k : Nat} {x : Int} (h : ts[k]? = some x) : (tOf b lg id (ts.take (k + 1))).last = x := by
  cases k with
  | zero =>
    cases ts with
    | nil => simp at h
    | cons t r => simp only [List.getElem?_cons_zero, Option.some.injEq] at h; subst h; simp [tOf]
  | succ k =>
    rw [take_one h, tOf_snoc]
    · rfl
    · intro h0
      have := congrArg List.length h0
      have h1 := (List.getElem?_eq_some_iff.1 h).1
      rw [List.length_take, List.length_nil] at this
      omega
theorem tOf_step {b : Int} {lg : Bool} {id : Int} {ts : List Int} {k : Nat} {x : Int} (hk : 0 < k) (h : ts[k]? = some x) : tOf b lg id (ts.take (k + 1)) = updT (tOf b lg id (ts.take k)) x := by
  rw [take_one h, tOf_snoc]
  intro h0
  have := congrArg List.length h0
  have h1 := (List.getElem?_eq_some_iff.1 h).1
  rw [List.length_take, List.length_nil] at this
  omega
def selT (b : Int) (lg : Bool) (t : Tally) : Bool := (t.bus == b) && (t.long == lg)
theorem sel_upd (b : Int) (lg : Bool) (t : Tally) (x : Line) : selT b lg (tupd t x) = selT b lg t := rfl
theorem sel_mt {b : Int} {lg : Bool} {t : Tally} {x : Line} (h : tmt x t = true) : selT b lg t = selT b lg (tnew x) := by
  have := (tmt_key x t).1 h
  unfold tkey at this
  simp only [Prod.mk.injEq] at this
  unfold selT
  rw [this.1, this.2.1]
theorem filter_no {b : Int} {lg : Bool} {x : Line} (h : selT b lg (tnew x) = false) : ∀ ts : List Tally, (tstep ts x).filter (selT b lg) = ts.filter (selT b lg)
  | [] => by simp [tstep, h]
  | t :: r => by
    rw [tstep]
    split
    · next h1 =>
      have h2 : selT b lg t = false := (sel_mt h1).trans h
      rw [List.filter_cons, List.filter_cons, sel_upd, h2]
      rfl
    · rw [List.filter_cons, List.filter_cons, filter_no h r]
theorem filter_yes {b : Int} {lg : Bool} {x : Line} (h : selT b lg (tnew x) = true) : ∀ ts : List Tally, (tstep ts x).filter (selT b lg) = tstep (ts.filter (selT b lg)) x
  | [] => by simp [tstep, h]
  | t :: r => by
    rw [tstep]
    split
    · next h1 =>
      have h2 : selT b lg t = true := (sel_mt h1).trans h
      rw [List.filter_cons, sel_upd, h2, List.filter_cons, h2]
      simp only [if_true]
      rw [tstep, if_pos h1]
    · next h1 =>
      rw [List.filter_cons, filter_yes h r, List.filter_cons]
      split
      · rw [tstep, if_neg h1]
      · rfl
/-- What the document's count holds of one bus and kind: the numbers in the order in which they came, the times of each. -/
structure TInv (b : Int) (lg : Bool) (F : List Tally) (ids : List Int) (mb : List (Int × List Int)) : Prop where
  ids_ : ids = F.map (·.id)
  has : ∀ t ∈ F, ∃ ts, mget mb t.id = some ts ∧ ts ≠ [] ∧ tOf b lg t.id ts = t ∧ ∀ x ∈ ts, 0 ≤ x ∧ x ≤ 1000000
  none : ∀ id, id ∉ ids → mget mb id = none
theorem mget_put {κ ν : Type} [DecidableEq κ] (k k' : κ) (v : ν) : ∀ m : List (κ × ν), mget (mput m k v) k' = if k' = k then some v else mget m k'
  | [] => by
    unfold mput mget
    by_cases h : k' = k
    · simp [h]
    · simp [h]
  | x :: r => by
    have ih := mget_put k k' v r
    rw [mput]
    by_cases hx : k = x.1
    · rw [if_pos hx]
      unfold mget
      rw [List.find?_cons, List.find?_cons]
      by_cases h : k' = k
      · simp [h]
      · have h' : k' ≠ x.1 := fun e => h (e.trans hx.symm)
        simp [h, h']
    · rw [if_neg hx]
      unfold mget at ih ⊢
      rw [List.find?_cons, List.find?_cons]
      by_cases h' : k' = x.1
      · have h : k' ≠ k := fun e => hx (e.symm.trans h')
        have h3 : ¬ x.1 = k := fun e => hx e.symm
        simp [h', h3]
      · simp only [decide_eq_false h']
        exact ih
theorem tmt_sel {b : Int} {lg : Bool} {x : Line} (h : selT b lg (tnew x) = true) {t : Tally} (ht : selT b lg t = true) : tmt x t = true ↔ t.id = x.F.ID := by
  rw [tmt_key]
  unfold tkey
  unfold selT at h ht
  simp at h ht
  simp [tnew, ht, h, tnew] at *
  obtain ⟨h1, h2⟩ := h
  simp [h1, h2]
theorem TInv.new {b : Int} {lg : Bool} {F : List Tally} {ids : List Int} {mb : List (Int × List Int)} (h : TInv b lg F ids mb) (hF : ∀ t ∈ F, selT b lg t = true) {x : Line} (hx : selT b lg (tnew x) = true) (hn : x.F.ID ∉ ids) (hxt : 0 ≤ x.Time ∧ x.Time ≤ 1000000) : TInv b lg (tstep F x) (ids ++ [x.F.ID]) (mput mb x.F.ID [x.Time]) := by
  have hno : ∀ t ∈ F, ¬ tmt x t = true := fun t ht e => hn (by rw [h.ids_, ← (tmt_sel hx (hF t ht)).1 e]; exact List.mem_map.2 ⟨t, ht, rfl⟩)
  have hs : tstep F x = F ++ [tnew x] := by
    refine tstep_none ?_
    rw [List.findIdx?_eq_none_iff]
    intro t ht
    simpa using hno t ht
  have hb : (tnew x).bus = b ∧ (tnew x).long = lg := by unfold selT at hx; simpa using hx
  refine ⟨by rw [hs, h.ids_, List.map_append]; rfl, fun t ht => ?_, fun id hid => ?_⟩
  · rw [hs] at ht
    rcases List.mem_append.1 ht with ht | ht
    · obtain ⟨ts, e1, e2, e3, e4⟩ := h.has t ht
      refine ⟨ts, ?_, e2, e3, e4⟩
      rw [mget_put, if_neg, e1]
      intro e
      exact hn (by rw [h.ids_, ← e]; exact List.mem_map.2 ⟨t, ht, rfl⟩)
    · simp only [List.mem_singleton] at ht
      subst ht
      refine ⟨[x.Time], ?_, by simp, ?_, fun y hy => by rw [List.mem_singleton] at hy; rw [hy]; exact hxt⟩
      · rw [mget_put]; exact if_pos rfl
      · show (⟨b, (tnew x).id, lg, 1, 0, x.Time, -1, -1⟩ : Tally) = tnew x
        rw [← hb.1, ← hb.2]; rfl
  · rw [List.mem_append, not_or] at hid
    rw [mget_put, if_neg (by simpa using hid.2)]
    exact h.none id hid.1
theorem mem_tstep {x : Line} : ∀ {F : List Tally}, (F.map tkey).Nodup → ∀ t ∈ tstep F x, (t ∈ F ∧ ¬ tmt x t = true) ∨ (∃ t0 ∈ F, tmt x t0 = true ∧ t = tupd t0 x) ∨ (t = tnew x ∧ ∀ t0 ∈ F, ¬ tmt x t0 = true)
  | [], _, t, ht => by
    rw [tstep, List.mem_singleton] at ht
    exact .inr (.inr ⟨ht, by simp⟩)
  | y :: r, hn, t, ht => by
    rw [List.map_cons, List.nodup_cons] at hn
    rw [tstep] at ht
    split at ht
    · next h1 =>
      rcases List.mem_cons.1 ht with rfl | ht2
      · exact .inr (.inl ⟨y, List.mem_cons_self, h1, rfl⟩)
      · refine .inl ⟨List.mem_cons_of_mem _ ht2, fun h2 => hn.1 ?_⟩
        rw [(tmt_key x y).1 h1, ← (tmt_key x t).1 h2]
        exact List.mem_map.2 ⟨t, ht2, rfl⟩
    · next h1 =>
      rcases List.mem_cons.1 ht with rfl | ht2
      · exact .inl ⟨List.mem_cons_self, h1⟩
      · rcases mem_tstep hn.2 t ht2 with ⟨a, b⟩ | ⟨t0, a, b, c⟩ | ⟨a, b⟩
        · exact .inl ⟨List.mem_cons_of_mem _ a, b⟩
        · exact .inr (.inl ⟨t0, List.mem_cons_of_mem _ a, b, c⟩)
        · exact .inr (.inr ⟨a, fun t0 h0 => (List.mem_cons.1 h0).elim (fun e => e ▸ h1) (b t0)⟩)
theorem TInv.old {b : Int} {lg : Bool} {F : List Tally} {ids : List Int} {mb : List (Int × List Int)} (h : TInv b lg F ids mb) (hF : ∀ t ∈ F, selT b lg t = true) (hK : (F.map tkey).Nodup) {x : Line} (hx : selT b lg (tnew x) = true) (hn : x.F.ID ∈ ids) {ts : List Int} (hts : mget mb x.F.ID = some ts) (hxt : 0 ≤ x.Time ∧ x.Time ≤ 1000000) : TInv b lg (tstep F x) ids (mput mb x.F.ID (ts ++ [x.Time])) := by
  have hk := tstep_keys x F
  rw [h.ids_] at hn
  obtain ⟨t0, ht0, hid0⟩ := List.mem_map.1 hn
  have hm0 := (tmt_sel hx (hF t0 ht0)).2 hid0
  rw [if_pos (by rw [← (tmt_key x t0).1 hm0]; exact List.mem_map.2 ⟨t0, ht0, rfl⟩)] at hk
  have hids : (tstep F x).map (·.id) = F.map (·.id) := by
    have := congrArg (List.map fun k : Int × Bool × Int => k.2.2) hk
    rw [List.map_map, List.map_map] at this
    exact this
  refine ⟨by rw [hids, h.ids_], fun t ht => ?_, fun id hid => ?_⟩
  · rcases mem_tstep hK t ht with ⟨a, c⟩ | ⟨t1, a, c, rfl⟩ | ⟨_, c⟩
    · obtain ⟨ts', e1, e2, e3, e4⟩ := h.has t a
      refine ⟨ts', ?_, e2, e3, e4⟩
      rw [mget_put, if_neg, e1]
      exact fun e => c ((tmt_sel hx (hF t a)).2 e)
    · have hid := (tmt_sel hx (hF t1 a)).1 c
      obtain ⟨ts', e1, e2, e3, e4⟩ := h.has t1 a
      have : ts' = ts := by rw [hid, hts] at e1; exact (Option.some.inj e1).symm
      subst this
      have e0 : (tupd t1 x).id = t1.id := rfl
      rw [e0]
      refine ⟨ts' ++ [x.Time], ?_, by simp, ?_, fun y hy => (List.mem_append.1 hy).elim (e4 y) fun hy => by rw [List.mem_singleton] at hy; rw [hy]; exact hxt⟩
      · rw [mget_put, if_pos hid]
      · rw [tOf_snoc e2, e3, tupd_is]
    · exact absurd hm0 (c t0 ht0)
  · rw [mget_put, if_neg, h.none id hid]
    rintro rfl
    exact hid (by rw [h.ids_]; exact hn)
/-- The counted of one bus and kind, by number. -/
def seg (l : List Line) (b : Int) (lg : Bool) : List Tally := ((tfold l).filter (selT b lg)).mergeSort fun x y => decide (x.id ≤ y.id)
theorem seg_mem {l : List Line} {b : Int} {lg : Bool} (t : Tally) : t ∈ seg l b lg ↔ t ∈ tfold l ∧ t.bus = b ∧ t.long = lg := by
  unfold seg
  rw [List.mem_mergeSort, List.mem_filter]
  unfold selT
  simp
theorem seg_ids (l : List Line) (b : Int) (lg : Bool) : (seg l b lg).Pairwise fun x y => x.id < y.id := by
  have h1 : (seg l b lg).Pairwise fun x y => x.id ≤ y.id := by
    have h := List.pairwise_mergeSort (le := fun x y : Tally => decide (x.id ≤ y.id)) (fun a b c h k => by simp only [decide_eq_true_eq] at *; omega) (fun a b => by simp only [Bool.or_eq_true, decide_eq_true_eq]; omega) ((tfold l).filter (selT b lg))
    exact h.imp fun h => by simpa using h
  have h2 : (seg l b lg).Pairwise fun x y => tkey x ≠ tkey y := by
    have hn := tfold_nodup l
    have h3 : ((seg l b lg).map tkey).Nodup := by
      have hp : (seg l b lg).Perm ((tfold l).filter (selT b lg)) := List.mergeSort_perm _ _
      rw [(hp.map tkey).nodup_iff]
      exact hn.sublist ((List.filter_sublist (l := tfold l)).map tkey)
    exact List.pairwise_map.1 h3
  refine (List.pairwise_and_iff.2 ⟨h1, h2⟩).imp_of_mem fun {x y} hx hy h => ?_
  obtain ⟨_, a1, a2⟩ := (seg_mem x).1 hx
  obtain ⟨_, b1, b2⟩ := (seg_mem y).1 hy
  have : x.id ≠ y.id := fun e => h.2 (by unfold tkey; rw [a1, a2, b1, b2, e])
  have := h.1
  omega
theorem pw_uniq {α : Type} {R : α → α → Prop} (hirr : ∀ x, ¬ R x x) : ∀ {a b : List α}, (∀ x ∈ a, ∀ y ∈ a, R x y → R y x → x = y) → (∀ x, x ∈ a ↔ x ∈ b) → a.Pairwise R → b.Pairwise R → a = b := by
  intro a b h hm ha hb
  have na : a.Nodup := List.Pairwise.imp (fun {x y} (k : R x y) => fun (e : x = y) => hirr y (e ▸ k)) ha
  have nb : b.Nodup := List.Pairwise.imp (fun {x y} (k : R x y) => fun (e : x = y) => hirr y (e ▸ k)) hb
  exact srt_uniq h ((List.perm_ext_iff_of_nodup na nb).2 hm) ha hb
theorem tsort_strict (l : List Line) : (tsort (tfold l)).Pairwise fun x y => tcf x y < 0 := by
  have h1 := tsort_sorted (tfold l)
  have h2 : (tsort (tfold l)).Pairwise fun x y => tkey x ≠ tkey y := by
    have hp : (tsort (tfold l)).Perm (tfold l) := List.mergeSort_perm _ _
    have : ((tsort (tfold l)).map tkey).Nodup := by rw [(hp.map tkey).nodup_iff]; exact tfold_nodup l
    exact List.pairwise_map.1 this
  refine (List.pairwise_and_iff.2 ⟨h1, h2⟩).imp fun {x y} h => ?_
  apply Decidable.byContradiction
  intro h3
  exact h.2 (tcf_antis ((tcf_le _ _).2 h.1) ((tcf_le _ _).2 h3))
def segs (l : List Line) (m : Nat) : List Tally := ((List.range m).map fun b : Nat => seg l (b : Int) false ++ seg l (b : Int) true).flatten
theorem segs_succ (l : List Line) (m : Nat) : segs l (m + 1) = segs l m ++ (seg l (m : Int) false ++ seg l (m : Int) true) := by
  unfold segs
  rw [List.range_succ, List.map_append, List.flatten_append]
  simp
theorem segs_mem {l : List Line} (t : Tally) : ∀ m, t ∈ segs l m ↔ t ∈ tfold l ∧ ∃ b : Nat, b < m ∧ t.bus = b
  | 0 => by simp [segs]
  | m + 1 => by
    rw [segs_succ, List.mem_append, segs_mem t m, List.mem_append, seg_mem, seg_mem]
    constructor
    · rintro (⟨h, b, hb, e⟩ | ⟨h, e, _⟩ | ⟨h, e, _⟩)
      · exact ⟨h, b, by omega, e⟩
      · exact ⟨h, m, by omega, e⟩
      · exact ⟨h, m, by omega, e⟩
    · rintro ⟨h, b, hb, e⟩
      rcases Nat.lt_or_ge b m with h1 | h1
      · exact .inl ⟨h, b, h1, e⟩
      · have : b = m := by omega
        subst this
        cases hl : t.long with
        | false => exact .inr (.inl ⟨h, e, rfl⟩)
        | true => exact .inr (.inr ⟨h, e, rfl⟩)
theorem segs_sorted (l : List Line) : ∀ m, (segs l m).Pairwise fun x y => tcf x y < 0
  | 0 => by simp [segs]
  | m + 1 => by
    have hs : ∀ lg, (seg l (m : Int) lg).Pairwise fun x y => tcf x y < 0 := fun lg => by
      refine (seg_ids l m lg).imp_of_mem fun {x y} hx hy h => ?_
      obtain ⟨_, a1, a2⟩ := (seg_mem x).1 hx
      obtain ⟨_, b1, b2⟩ := (seg_mem y).1 hy
      rw [tcf_lt]
      exact .inr ⟨by rw [a1, b1], .inr ⟨by rw [a2, b2], h⟩⟩
    rw [segs_succ]
    refine List.pairwise_append.2 ⟨segs_sorted l m, List.pairwise_append.2 ⟨hs _, hs _, fun x hx y hy => ?_⟩, fun x hx y hy => ?_⟩
    · obtain ⟨_, a1, a2⟩ := (seg_mem x).1 hx
      obtain ⟨_, b1, b2⟩ := (seg_mem y).1 hy
      rw [tcf_lt]
      exact .inr ⟨by rw [a1, b1], .inl ⟨a2, b2⟩⟩
    · obtain ⟨_, b, hb, e⟩ := (segs_mem x m).1 hx
      have e2 : y.bus = m := by
        rcases List.mem_append.1 hy with hy | hy
        · exact ((seg_mem y).1 hy).2.1
        · exact ((seg_mem y).1 hy).2.1
      rw [tcf_lt]
      exact .inl (by rw [e, e2]; omega)
theorem segs_all {l : List Line} (h : checkS l = 0) : segs l 4 = tsort (tfold l) := by
  obtain ⟨i1, _, _⟩ := tfold_ok h l.length (Nat.le_refl _)
  rw [List.take_length] at i1
  refine pw_uniq (R := fun x y => tcf x y < 0) (fun x hx => by rw [tcf_self] at hx; omega) (fun x hx y hy h1 h2 => ?_) (fun t => ?_) (segs_sorted l 4) (tsort_strict l)
  · exfalso
    rw [tcf_lt] at h1 h2
    cases ha : x.long <;> cases hb : y.long <;> simp [ha, hb] at h1 h2 <;> omega
  · rw [segs_mem]
    unfold tsort
    rw [List.mem_mergeSort]
    refine ⟨fun h => h.1, fun h => ⟨h, ?_⟩⟩
    have := (i1 t h).1.1
    exact ⟨t.bus.toNat, by omega, by omega⟩
theorem ids_sorted (l : List Line) (b : Int) (lg : Bool) : isortS (((tfold l).filter (selT b lg)).map (·.id)) = (seg l b lg).map (·.id) := by
  have hp : (seg l b lg).Perm ((tfold l).filter (selT b lg)) := List.mergeSort_perm _ _
  have hq : (isortS (((tfold l).filter (selT b lg)).map (·.id))).Perm (((tfold l).filter (selT b lg)).map (·.id)) := List.mergeSort_perm _ _
  refine srt_uniq (R := fun x y : Int => x ≤ y) (fun x _ y _ h k => by omega) (hq.trans (hp.map (·.id)).symm) ?_ ?_
  · have h := List.pairwise_mergeSort (le := fun x y : Int => decide (x ≤ y)) (fun a b c h k => by simp only [decide_eq_true_eq] at *; omega) (fun a b => by simp only [Bool.or_eq_true, decide_eq_true_eq]; omega) (((tfold l).filter (selT b lg)).map (·.id))
    exact h.imp fun h => by simpa using h
  · exact List.pairwise_map.2 ((seg_ids l b lg).imp fun h => by omega)
theorem tgap {b : Int} {lg : Bool} {id : Int} {ts : List Int} (hb : ∀ x ∈ ts, 0 ≤ x ∧ x ≤ 1000000) {j : Nat} (hj : 1 ≤ j) {x y : Int} (hx : ts[j]? = some x) (hy : ts[j - 1]? = some y) :
    (decide ((tOf b lg id (ts.take j)).low < 0) = true → (tOf b lg id (ts.take (j + 1))).low = min (w64 (x - y)) (w64 (x - y))) ∧
    (decide ((tOf b lg id (ts.take j)).low < 0) = false → (tOf b lg id (ts.take (j + 1))).low = min (tOf b lg id (ts.take j)).low (w64 (x - y))) ∧
    (tOf b lg id (ts.take (j + 1))).high = max (tOf b lg id (ts.take j)).high (w64 (x - y)) := by
  have h1 := hb x (List.mem_of_getElem? hx)
  have h2 := hb y (List.mem_of_getElem? hy)
  have hl : (tOf b lg id (ts.take j)).last = y := by
    have := tOf_last (b := b) (lg := lg) (id := id) hy
    rwa [show j - 1 + 1 = j by omega] at this
  rw [w64_eq (x - y) (by omega), tOf_step hj hx]
  unfold updT
  rw [hl]
  simp only [decide_eq_true_eq, decide_eq_false_iff_not]
  refine ⟨fun h => ?_, fun h => ?_, trivial⟩
  · rw [if_pos (.inl h)]; omega
  · split <;> omega
theorem LTally_ok (u : List Line) : LTally_vc u (fun r => r = true) := by
  intro hl ht
  refine ⟨fun h => ?_, fun h => ?_⟩
  · have h : checkS u ≠ 0 := by simpa using h
    have e : tallyS u = ([], checkS u) := by unfold tallyS; rw [if_neg h]
    rw [e]; simp
  have h : checkS u = 0 := by simpa using h
  have hT : tallyS u = ((tsort (tfold u)).map trow, 0) := by unfold tallyS; rw [if_pos h]
  obtain ⟨h100, hc⟩ := checkS_ok h
  have hL := chkF_ok u 0 hc
  rw [hT]
  have hrow : ∀ m, ((segs u m).map trow).length ≤ m * (u.length + u.length) := by
    intro m
    obtain ⟨_, i2, _⟩ := tfold_ok h u.length (Nat.le_refl _)
    rw [List.take_length] at i2
    have hs : ∀ b lg, (seg u b lg).length ≤ u.length := fun b lg => by
      unfold seg
      rw [List.length_mergeSort]
      exact Nat.le_trans (List.length_filter_le _ _) i2
    induction m with
    | zero => simp [segs]
    | succ m ih =>
      rw [segs_succ, Nat.succ_mul]
      simp only [List.length_map, List.length_append] at ih ⊢
      have h1 := hs m false; have h2 := hs m true
      omega
  refine ⟨fun x i => ∃ m : Nat, i = m ∧ m ≤ 4 ∧ x = (segs u m).map trow, fun _ i => 4 - i.toNat, ⟨0, rfl, by omega, by simp [segs]⟩, ?_⟩
  rintro _ _ ⟨m, rfl, hm, rfl⟩
  refine ⟨fun h1 => ?_, fun h1 => ?_⟩
  rotate_left
  · have : m = 4 := by simp at h1; omega
    subst this
    rw [segs_all h]
    simp [teqS]
  have hm4 : m < 4 := by have := of_decide_eq_true h1; omega
  have hkind : ∀ (j : Nat) (lg : Bool), ([false, true] : List Bool)[j]? = some lg → ((List.range j).map fun i => seg u (m : Int) (i == 1)).flatten ++ seg u (m : Int) lg = ((List.range (j + 1)).map fun i => seg u (m : Int) (i == 1)).flatten := fun j lg hj => by
    rw [List.range_succ, List.map_append, List.flatten_append]
    have : lg = (j == 1) := by
      rcases j with _ | _ | j
      · simpa using hj.symm
      · simpa using hj.symm
      · simp at hj
    simp [this]
  have hin : ∀ j, ((List.range j).map fun i => seg u (m : Int) (i == 1)).flatten.length ≤ j * u.length := by
    obtain ⟨_, i2, _⟩ := tfold_ok h u.length (Nat.le_refl _)
    rw [List.take_length] at i2
    have hs : ∀ b lg, (seg u b lg).length ≤ u.length := fun b lg => by
      unfold seg
      rw [List.length_mergeSort]
      exact Nat.le_trans (List.length_filter_le _ _) i2
    intro j
    induction j with
    | zero => simp
    | succ j ih =>
      rw [List.range_succ, List.map_append, List.flatten_append, List.length_append, Nat.succ_mul]
      have := hs m (j == 1)
      simp only [List.map_cons, List.map_nil, List.flatten_cons, List.flatten_nil, List.append_nil]
      omega
  have hm2 := hrow m
  have hm3 : m * (u.length + u.length) ≤ 800 := by
    have : m * (u.length + u.length) ≤ 4 * (u.length + u.length) := Nat.mul_le_mul_right _ (by omega)
    omega
  refine ⟨fun x i => ∃ j : Nat, i = j ∧ j ≤ 2 ∧ x = (segs u m).map trow ++ (((List.range j).map fun i => seg u (m : Int) (i == 1)).flatten).map trow, fun _ i => 2 - i.toNat, ⟨0, rfl, by omega, by simp⟩, ?_⟩
  rintro _ _ ⟨j, rfl, hj, rfl⟩
  refine ⟨fun h2 => ?_, fun h2 => ?_⟩
  rotate_left
  · have : j = 2 := by simp at h2; omega
    subst this
    rw [w64_succ m (by omega)]
    refine ⟨⟨m + 1, rfl, by omega, ?_⟩, by dsimp only; omega⟩
    have hr : List.range 2 = [0, 1] := rfl
    rw [segs_succ, List.map_append, hr]
    simp
  have hj2 : j < 2 := by have := of_decide_eq_true h2; omega
  refine ⟨by simp only [List.length_cons, List.length_nil]; omega, fun lg hlg => ?_⟩
  rw [Int.toNat_natCast] at hlg
  have hkj := hkind j lg hlg
  have hfn : ∀ k, ((tfold (u.take k)).map tkey).Nodup := fun k => tfold_nodup _
  have hlen0 := hin j
  have hjj : j * u.length ≤ 200 := by
    have : j * u.length ≤ 2 * u.length := Nat.mul_le_mul_right _ (by omega)
    omega
  clear hkind hin hrow
  generalize hpre : (segs u m).map trow ++ (((List.range j).map fun i => seg u (m : Int) (i == 1)).flatten).map trow = pre at *
  have hprel : pre.length ≤ 1000 := by
    rw [← hpre, List.length_append]
    simp only [List.length_map] at *
    omega
  refine ⟨fun ids i mb => ∃ k : Nat, i = k ∧ k ≤ u.length ∧ TInv m lg ((tfold (u.take k)).filter (selT m lg)) ids mb, fun _ i _ => u.length - i.toNat,
    ⟨0, rfl, by omega, ⟨by simp [tfold], by simp [tfold], fun _ _ => rfl⟩⟩, ?_⟩
  rintro ids _ mb ⟨k, rfl, hk, hI⟩
  have hidl : ids.length ≤ k := by
    obtain ⟨_, i2, _⟩ := tfold_ok h k hk
    rw [hI.ids_, List.length_map]
    exact Nat.le_trans (List.length_filter_le _ _) i2
  refine ⟨fun h3 => ?_, fun h3 => ?_⟩
  · have hkm : k < u.length := by simpa using h3
    refine ⟨by omega, fun q hq _ => ?_⟩
    rw [Int.toNat_natCast] at hq
    have hst := tfold_take hq
    have hqL := hL q (List.mem_of_getElem? hq)
    have hsel : selT m lg (tnew q) = ((q.Bus == (m : Int)) && (q.F.Long == lg)) := rfl
    have hF : ∀ t ∈ (tfold (u.take k)).filter (selT m lg), selT m lg t = true := fun t ht => (List.mem_filter.1 ht).2
    have hK : (((tfold (u.take k)).filter (selT m lg)).map tkey).Nodup := (hfn k).sublist ((List.filter_sublist (l := tfold (u.take k))).map tkey)
    rw [w64_succ k (by omega)]
    refine ⟨fun h4 => fun ts hts nb hnb => ?_, fun h4 => ?_⟩
    · have hx : selT m lg (tnew q) = true := by rw [hsel]; exact h4
      have hlts : ts.length ≤ 100 := by
        by_cases hid : q.F.ID ∈ ids
        · rw [hI.ids_] at hid
          obtain ⟨t, ht, e⟩ := List.mem_map.1 hid
          obtain ⟨ts', e1, e2, e3, _⟩ := hI.has t ht
          rw [← e, e1] at hts
          have hts : ts' = ts := hts
          subst hts
          obtain ⟨i1, _, _⟩ := tfold_ok h k hk
          have hb := (i1 t (List.mem_filter.1 ht).1).1.2.2.1
          have := (tOf_fix (b := m) (lg := lg) (id := t.id) (ts := ts')).2.2.2
          rw [e3] at this
          omega
        · rw [hI.none _ hid] at hts
          have hts : [] = ts := hts
          subst hts; simp
      refine ⟨fun h5 => ⟨by omega, fun ts2 hts2 => ⟨?_, ?_⟩⟩, fun h5 => fun ts2 hts2 => ⟨?_, ?_⟩⟩
      · rw [hts] at hts2; subst hts2; omega
      · have hno : q.F.ID ∉ ids := by
          intro hid
          rw [hI.ids_] at hid
          obtain ⟨t, ht, e⟩ := List.mem_map.1 hid
          obtain ⟨ts', e1, e2, e3, _⟩ := hI.has t ht
          rw [← e, e1] at hts
          have hts : ts' = ts := hts
          subst hts
          have := hnb.2 e2
          rw [this] at h5; cases h5
        have e0 : ts2 = [] := by rw [← hts2, hI.none _ hno]; rfl
        rw [e0]
        refine ⟨⟨k + 1, rfl, by omega, ?_⟩, by dsimp only; omega⟩
        rw [hst, filter_yes hx]
        exact hI.new hF hx hno hqL.1
      · rw [hts] at hts2; subst hts2; omega
      · have hid : q.F.ID ∈ ids := by
          apply Decidable.byContradiction
          intro hno
          have := hnb.1 (by rw [hI.none _ hno]; rfl)
          rw [this] at h5; cases h5
        have hg : mget mb q.F.ID = some ts2 := by
          have hid2 := hid
          rw [hI.ids_] at hid2
          obtain ⟨t, ht, e⟩ := List.mem_map.1 hid2
          obtain ⟨ts', e1, e2, e3, _⟩ := hI.has t ht
          rw [← e, e1] at hts2 ⊢
          exact congrArg some hts2
        refine ⟨⟨k + 1, rfl, by omega, ?_⟩, by dsimp only; omega⟩
        rw [hst, filter_yes hx]
        exact hI.old hF hK hx hid hg hqL.1
    · have hx : selT m lg (tnew q) = false := by rw [hsel]; exact h4
      refine ⟨⟨k + 1, rfl, by omega, ?_⟩, by dsimp only; omega⟩
      rw [hst, filter_no hx]
      exact hI
  · have : k = u.length := by simp at h3; omega
    subst this
    rw [List.take_length] at hI
    have hids : isortS ids = (seg u m lg).map (·.id) := by rw [hI.ids_]; exact ids_sorted u m lg
    have hsl : (seg u m lg).length ≤ 100 := by
      obtain ⟨_, i2, _⟩ := tfold_ok h u.length (Nat.le_refl _)
      rw [List.take_length] at i2
      unfold seg
      rw [List.length_mergeSort]
      have := List.length_filter_le (selT (m : Int) lg) (tfold u)
      omega
    have hhas : ∀ t ∈ seg u m lg, ∃ ts, mget mb t.id = some ts ∧ ts ≠ [] ∧ tOf m lg t.id ts = t ∧ ∀ x ∈ ts, 0 ≤ x ∧ x ≤ 1000000 := fun t ht => by
      refine hI.has t (List.mem_filter.2 ⟨((seg_mem t).1 ht).1, ?_⟩)
      unfold selT
      simp [((seg_mem t).1 ht).2.1, ((seg_mem t).1 ht).2.2]
    obtain ⟨hb1, _, _⟩ := tfold_ok h u.length (Nat.le_refl _)
    rw [List.take_length] at hb1
    have htm : ∀ t ∈ seg u m lg, tbd u.length t := fun t ht => (hb1 t ((seg_mem t).1 ht).1).1
    intro _
    rw [hids]
    refine ⟨fun x i => ∃ n : Nat, i = n ∧ n ≤ (seg u m lg).length ∧ x = pre ++ ((seg u m lg).take n).map trow, fun _ i => (seg u m lg).length - i.toNat, ⟨0, rfl, by omega, by simp⟩, ?_⟩
    rintro _ _ ⟨n, rfl, hn, rfl⟩
    rw [List.length_map]
    refine ⟨fun h4 => ?_, fun h4 => ?_⟩
    rotate_left
    · have : n = (seg u m lg).length := by simp at h4; omega
      subst this
      rw [List.take_length, w64_succ j (by omega)]
      refine ⟨⟨j + 1, rfl, by omega, ?_⟩, by dsimp only; omega⟩
      rw [← hkj, ← hpre, List.map_append, List.append_assoc]
    have hnn : n < (seg u m lg).length := by simpa using h4
    refine ⟨by omega, fun id hid ts hts _ => ?_⟩
    rw [Int.toNat_natCast, List.getElem?_map, Option.map_eq_some_iff] at hid
    obtain ⟨t, ht, rfl⟩ := hid
    have htmem := List.mem_of_getElem? ht
    obtain ⟨ts', e1, e2, e3, e4⟩ := hhas t htmem
    have hts : ts' = ts := by rw [e1] at hts; exact hts
    subst hts
    obtain ⟨a1, a2, a3, a4, a5, a6⟩ := htm t htmem
    have hfix := tOf_fix (b := m) (lg := lg) (id := t.id) (ts := ts')
    rw [e3] at hfix
    obtain ⟨f1, _, f3, f4⟩ := hfix
    have htl : ts'.length ≤ 100 := by omega
    have hini : ∃ k : Nat, (1 : Int) = k ∧ 1 ≤ k ∧ k ≤ ts'.length ∧ (-1 : Int) = (tOf m lg t.id (ts'.take k)).low ∧ (-1 : Int) = (tOf m lg t.id (ts'.take k)).high := by
      refine ⟨1, rfl, Nat.le_refl _, by omega, ?_, ?_⟩
      · cases ts' with
        | nil => exact absurd rfl e2
        | cons a r => rfl
      · cases ts' with
        | nil => exact absurd rfl e2
        | cons a r => rfl
    refine ⟨fun h5 => ?_, fun h5 => ?_⟩
    · have hlg : lg = true := h5
      refine ⟨fun x y3 y4 => ∃ k : Nat, x = k ∧ 1 ≤ k ∧ k ≤ ts'.length ∧ y3 = (tOf m lg t.id (ts'.take k)).low ∧ y4 = (tOf m lg t.id (ts'.take k)).high, fun x _ _ => ts'.length - x.toNat, hini, ?_⟩
      rintro _ _ _ ⟨k, rfl, hk1, hk, rfl, rfl⟩ ta hta _
      have hta : ts' = ta := by rw [e1] at hta; exact hta
      subst hta
      refine ⟨fun h6 => ?_, fun h6 => ?_⟩
      · have hkl : k < ts'.length := by have := of_decide_eq_true h6; omega
        intro tb htb _
        have htb : ts' = tb := by rw [e1] at htb; exact htb
        subst htb
        refine ⟨by omega, fun x hx tc htc _ => ?_⟩
        have htc : ts' = tc := by rw [e1] at htc; exact htc
        subst htc
        rw [w64_eq ((k : Int) - 1) (by omega), w64_succ k (by omega)]
        refine ⟨by omega, fun y hy => ?_⟩
        rw [Int.toNat_natCast] at hx
        rw [show ((k : Int) - 1).toNat = k - 1 by omega] at hy
        obtain ⟨g1, g2, g3⟩ := tgap (b := m) (lg := lg) (id := t.id) e4 hk1 hx hy
        refine ⟨fun h7 => ?_, fun h7 => ?_⟩
        · rw [← g1 h7, ← g3]
          exact ⟨⟨k + 1, rfl, by omega, by omega, rfl, rfl⟩, by dsimp only; omega⟩
        · rw [← g2 h7, ← g3]
          exact ⟨⟨k + 1, rfl, by omega, by omega, rfl, rfl⟩, by dsimp only; omega⟩
      · have : k = ts'.length := by have := of_decide_eq_false h6; omega
        subst this
        rw [List.take_length, e3, w64_succ n (by omega)]
        refine ⟨by rw [List.length_append, List.length_map, List.length_take]; omega, ⟨n + 1, rfl, by omega, ?_⟩, by dsimp only; omega⟩
        rw [take_one ht, List.map_append, List.append_assoc]
        congr 2
        show _ = [trow t]
        unfold trow
        rw [w64_eq (-1 - t.id) (by omega), f1, f3, f4, hlg]
        simp; omega
    · have hlg : lg = false := h5
      refine ⟨fun x y3 y4 => ∃ k : Nat, x = k ∧ 1 ≤ k ∧ k ≤ ts'.length ∧ y3 = (tOf m lg t.id (ts'.take k)).low ∧ y4 = (tOf m lg t.id (ts'.take k)).high, fun x _ _ => ts'.length - x.toNat, hini, ?_⟩
      rintro _ _ _ ⟨k, rfl, hk1, hk, rfl, rfl⟩ ta hta _
      have hta : ts' = ta := by rw [e1] at hta; exact hta
      subst hta
      refine ⟨fun h6 => ?_, fun h6 => ?_⟩
      · have hkl : k < ts'.length := by have := of_decide_eq_true h6; omega
        intro tb htb _
        have htb : ts' = tb := by rw [e1] at htb; exact htb
        subst htb
        refine ⟨by omega, fun x hx tc htc _ => ?_⟩
        have htc : ts' = tc := by rw [e1] at htc; exact htc
        subst htc
        rw [w64_eq ((k : Int) - 1) (by omega), w64_succ k (by omega)]
        refine ⟨by omega, fun y hy => ?_⟩
        rw [Int.toNat_natCast] at hx
        rw [show ((k : Int) - 1).toNat = k - 1 by omega] at hy
        obtain ⟨g1, g2, g3⟩ := tgap (b := m) (lg := lg) (id := t.id) e4 hk1 hx hy
        refine ⟨fun h7 => ?_, fun h7 => ?_⟩
        · rw [← g1 h7, ← g3]
          exact ⟨⟨k + 1, rfl, by omega, by omega, rfl, rfl⟩, by dsimp only; omega⟩
        · rw [← g2 h7, ← g3]
          exact ⟨⟨k + 1, rfl, by omega, by omega, rfl, rfl⟩, by dsimp only; omega⟩
      · have : k = ts'.length := by have := of_decide_eq_false h6; omega
        subst this
        rw [List.take_length, e3, w64_succ n (by omega)]
        refine ⟨by rw [List.length_append, List.length_map, List.length_take]; omega, ⟨n + 1, rfl, by omega, ?_⟩, by dsimp only; omega⟩
        rw [take_one ht, List.map_append, List.append_assoc]
        congr 2
        show _ = [trow t]
        unfold trow
        rw [f1, f3, f4, hlg]
        simp
theorem LTally_ok2 (u : List Line) (_ : (∀ y ∈ u, okLine y) ∧ u.length * 64 ≤ lim) : LTally_vc u (fun r => r = true) := LTally_ok u

end Go.Proofs.YtdenmllkjdijlaaGreatDoor
