/- Texts put together (pure ones, or walks made by program). -/
import Derived.Test.YtocpdhcjkfmmnaaDoorKr0
set_option linter.unusedVariables false
set_option linter.unusedSimpArgs false
namespace Go.Proofs.YtocpdhcjkfmmnaaDoor
open Go.Sy Go.RowKit
structure Frame where
  ID : Int
  Long : Bool
  Fast : Bool
  Remote : Bool
  Size : Int
  Data : List Int
  deriving DecidableEq, Inhabited
def Frame.rep (Z : Fz) (cs : List Value) (x : Frame) : Prop := ∃ (ao0 : Option Addr) (cap0 : Nat), cs = [.int .i64 x.ID, .bool x.Long, .bool x.Fast, .bool x.Remote, .int .i64 x.Size, .slice ao0 x.Data.length cap0] ∧ SlR (tyInt .u8) Z ao0 cap0 x.Data
def tyFrame : Ty Frame :=
  ⟨6, Frame.rep, by rintro _ _ _ ⟨_, _, rfl, _⟩; rfl, by rintro _ _ _ _ hZ ⟨_, _, rfl, h0⟩; exact ⟨_, _, rfl, h0.mono hZ⟩, by rintro _ _ _ ⟨_, _, rfl, _⟩; simp [Value.oneCell']⟩
def okFrame (x : Frame) : Prop := (IntKind.i64.min ≤ x.ID ∧ x.ID ≤ IntKind.i64.max) ∧ (True) ∧ (True) ∧ (True) ∧ (IntKind.i64.min ≤ x.Size ∧ x.Size ≤ IntKind.i64.max) ∧ ((∀ y0 ∈ x.Data, IntKind.u8.min ≤ y0 ∧ y0 ≤ IntKind.u8.max) ∧ x.Data.length * 1 ≤ lim)

def bwrite_vc (u0 : Int) (u1 : Int) (K : (List UInt8) → Prop) : Prop :=
  ((0 ≤ u1 ∧ u1 ≤ u1 ∧ u1 * 1 ≤ 140737488355328) ∧
    (∃ inv23 : Int → Int → (List Int) → Prop, ∃ mu23 : Int → Int → (List Int) → Nat, inv23 u0 0 (List.replicate u1.toNat (0 : Int)) ∧
    (∀ (x0 : Int) (x10 : Int) (zg90 : List Int), inv23 x0 x10 zg90 →
    (((decide (x10 < u1)) = true →
      ((0 ≤ w64 ((w64 (u1 - 1)) - x10) ∧ w64 ((w64 (u1 - 1)) - x10) < (zg90.length : Int)) ∧
      (inv23 (bShr .u64 x0 1) (w64 (x10 + 1)) (zg90.set (w64 ((w64 (u1 - 1)) - x10)).toNat (w8 (48 + (w8 (bAnd .u64 x0 1))))) ∧ mu23 (bShr .u64 x0 1) (w64 (x10 + 1)) (zg90.set (w64 ((w64 (u1 - 1)) - x10)).toNat (w8 (48 + (w8 (bAnd .u64 x0 1))))) < mu23 x0 x10 zg90))) ∧
    ((decide (x10 < u1)) = false →
      (K (bstr zg90)))))))

def fsizes_vc  (K : (List Int) → Prop) : Prop :=
  (K ([0, 1, 2, 3, 4, 5, 6, 7, 8, 12, 16, 20, 24, 32, 48, 64] : List Int))
def fsizes  : (List Int) :=
  ([0, 1, 2, 3, 4, 5, 6, 7, 8, 12, 16, 20, 24, 32, 48, 64] : List Int)
theorem fsizes_ok  : fsizes_vc  (fun r => r = fsizes ) := (by rfl)

def fbit_vc (u0 : Bool) (K : (List UInt8) → Prop) : Prop :=
  ((u0 = true →
      (K ([49] : List UInt8))) ∧
    (u0 = false →
      (K ([48] : List UInt8))))
def fbit (u0 : Bool) : (List UInt8) :=
  bif u0 then ([49] : List UInt8)
    else ([48] : List UInt8)
theorem fbit_ok (u0 : Bool) : fbit_vc u0 (fun r => r = fbit u0) := ⟨fun h0 => (by simp only [fbit, h0, cond_true, cond_false]), fun h0 => (by simp only [fbit, h0, cond_true, cond_false])⟩

def sindex_vc (u0 : List Int) (u1 : Int) (K : Int → Prop) : Prop :=
  (u0.length ≤ 140737488355328 →
    (∃ inv16 : Int → Prop, ∃ mu16 : Int → Nat, inv16 0 ∧
    (∀ (x8 : Int), inv16 x8 →
    (((decide (x8 < (u0.length : Int))) = true →
      ((0 ≤ x8 ∧ x8 < (u0.length : Int)) ∧
      (∀ q51, u0[x8.toNat]? = some q51 →
      (((u1 == q51) = true →
        (K x8)) ∧
      ((u1 == q51) = false →
        (inv16 (w64 (x8 + 1)) ∧ mu16 (w64 (x8 + 1)) < mu16 x8)))))) ∧
    ((decide (x8 < (u0.length : Int))) = false →
      (K (-1)))))))
theorem sindex_mono {u0 : List Int} {u1 : Int} {K K1 : Int → Prop} (hK : ∀ r, K r → K1 r) (h : sindex_vc u0 u1 K) : sindex_vc u0 u1 K1 :=
  fun z0 => (Exists.elim (h z0) fun i1 e1 => Exists.elim e1 fun m1 g1 => ⟨i1, m1, g1.1, fun x8 z1 => ⟨fun c2 => ⟨((g1.2 x8 z1).1 c2).1, fun y4 z4 => ⟨fun c5 => hK _ ((((g1.2 x8 z1).1 c2).2 y4 z4).1 c5), fun c5 => ((((g1.2 x8 z1).1 c2).2 y4 z4).2 c5)⟩⟩, fun c2 => hK _ ((g1.2 x8 z1).2 c2)⟩⟩)

def scontains_vc (u0 : List Int) (u1 : Int) (K : Bool → Prop) : Prop :=
  (u0.length ≤ 140737488355328 →
    (sindex_vc u0 u1 fun r13 =>
    (K (decide (r13 ≥ 0)))))

/-! Pure proofs: no program in sight. -/
theorem wu64_eq (x : Int) (h : 0 ≤ x ∧ x ≤ 18446744073709551615) : wu64 x = x := IntWalk.u64_in x h
theorem and1 (n : Nat) (h : n < 18446744073709551616) : bAnd .u64 (n : Int) 1 = ((n % 2 : Nat) : Int) := by
  have e : (BitVec.ofInt IntKind.u64.bits (n : Int) &&& BitVec.ofInt IntKind.u64.bits (1 : Int)).toNat = n % 2 := by
    rw [BitVec.toNat_and]
    show (BitVec.ofInt 64 (n : Int)).toNat &&& (BitVec.ofInt 64 ((1 : Nat) : Int)).toNat = _
    rw [ofInt_toNat n h, ofInt_toNat 1 (by omega), Nat.and_one_is_mod]
  unfold bAnd
  rw [e]
  exact wu64_eq _ (by omega)
theorem shr1 (n : Nat) : bShr .u64 (n : Int) 1 = ((n / 2 : Nat) : Int) := by
  unfold bShr
  show (n : Int).fdiv (2 ^ 1) = _
  rw [Int.fdiv_eq_ediv_of_nonneg _ (by decide)]
  norm_cast
theorem shrN (n s : Nat) (hs : s ≤ 63) : bShr .i64 (n : Int) (s : Int) = ((n / 2 ^ s : Nat) : Int) := by
  unfold bShr
  have : min (s : Int).toNat IntKind.i64.bits = s := by simp [IntKind.bits]; omega
  rw [this, Int.fdiv_eq_ediv_of_nonneg _ (Int.le_of_lt (Int.pow_pos (by decide)))]
  norm_cast
/-- A number in so many bits. -/
def wr : Nat → Nat → List UInt8
  | 0, _ => []
  | s + 1, n => UInt8.ofNat (48 + n / 2 ^ s % 2) :: wr s n
theorem wr_length (s n : Nat) : (wr s n).length = s := by induction s with
  | zero => rfl
  | succ s ih => simp [wr, ih]
theorem bstr_append (a b : List Int) : bstr (a ++ b) = bstr a ++ bstr b := by simp [bstr]
theorem bstr_one (c : UInt8) : bstr [(c.toNat : Int)] = [c] := by simp [bstr]
theorem bstr_ints (l : List UInt8) : bstr (l.map fun c => (c.toNat : Int)) = l := by
  induction l with
  | nil => rfl
  | cons c r ih => rw [List.map_cons, show bstr ((c.toNat : Int) :: r.map fun c => (c.toNat : Int)) = c :: bstr (r.map fun c => (c.toNat : Int)) by simp [bstr], ih]
def bwriteS (n s : Int) : List UInt8 := wr s.toNat n.toNat
theorem bwrite_ok (n s : Int) (h : 0 ≤ s ∧ s ≤ 64 ∧ 0 ≤ n ∧ n < 2 ^ 62) : bwrite_vc n s (fun r => r = bwriteS n s) := by
  obtain ⟨m, rfl⟩ : ∃ m : Nat, s = m := ⟨s.toNat, by omega⟩
  obtain ⟨v, rfl⟩ : ∃ v : Nat, n = v := ⟨n.toNat, by omega⟩
  have p62 : (2 : Int) ^ 62 = 4611686018427387904 := rfl
  refine ⟨by omega, fun x i z => ∃ k : Nat, i = k ∧ k ≤ m ∧ x = ((v / 2 ^ k : Nat) : Int) ∧ z.length = m ∧ z.drop (m - k) = (wr k v).map (fun c => (c.toNat : Int)), fun _ i _ => m - i.toNat,
    ⟨0, rfl, by omega, by simp, by simp, by simp [wr]⟩, ?_⟩
  rintro _ _ z ⟨k, rfl, hk, rfl, hz, hd⟩
  refine ⟨fun h1 => ?_, fun h1 => ?_⟩
  · have hkm : k < m := by simp at h1; omega
    have e1 : w64 (w64 ((m : Int) - 1) - k) = ((m - 1 - k : Nat) : Int) := by
      rw [w64_eq ((m : Int) - 1) (by omega), w64_eq _ (by omega)]
      omega
    have hv : v / 2 ^ k < 18446744073709551616 := Nat.lt_of_le_of_lt (Nat.div_le_self _ _) (by omega)
    rw [e1, and1 _ hv, shr1, w64_succ k (by omega)]
    refine ⟨by omega, ⟨k + 1, rfl, by omega, ?_, by simpa using hz, ?_⟩, by dsimp only; omega⟩
    · rw [Nat.div_div_eq_div_mul, Nat.pow_succ]
    · have e2 : m - (k + 1) = m - 1 - k := by omega
      rw [e2, Int.toNat_natCast, wr, List.map_cons, ← hd]
      have hlt : m - 1 - k < z.length := by omega
      have e3 : m - k = m - 1 - k + 1 := by omega
      rw [e3, List.drop_eq_getElem_cons (by simpa using hlt), List.getElem_set_self]
      congr 1
      · rcases Nat.mod_two_eq_zero_or_one (v / 2 ^ k) with hh | hh <;> rw [hh] <;> rfl
      · rw [List.drop_set_of_lt (by omega)]
  · have : k = m := by simp at h1; omega
    subst this
    have e2 : k - k = 0 := by omega
    rw [e2, List.drop_zero] at hd
    show bstr z = wr (k : Int).toNat (v : Int).toNat
    rw [hd, Int.toNat_natCast, Int.toNat_natCast, bstr_ints]
def sidx {α : Type} (p : α → Bool) (l : List α) : Int := match l.findIdx? p with | some i => (i : Int) | none => -1
theorem sidx_at {α : Type} (p : α → Bool) (l : List α) (k : Nat) (q : α) (hq : l[k]? = some q) (hp : p q = true) (hb : ∀ j x, j < k → l[j]? = some x → p x = false) : sidx p l = k := by
  unfold sidx
  have : l.findIdx? p = some k := by
    rw [List.findIdx?_eq_some_iff_getElem]
    obtain ⟨h1, h2⟩ := List.getElem?_eq_some_iff.1 hq
    exact ⟨h1, by rw [h2]; exact hp, fun j hj => by rw [hb j _ hj (List.getElem?_eq_getElem (by omega))]; simp⟩
  rw [this]
theorem sidx_none {α : Type} (p : α → Bool) (l : List α) (hb : ∀ (j : Nat) x, l[j]? = some x → p x = false) : sidx p l = -1 := by
  unfold sidx
  have : l.findIdx? p = none := by
    rw [List.findIdx?_eq_none_iff]
    intro x hx
    obtain ⟨j, hj⟩ := List.mem_iff_getElem?.1 hx
    exact hb j x hj
  rw [this]
theorem sidx_ge {α : Type} (p : α → Bool) (l : List α) : decide (sidx p l ≥ 0) = l.any p := by
  unfold sidx
  cases h : l.findIdx? p with
  | none =>
    have : l.any p = false := by
      rw [List.findIdx?_eq_none_iff] at h
      rw [List.any_eq_false]
      intro x hx
      simp [h x hx]
    rw [this]
    rfl
  | some i =>
    have : l.any p = true := by
      rw [List.findIdx?_eq_some_iff_getElem] at h
      obtain ⟨h1, h2, _⟩ := h
      exact List.any_eq_true.2 ⟨_, List.getElem_mem h1, h2⟩
    rw [this]
    simp
theorem sindex_ok (l : List Int) (x : Int) : sindex_vc l x (fun r => r = sidx (fun q => x == q) l) := by
  intro hl
  refine rg0 hl (fun k => ∀ j y, j < k → l[j]? = some y → (x == y) = false) (fun j y h => absurd h (Nat.not_lt_zero _)) ?_ ?_
  · intro k q hk hq hj inv mu hn
    refine ⟨fun h => (sidx_at _ l k q hq h hj).symm, fun h => hn fun j y hj1 hy => ?_⟩
    rcases Nat.lt_or_ge j k with h1 | h1
    · exact hj j y h1 hy
    · have : j = k := by omega
      subst this
      rw [hq] at hy
      cases hy
      exact h
  · intro hj
    refine (sidx_none _ l fun j y hy => hj j y (List.getElem?_eq_some_iff.1 hy).1 hy).symm
def scontainsS (l : List Int) (x : Int) : Bool := l.any fun q => x == q
theorem scontains_ok (l : List Int) (x : Int) : scontains_vc l x (fun r => r = scontainsS l x) := fun _ => sindex_mono (fun r h => by subst h; exact sidx_ge _ l) (sindex_ok l x)
def deBruijn64 : List Int := [0, 1, 56, 2, 57, 49, 28, 3, 61, 58, 42, 50, 38, 29, 17, 4, 62, 47, 59, 36, 45, 43, 51, 22, 53, 39, 33, 30, 24, 18, 12, 5, 63, 55, 48, 27, 60, 41, 37, 16, 46, 35, 44, 21, 52, 32, 23, 11, 54, 26, 40, 15, 34, 20, 31, 10, 25, 14, 19, 9, 13, 8, 7, 6]

end Go.Proofs.YtocpdhcjkfmmnaaDoor
set_option linter.unusedVariables false
set_option linter.unusedSimpArgs false
namespace Go.Proofs.YtocpdhcjkfmmnaaDoor
open Go.Sy Go.RowKit
def fname_vc (u0 : Frame) (K : (List UInt8) → Prop) : Prop :=
  (u0.Data.length ≤ 140737488355328 →
    (((!u0.Long) = true →
      ((0 ≤ (11 : Int) ∧ (11 : Int) ≤ 64 ∧ 0 ≤ (wu64 u0.ID) ∧ (wu64 u0.ID) < 2 ^ 62) ∧
      ((((bwriteS (wu64 u0.ID) 11).length : Int) + ((fbit u0.Remote).length : Int) ≤ 9223372036854775807) ∧
      (((((bwriteS (wu64 u0.ID) 11) ++ (fbit u0.Remote)).length : Int) + (([48] : List UInt8).length : Int) ≤ 9223372036854775807) ∧
      (K (((bwriteS (wu64 u0.ID) 11) ++ (fbit u0.Remote)) ++ ([48] : List UInt8))))))) ∧
    ((!u0.Long) = false →
      ((0 ≤ (11 : Int) ∧ (11 : Int) ≤ 64 ∧ 0 ≤ (wu64 (bShr .i64 u0.ID 18)) ∧ (wu64 (bShr .i64 u0.ID 18)) < 2 ^ 62) ∧
      ((((bwriteS (wu64 (bShr .i64 u0.ID 18)) 11).length : Int) + (([49, 49] : List UInt8).length : Int) ≤ 9223372036854775807) ∧
      ((0 ≤ (18 : Int) ∧ (18 : Int) ≤ 64 ∧ 0 ≤ (wu64 u0.ID) ∧ (wu64 u0.ID) < 2 ^ 62) ∧
      (((((bwriteS (wu64 (bShr .i64 u0.ID 18)) 11) ++ ([49, 49] : List UInt8)).length : Int) + ((bwriteS (wu64 u0.ID) 18).length : Int) ≤ 9223372036854775807) ∧
      ((((((bwriteS (wu64 (bShr .i64 u0.ID 18)) 11) ++ ([49, 49] : List UInt8)) ++ (bwriteS (wu64 u0.ID) 18)).length : Int) + ((fbit u0.Remote).length : Int) ≤ 9223372036854775807) ∧
      (K ((((bwriteS (wu64 (bShr .i64 u0.ID 18)) 11) ++ ([49, 49] : List UInt8)) ++ (bwriteS (wu64 u0.ID) 18)) ++ (fbit u0.Remote)))))))))))

def fcheckfr_vc (u0 : Frame) (K : Int → Prop) : Prop :=
  (u0.Data.length ≤ 140737488355328 →
    (((((decide (u0.ID < 0)) || ((!u0.Long) && (decide (u0.ID > 2047)))) || (decide (u0.ID > 536870911))) = true →
      (K 3)) ∧
    ((((decide (u0.ID < 0)) || ((!u0.Long) && (decide (u0.ID > 2047)))) || (decide (u0.ID > 536870911))) = false →
      (((u0.Remote && (u0.Fast || (decide ((u0.Data.length : Int) > 0)))) = true →
        (K 4)) ∧
      ((u0.Remote && (u0.Fast || (decide ((u0.Data.length : Int) > 0)))) = false →
        (((((decide (u0.Size < 0)) || (decide (u0.Size > 8))) || ((!u0.Remote) && (u0.Size != 0))) = true →
          (K 3)) ∧
        ((((decide (u0.Size < 0)) || (decide (u0.Size > 8))) || ((!u0.Remote) && (u0.Size != 0))) = false →
          ((((decide ((u0.Data.length : Int) > 64)) || ((!u0.Fast) && (decide ((u0.Data.length : Int) > 8)))) = true →
            (K 2)) ∧
          (((decide ((u0.Data.length : Int) > 64)) || ((!u0.Fast) && (decide ((u0.Data.length : Int) > 8)))) = false →
            (((!(scontainsS fsizes (u0.Data.length : Int))) = true →
              (K 4)) ∧
            ((!(scontainsS fsizes (u0.Data.length : Int))) = false →
              (K 0))))))))))))
def fcheckfr (u0 : Frame) : Int :=
  bif ((decide (u0.ID < 0)) || ((!u0.Long) && (decide (u0.ID > 2047)))) || (decide (u0.ID > 536870911)) then 3
    else bif u0.Remote && (u0.Fast || (decide ((u0.Data.length : Int) > 0))) then 4
    else bif ((decide (u0.Size < 0)) || (decide (u0.Size > 8))) || ((!u0.Remote) && (u0.Size != 0)) then 3
    else bif (decide ((u0.Data.length : Int) > 64)) || ((!u0.Fast) && (decide ((u0.Data.length : Int) > 8))) then 2
    else bif !(scontainsS fsizes (u0.Data.length : Int)) then 4
    else 0
theorem fcheckfr_ok (u0 : Frame) : fcheckfr_vc u0 (fun r => r = fcheckfr u0) := (fun _ => ⟨fun h0 => (by simp only [fcheckfr, h0, cond_true, cond_false]), fun h0 => ⟨fun h1 => (by simp only [fcheckfr, h0, h1, cond_true, cond_false]), fun h1 => ⟨fun h2 => (by simp only [fcheckfr, h0, h1, h2, cond_true, cond_false]), fun h2 => ⟨fun h3 => (by simp only [fcheckfr, h0, h1, h2, h3, cond_true, cond_false]), fun h3 => ⟨fun h4 => (by simp only [fcheckfr, h0, h1, h2, h3, h4, cond_true, cond_false]), fun h4 => (by simp only [fcheckfr, h0, h1, h2, h3, h4, cond_true, cond_false])⟩⟩⟩⟩⟩)

def bclone_vc (u0 : List Int) (K : (List Int) → Prop) : Prop :=
  (u0.length ≤ 140737488355328 →
    (∀ nb11, (u0 ≠ [] → nb11 = false) →
    ((nb11 = true →
      (K ([] : List Int))) ∧
    (nb11 = false →
      (((([] : List Int).length + u0.length) * 1 ≤ 140737488355328) ∧
      (K (([] : List Int) ++ u0)))))))

/-! Pure proofs: no program in sight. -/
def bcloneS (l : List Int) : List Int := l
theorem bclone_ok (l : List Int) (h : l.length ≤ 140737488355328) : bclone_vc l (fun r => r = bcloneS l) := by
  intro _ nb hnb
  refine ⟨fun h1 => ?_, fun _ => ⟨by simp; omega, by simp [bcloneS]⟩⟩
  by_cases e : l = []
  · rw [e]; rfl
  · rw [hnb e] at h1; cases h1
def fnameS (f : Frame) : List UInt8 := if f.Long = false then (wr 11 f.ID.toNat ++ fbit f.Remote) ++ [48] else ((wr 11 (f.ID.toNat / 2 ^ 18) ++ [49, 49]) ++ wr 18 f.ID.toNat) ++ fbit f.Remote
theorem fbit_len (b : Bool) : (fbit b).length = 1 := by cases b <;> rfl
theorem fname_ok (f : Frame) (h : 0 ≤ f.ID ∧ f.ID ≤ 536870911) : fname_vc f (fun r => r = fnameS f) := by
  intro hl
  have p62 : (2 : Int) ^ 62 = 4611686018427387904 := rfl
  have e1 : wu64 f.ID = f.ID := wu64_eq _ (by omega)
  have e2 : bShr .i64 f.ID 18 = ((f.ID.toNat / 2 ^ 18 : Nat) : Int) := by
    have := shrN f.ID.toNat 18 (by omega)
    rw [show ((f.ID.toNat : Nat) : Int) = f.ID by omega] at this
    exact this
  have hd : f.ID.toNat / 2 ^ 18 ≤ f.ID.toNat := Nat.div_le_self _ _
  have e3 : wu64 (bShr .i64 f.ID 18) = ((f.ID.toNat / 2 ^ 18 : Nat) : Int) := by rw [e2]; exact wu64_eq _ (by omega)
  have b1 : ∀ n s : Int, (bwriteS n s).length = s.toNat := fun n s => wr_length _ _
  have b2 := fbit_len f.Remote
  rw [e1, e3]
  refine ⟨fun h1 => ⟨by omega, by rw [b1, b2]; decide, by rw [List.length_append, b1, b2]; decide, ?_⟩, fun h1 => ⟨by omega, by rw [b1]; decide, by omega, by rw [List.length_append, b1, b1]; decide, by rw [List.length_append, List.length_append, b1, b1, b2]; decide, ?_⟩⟩
  · unfold fnameS
    rw [if_pos (by simpa using h1)]
    rfl
  · unfold fnameS
    rw [if_neg (by simpa using h1)]
    unfold bwriteS
    rw [Int.toNat_natCast]
    rfl
end Go.Proofs.YtocpdhcjkfmmnaaDoor
set_option linter.unusedVariables false
set_option linter.unusedSimpArgs false
namespace Go.Proofs.YtocpdhcjkfmmnaaDoor
open Go.Sy Go.RowKit
def fName_vc (u0 : Frame) (K : ((List UInt8) × Int) → Prop) : Prop :=
  (u0.Data.length ≤ 140737488355328 →
    ((((fcheckfr u0) != 0) = true →
      (K ([], (fcheckfr u0)))) ∧
    (((fcheckfr u0) != 0) = false →
      ((0 ≤ u0.ID ∧ u0.ID ≤ 536870911) ∧
      (K ((fnameS u0), 0))))))

def fcopy_vc (u0 : Frame) (K : Frame → Prop) : Prop :=
  (u0.Data.length ≤ 140737488355328 →
    ((u0.Data.length ≤ 140737488355328) ∧
    ((bcloneS u0.Data).length ≤ 140737488355328 →
    (K (⟨u0.ID, u0.Long, u0.Fast, u0.Remote, u0.Size, (bcloneS u0.Data)⟩ : Frame)))))

/-! Pure proofs: no program in sight. -/
theorem fcheckfr_zero {f : Frame} (h : fcheckfr f = 0) : 0 ≤ f.ID ∧ f.ID ≤ 536870911 ∧ (f.Long = false → f.ID ≤ 2047) ∧ (f.Remote = true → f.Fast = false ∧ f.Data.length = 0) ∧ 0 ≤ f.Size ∧ f.Size ≤ 8 ∧ (f.Remote = false → f.Size = 0) ∧ f.Data.length ≤ 64 ∧ (f.Fast = false → f.Data.length ≤ 8) ∧ scontainsS fsizes (f.Data.length : Int) = true := by
  unfold fcheckfr at h
  cases h1 : ((decide (f.ID < 0)) || ((!f.Long) && (decide (f.ID > 2047)))) || (decide (f.ID > 536870911)) with
  | true => rw [h1] at h; cases h
  | false =>
    rw [h1, cond_false] at h
    cases h2 : f.Remote && (f.Fast || (decide ((f.Data.length : Int) > 0))) with
    | true => rw [h2] at h; cases h
    | false =>
      rw [h2, cond_false] at h
      cases h3 : ((decide (f.Size < 0)) || (decide (f.Size > 8))) || ((!f.Remote) && (f.Size != 0)) with
      | true => rw [h3] at h; cases h
      | false =>
        rw [h3, cond_false] at h
        cases h4 : (decide ((f.Data.length : Int) > 64)) || ((!f.Fast) && (decide ((f.Data.length : Int) > 8))) with
        | true => rw [h4] at h; cases h
        | false =>
          rw [h4, cond_false] at h
          cases h5 : !(scontainsS fsizes (f.Data.length : Int)) with
          | true => rw [h5] at h; cases h
          | false =>
            simp at h1 h2 h3 h4 h5
            refine ⟨by omega, by omega, fun e => by have := h1.1.2 e; omega, fun e => ?_, by omega, by omega, fun e => h3.2 e, by omega, fun e => by have := h4.2 e; omega, h5⟩
            have := h2 e
            exact ⟨this.1, by simp [this.2]⟩
/-- What must hold of a frame whose head is asked for. -/
def fNameS (f : Frame) : List UInt8 × Int := if fcheckfr f ≠ 0 then ([], fcheckfr f) else (fnameS f, 0)
theorem fName_ok (f : Frame) : fName_vc f (fun r => r = fNameS f) := by
  intro _
  refine ⟨fun h => ?_, fun h => ?_⟩
  · have h : fcheckfr f ≠ 0 := by simpa using h
    unfold fNameS
    rw [if_pos h]
  · have h0 : fcheckfr f = 0 := by simpa using h
    have hz := fcheckfr_zero h0
    unfold fNameS
    rw [if_neg (fun hc => hc h0)]
    exact ⟨⟨hz.1, hz.2.1⟩, rfl⟩
theorem fNameS_2 (f : Frame) : (fNameS f).2 = fcheckfr f := by
  unfold fNameS
  split
  · rfl
  · rename_i h; exact (by simpa using h : fcheckfr f = 0).symm
def fcopyS (f : Frame) : Frame := f
theorem fcopy_ok (f : Frame) (h : f.Data.length ≤ 140737488355328) : fcopy_vc f (fun r => r = fcopyS f) := fun _ => ⟨h, fun _ => rfl⟩

end Go.Proofs.YtocpdhcjkfmmnaaDoor
set_option linter.unusedVariables false
set_option linter.unusedSimpArgs false
namespace Go.Proofs.YtocpdhcjkfmmnaaDoor
open Go.Sy Go.RowKit
def plc1_vc (u0 : Frame) (u1 : List UInt8) (K : Int → Prop) : Prop :=
  (u0.Data.length ≤ 140737488355328 →
    (((strc .leq (fNameS u0).1 u1) = true →
      (K (-1))) ∧
    ((strc .leq (fNameS u0).1 u1) = false →
      (K 1))))
def plc1 (u0 : Frame) (u1 : List UInt8) : Int :=
  bif strc .leq (fNameS u0).1 u1 then -1
    else 1
theorem plc1_ok (u0 : Frame) (u1 : List UInt8) : plc1_vc u0 u1 (fun r => r = plc1 u0 u1) := (fun _ => ⟨fun h0 => (by simp only [plc1, h0, cond_true, cond_false]), fun h0 => (by simp only [plc1, h0, cond_true, cond_false])⟩)

def qbsf_vc (u0 : List Frame) (u1 : List UInt8) (u2 : Frame → (List UInt8) → Int) (K : (Int × Bool) → Prop) : Prop :=
  (u0.length ≤ 140737488355328 →
    (∃ inv29 : Int → Int → Prop, ∃ mu29 : Int → Int → Nat, inv29 0 (u0.length : Int) ∧
    (∀ (x9 : Int) (x10 : Int), inv29 x9 x10 →
    (((decide (x9 < x10)) = true →
      ((0 ≤ w64 (bShr .u64 (wu64 (w64 (x9 + x10))) 1) ∧ w64 (bShr .u64 (wu64 (w64 (x9 + x10))) 1) < (u0.length : Int)) ∧
      (∀ q78, u0[(w64 (bShr .u64 (wu64 (w64 (x9 + x10))) 1)).toNat]? = some q78 →
      (q78.Data.length ≤ 140737488355328 →
      (((decide ((u2 q78 u1) < 0)) = true →
        (inv29 (w64 ((w64 (bShr .u64 (wu64 (w64 (x9 + x10))) 1)) + 1)) x10 ∧ mu29 (w64 ((w64 (bShr .u64 (wu64 (w64 (x9 + x10))) 1)) + 1)) x10 < mu29 x9 x10)) ∧
      ((decide ((u2 q78 u1) < 0)) = false →
        (inv29 x9 (w64 (bShr .u64 (wu64 (w64 (x9 + x10))) 1)) ∧ mu29 x9 (w64 (bShr .u64 (wu64 (w64 (x9 + x10))) 1)) < mu29 x9 x10))))))) ∧
    ((decide (x9 < x10)) = false →
      (((decide (x9 < (u0.length : Int))) = true →
        ((0 ≤ x9 ∧ x9 < (u0.length : Int)) ∧
        (∀ q141, u0[x9.toNat]? = some q141 →
        (q141.Data.length ≤ 140737488355328 →
        (K (x9, (u2 q141 u1) == 0)))))) ∧
      ((decide (x9 < (u0.length : Int))) = false →
        (K (x9, false)))))))))

def qownZ_vc (u0 : List Frame) (K : (List Frame) → Prop) : Prop :=
  (u0.length ≤ 140737488355328 →
    (∃ inv19 : (List Frame) → Int → Prop, ∃ mu19 : (List Frame) → Int → Nat, inv19 ([] : List Frame) 0 ∧
    (∀ (x3 : List Frame) (x8 : Int), inv19 x3 x8 →
    (((decide (x8 < (u0.length : Int))) = true →
      ((0 ≤ x8 ∧ x8 < (u0.length : Int)) ∧
      (∀ q45, u0[x8.toNat]? = some q45 →
      (q45.Data.length ≤ 140737488355328 →
      ((q45.Data.length ≤ 140737488355328) ∧
      ((fcopyS q45).Data.length ≤ 140737488355328 →
      (((x3.length + 1) * 48 ≤ 140737488355328) ∧
      (inv19 (x3 ++ [(fcopyS q45)]) (w64 (x8 + 1)) ∧ mu19 (x3 ++ [(fcopyS q45)]) (w64 (x8 + 1)) < mu19 x3 x8)))))))) ∧
    ((decide (x8 < (u0.length : Int))) = false →
      (K x3))))))

def qcheck_vc (u0 : List Frame) (K : Int → Prop) : Prop :=
  (u0.length ≤ 140737488355328 →
    (((decide ((u0.length : Int) > 16)) = true →
      (K 2)) ∧
    ((decide ((u0.length : Int) > 16)) = false →
      (∃ inv32 : (List UInt8) → Int → Prop, ∃ mu32 : (List UInt8) → Int → Nat, inv32 [] 0 ∧
      (∀ (x3 : List UInt8) (x13 : Int), inv32 x3 x13 →
      (((decide (x13 < (u0.length : Int))) = true →
        ((0 ≤ x13 ∧ x13 < (u0.length : Int)) ∧
        (∀ q56, u0[x13.toNat]? = some q56 →
        (q56.Data.length ≤ 140737488355328 →
        ((((fNameS q56).2 != 0) = true →
          (K (fNameS q56).2)) ∧
        (((fNameS q56).2 != 0) = false →
          (((Op.bytesLess (fNameS q56).1 x3) = true →
            (K 4)) ∧
          ((Op.bytesLess (fNameS q56).1 x3) = false →
            (inv32 (fNameS q56).1 (w64 (x13 + 1)) ∧ mu32 (fNameS q56).1 (w64 (x13 + 1)) < mu32 x3 x13))))))))) ∧
      ((decide (x13 < (u0.length : Int))) = false →
        (K 0))))))))

/-! Pure proofs: no program in sight. -/
def lexle : List UInt8 → List UInt8 → Bool
  | [], _ => true
  | _ :: _, [] => false
  | x :: a, y :: b => if x = y then lexle a b else decide (x < y)
theorem lexle_total : ∀ a b : List UInt8, lexle a b = true ∨ lexle b a = true := by
  intro a
  induction a with
  | nil => intro b; exact .inl rfl
  | cons x a ih =>
    intro b
    cases b with
    | nil => exact .inr rfl
    | cons y b =>
      rw [lexle, lexle]
      by_cases e : x = y
      · rw [if_pos e, if_pos e.symm]; exact ih b
      · rw [if_neg e, if_neg (fun h => e h.symm), decide_eq_true_eq, decide_eq_true_eq]
        have : x.toNat ≠ y.toNat := fun h => e (UInt8.toNat_inj.1 h)
        rw [UInt8.lt_iff_toNat_lt, UInt8.lt_iff_toNat_lt]
        omega
theorem lexle_trans : ∀ a b c : List UInt8, lexle a b = true → lexle b c = true → lexle a c = true := by
  intro a
  induction a with
  | nil => intro b c _ _; rfl
  | cons x a ih =>
    intro b c h1 h2
    cases b with
    | nil => cases h1
    | cons y b =>
      cases c with
      | nil => cases h2
      | cons z c =>
        rw [lexle] at h1 h2 ⊢
        by_cases e : x = y
        · subst e
          rw [if_pos rfl] at h1
          by_cases e2 : x = z
          · subst e2
            rw [if_pos rfl] at h2 ⊢
            exact ih b c h1 h2
          · rw [if_neg e2] at h2 ⊢
            exact h2
        · rw [if_neg e, decide_eq_true_eq, UInt8.lt_iff_toNat_lt] at h1
          by_cases e2 : y = z
          · subst e2
            rw [if_neg e, decide_eq_true_eq, UInt8.lt_iff_toNat_lt]
            exact h1
          · rw [if_neg e2, decide_eq_true_eq, UInt8.lt_iff_toNat_lt] at h2
            have e3 : x ≠ z := fun h => by subst h; omega
            rw [if_neg e3, decide_eq_true_eq, UInt8.lt_iff_toNat_lt]
            omega
theorem bless_lexle : ∀ a b : List UInt8, Op.bytesLess a b = !lexle b a := by
  intro a
  induction a with
  | nil => intro b; cases b <;> rfl
  | cons x a ih =>
    intro b
    cases b with
    | nil => rfl
    | cons y b =>
      show (decide (x < y) || (x == y && Op.bytesLess a b)) = !lexle (y :: b) (x :: a)
      rw [lexle, ih b]
      by_cases e : x = y
      · subst e
        rw [if_pos rfl, decide_eq_false (by rw [UInt8.lt_iff_toNat_lt]; omega)]
        simp
      · rw [if_neg (fun h => e h.symm)]
        have h1 : (x == y) = false := by simpa using e
        have : x.toNat ≠ y.toNat := fun h => e (UInt8.toNat_inj.1 h)
        rw [h1, Bool.false_and, Bool.or_false]
        by_cases h2 : x < y
        · have h3 := UInt8.lt_iff_toNat_lt.1 h2
          rw [decide_eq_true h2, decide_eq_false (by rw [UInt8.lt_iff_toNat_lt]; omega)]; rfl
        · have h3 : y < x := by rw [UInt8.lt_iff_toNat_lt] at h2 ⊢; omega
          rw [decide_eq_false h2, decide_eq_true h3]; rfl
theorem lexle_antisymm : ∀ a b : List UInt8, lexle a b = true → lexle b a = true → a = b := by
  intro a
  induction a with
  | nil =>
    intro b _ h
    cases b with
    | nil => rfl
    | cons y b => cases h
  | cons x a ih =>
    intro b h1 h2
    cases b with
    | nil => cases h1
    | cons y b =>
      rw [lexle] at h1 h2
      by_cases e : x = y
      · subst e
        rw [if_pos rfl] at h1 h2
        rw [ih b h1 h2]
      · rw [if_neg e, decide_eq_true_eq, UInt8.lt_iff_toNat_lt] at h1
        rw [if_neg (fun h => e h.symm), decide_eq_true_eq, UInt8.lt_iff_toNat_lt] at h2
        omega
theorem leq_lexle (X Y : List UInt8) : strc .leq X Y = lexle X Y := by
  show (Op.bytesLess X Y || X == Y) = lexle X Y
  rw [bless_lexle]
  cases h : lexle Y X with
  | false =>
    rcases lexle_total X Y with k | k
    · rw [k]; rfl
    · rw [h] at k; cases k
  | true =>
    cases k : lexle X Y with
    | true => have := lexle_antisymm _ _ k h; subst this; simp
    | false =>
      have : X ≠ Y := fun e => by subst e; rw [h] at k; cases k
      simpa using this
/-- A frame's name, none if it is no frame; a queue's order. -/
def nmS (f : Frame) : List UInt8 := (fNameS f).1
def qle (f g : Frame) : Bool := lexle (nmS f) (nmS g)
def Qs (q : List Frame) : Prop := q.Pairwise (fun a b => qle a b = true)
def qins (f : Frame) (q : List Frame) : List Frame := q.takeWhile (fun x => qle x f) ++ f :: q.dropWhile (fun x => qle x f)
theorem qle_trans {a b c : Frame} (h : qle a b = true) (k : qle b c = true) : qle a c = true := lexle_trans _ _ _ h k
theorem qle_total (a b : Frame) : qle a b = true ∨ qle b a = true := lexle_total _ _
theorem nm_ok {f : Frame} (h : fcheckfr f = 0) : nmS f = fnameS f := by unfold nmS fNameS; rw [if_neg (fun k => k h)]
theorem drop_ge {f : Frame} : ∀ {q : List Frame}, Qs q → ∀ x ∈ q.dropWhile (fun x => qle x f), qle f x = true
  | [], _, x, h => by cases h
  | y :: r, hq, x, h => by
    rw [List.dropWhile_cons] at h
    split at h
    · exact drop_ge (List.pairwise_cons.1 hq).2 x h
    · rename_i hy
      have h1 : qle f y = true := (qle_total f y).resolve_right hy
      rcases List.mem_cons.1 h with rfl | h
      · exact h1
      · exact qle_trans h1 ((List.pairwise_cons.1 hq).1 x h)
theorem take_le {f : Frame} {q : List Frame} : ∀ x ∈ q.takeWhile (fun x => qle x f), qle x f = true := fun x hx => by
  induction q with
  | nil => cases hx
  | cons y r ih =>
    rw [List.takeWhile_cons] at hx
    split at hx
    · rename_i hy
      rcases List.mem_cons.1 hx with rfl | hx
      · exact hy
      · exact ih hx
    · cases hx
theorem Qs.ins {q : List Frame} (f : Frame) (h : Qs q) : Qs (qins f q) := by
  unfold qins
  refine List.pairwise_append.2 ⟨h.sublist (List.takeWhile_sublist _), List.pairwise_cons.2 ⟨drop_ge h, h.sublist (List.dropWhile_sublist _)⟩, fun a ha b hb => ?_⟩
  have h1 := take_le a ha
  rcases List.mem_cons.1 hb with rfl | hb
  · exact h1
  · exact qle_trans h1 (drop_ge h b hb)
theorem qins_length (f : Frame) (q : List Frame) : (qins f q).length = q.length + 1 := by
  unfold qins
  have h := congrArg List.length (List.takeWhile_append_dropWhile (p := fun x => qle x f) (l := q))
  rw [List.length_append] at h
  rw [List.length_append, List.length_cons]
  omega
theorem qins_mem {f x : Frame} {q : List Frame} : x ∈ qins f q ↔ x = f ∨ x ∈ q := by
  have h : x ∈ q ↔ x ∈ q.takeWhile (fun x => qle x f) ∨ x ∈ q.dropWhile (fun x => qle x f) := by rw [← List.mem_append, List.takeWhile_append_dropWhile]
  rw [h]
  unfold qins
  rw [List.mem_append, List.mem_cons]
  constructor
  · rintro (h | h | h)
    · exact .inr (.inl h)
    · exact .inl h
    · exact .inr (.inr h)
  · rintro (h | h | h)
    · exact .inr (.inl h)
    · exact .inl h
    · exact .inr (.inr h)
def qgo : List UInt8 → List Frame → Int
  | _, [] => 0
  | last, f :: r => if fcheckfr f ≠ 0 then fcheckfr f else if lexle last (nmS f) = true then qgo (nmS f) r else 4
def qcheckS (q : List Frame) : Int := if 16 < q.length then 2 else qgo [] q
theorem qgo_zero : ∀ (q : List Frame) (last : List UInt8), qgo last q = 0 ↔ (∀ f ∈ q, fcheckfr f = 0 ∧ lexle last (nmS f) = true) ∧ Qs q
  | [], last => by simp [qgo, Qs]
  | f :: r, last => by
    rw [qgo]
    by_cases h1 : fcheckfr f = 0
    · rw [if_neg (fun k => k h1)]
      by_cases h2 : lexle last (nmS f) = true
      · rw [if_pos h2, qgo_zero r]
        constructor
        · rintro ⟨k1, k2⟩
          refine ⟨fun g hg => ?_, List.pairwise_cons.2 ⟨fun g hg => (k1 g hg).2, k2⟩⟩
          rcases List.mem_cons.1 hg with rfl | hg
          · exact ⟨h1, h2⟩
          · exact ⟨(k1 g hg).1, lexle_trans _ _ _ h2 (k1 g hg).2⟩
        · rintro ⟨k1, k2⟩
          have k3 := List.pairwise_cons.1 k2
          exact ⟨fun g hg => ⟨(k1 g (List.mem_cons_of_mem _ hg)).1, k3.1 g hg⟩, k3.2⟩
      · rw [if_neg h2]
        exact ⟨fun h => absurd h (by decide), fun h => absurd (h.1 f List.mem_cons_self).2 h2⟩
    · rw [if_pos h1]
      exact ⟨fun h => absurd h h1, fun h => absurd (h.1 f List.mem_cons_self).1 h1⟩
theorem lexle_nil (a : List UInt8) : lexle [] a = true := by cases a <;> rfl
theorem qcheck_zero {q : List Frame} : qcheckS q = 0 ↔ q.length ≤ 16 ∧ (∀ f ∈ q, fcheckfr f = 0) ∧ Qs q := by
  unfold qcheckS
  by_cases h : 16 < q.length
  · rw [if_pos h]
    exact ⟨fun k => absurd k (by decide), fun k => by omega⟩
  · rw [if_neg h, qgo_zero]
    exact ⟨fun k => ⟨by omega, fun f hf => (k.1 f hf).1, k.2⟩, fun k => ⟨fun f hf => ⟨k.2.1 f hf, lexle_nil _⟩, k.2.2⟩⟩
def insS (u : List Frame) (i : Int) (v : List Frame) : List Frame := u.take i.toNat ++ v ++ u.drop i.toNat
def placeS (q : List Frame) (f : Frame) : Int := ((q.takeWhile (fun x => qle x f)).length : Int)
theorem ins_place (q : List Frame) (f : Frame) : insS q (placeS q f) [f] = qins f q := by
  have e := List.takeWhile_append_dropWhile (p := fun x => qle x f) (l := q)
  unfold insS placeS qins
  rw [Int.toNat_natCast]
  have h1 : q.take (q.takeWhile (fun x => qle x f)).length = q.takeWhile (fun x => qle x f) := by
    conv => lhs; rw [← e]
    exact List.take_left' (by rw [e])
  have h2 : q.drop (q.takeWhile (fun x => qle x f)).length = q.dropWhile (fun x => qle x f) := by
    conv => lhs; rw [← e]
    exact List.drop_left' (by rw [e])
  rw [h1, h2]
  simp
theorem plc1_eq (f : Frame) (n : List UInt8) : plc1 f n = if lexle (nmS f) n = true then -1 else 1 := by
  unfold plc1
  rw [leq_lexle]
  show cond (lexle (nmS f) n) (-1) 1 = _
  cases lexle (nmS f) n <;> rfl
theorem tw_len {α : Type} {p : α → Bool} : ∀ (u : List α) (i : Nat), i ≤ u.length → (∀ k x, k < i → u[k]? = some x → p x = true) → (∀ x, u[i]? = some x → p x = false) → (u.takeWhile p).length = i
  | [], i, h, _, _ => by simp at h; simp [h]
  | y :: r, 0, _, _, h => by
    have := h y rfl
    simp [this]
  | y :: r, i + 1, h, h1, h2 => by
    have hy := h1 0 y (by omega) rfl
    rw [List.takeWhile_cons, if_pos hy, List.length_cons, tw_len r i (by simpa using h) (fun k x hk hx => h1 (k + 1) x (by omega) (by simpa using hx)) (fun x hx => h2 x (by simpa using hx))]
def bsfS (u : List Frame) (t : List UInt8) (f : Frame → List UInt8 → Int) : Int × Bool := (((u.takeWhile (fun x => decide (f x t < 0))).length : Int), match u[(u.takeWhile (fun x => decide (f x t < 0))).length]? with | some x => f x t == 0 | none => false)
theorem qbsf_ok (u : List Frame) (t : List UInt8) (f : Frame → List UInt8 → Int) (h : u.Pairwise (fun x y => f y t < 0 → f x t < 0)) : qbsf_vc u t f (fun r => r = bsfS u t f) := by
  intro hl
  have hP := List.pairwise_iff_getElem.1 h
  have mono : ∀ (i j : Nat) (x y : Frame), i ≤ j → u[i]? = some x → u[j]? = some y → f y t < 0 → f x t < 0 := by
    intro i j x y hij hx hy hf
    obtain ⟨hi, rfl⟩ := List.getElem?_eq_some_iff.1 hx
    obtain ⟨hj, rfl⟩ := List.getElem?_eq_some_iff.1 hy
    rcases Nat.lt_or_ge i j with hlt | hge
    · exact hP i j hi hj hlt hf
    · have : i = j := by omega
      subst this; exact hf
  refine ⟨fun x y => ∃ i j : Nat, x = i ∧ y = j ∧ i ≤ j ∧ j ≤ u.length ∧ (∀ k q, k < i → u[k]? = some q → f q t < 0) ∧ (∀ k q, j ≤ k → u[k]? = some q → ¬ f q t < 0), fun x y => (y - x).toNat, ⟨0, u.length, rfl, rfl, by omega, by omega, fun k q hk => by omega, fun k q hk hq => by rw [List.getElem?_eq_none hk] at hq; cases hq⟩, ?_⟩
  rintro _ _ ⟨i, j, rfl, rfl, hij, hj, h1, h2⟩
  refine ⟨fun hlt => ?_, fun hge => ?_⟩
  · have hlt : i < j := by simpa using hlt
    have e : w64 (bShr .u64 (wu64 (w64 ((i : Int) + j))) 1) = (((i + j) / 2 : Nat) : Int) := by
      have e0 : w64 ((i : Int) + j) = ((i + j : Nat) : Int) := by rw [w64_eq _ (by omega)]; omega
      rw [e0, wu64_eq _ (by omega), shr1, w64_eq _ (by omega)]
    rw [e]
    refine ⟨by omega, fun q hq _ => ?_⟩
    rw [Int.toNat_natCast] at hq
    refine ⟨fun hc => ?_, fun hc => ?_⟩
    · have hc : f q t < 0 := by simpa using hc
      rw [w64_succ _ (by omega)]
      refine ⟨⟨(i + j) / 2 + 1, j, by omega, rfl, by omega, hj, fun k x hk hx => mono k ((i + j) / 2) x q (by omega) hx hq hc, h2⟩, by dsimp only; omega⟩
    · have hc : ¬ f q t < 0 := by simpa using hc
      exact ⟨⟨i, (i + j) / 2, rfl, rfl, by omega, by omega, h1, fun k x hk hx hx0 => hc (mono ((i + j) / 2) k q x hk hq hx hx0)⟩, by dsimp only; omega⟩
  · have hge : i = j := by simp at hge; omega
    subst hge
    have htw := tw_len (p := fun x => decide (f x t < 0)) u i hj (fun k x hk hx => by simpa using h1 k x hk hx) (fun x hx => by simpa using h2 i x (Nat.le_refl _) hx)
    refine ⟨fun h3 => ⟨by simp at h3; omega, fun q hq _ => ?_⟩, fun h3 => ?_⟩
    · rw [Int.toNat_natCast] at hq
      unfold bsfS; rw [htw, hq]
    · have : u[i]? = none := List.getElem?_eq_none (by simp at h3; omega)
      unfold bsfS; rw [htw, this]
def ownS (u : List Frame) : List Frame := u
theorem qownZ_ok (u : List Frame) (h : u.length * 48 ≤ 140737488355328) : qownZ_vc u (fun r => r = ownS u) := by
  intro hl
  refine ⟨fun x i => ∃ k : Nat, i = k ∧ k ≤ u.length ∧ x = u.take k, fun _ i => ((u.length : Int) - i).toNat, ⟨0, rfl, by omega, by simp⟩, ?_⟩
  rintro _ _ ⟨k, rfl, hk, rfl⟩
  refine ⟨fun h1 => ?_, fun h1 => ?_⟩
  · have h1 : k < u.length := by simpa using h1
    refine ⟨by omega, fun q hq hd => ⟨hd, fun _ => ⟨by rw [List.length_take]; omega, ?_⟩⟩⟩
    rw [Int.toNat_natCast] at hq
    rw [w64_succ k (by omega)]
    refine ⟨⟨k + 1, rfl, by omega, ?_⟩, by dsimp only; omega⟩
    rw [List.take_add_one, hq]
    rfl
  · have h1 : k = u.length := by simp at h1; omega
    subst h1
    exact List.take_of_length_le (Nat.le_refl _)
theorem qcheck_ok (u : List Frame) : qcheck_vc u (fun r => r = qcheckS u) := by
  intro hl
  refine ⟨fun h => ?_, fun h => ?_⟩
  · have h : 16 < u.length := by have := of_decide_eq_true h; omega
    unfold qcheckS; rw [if_pos h]
  · have h : ¬ 16 < u.length := by have := of_decide_eq_false h; omega
    refine ⟨fun x i => ∃ k : Nat, i = k ∧ k ≤ u.length ∧ qcheckS u = qgo x (u.drop k), fun _ i => ((u.length : Int) - i).toNat, ⟨0, rfl, by omega, by unfold qcheckS; rw [if_neg h]; rfl⟩, ?_⟩
    rintro x _ ⟨k, rfl, hk, he⟩
    refine ⟨fun h1 => ?_, fun h1 => ?_⟩
    · have h1 : k < u.length := by simpa using h1
      refine ⟨by omega, fun q hq _ => ?_⟩
      rw [Int.toNat_natCast] at hq
      obtain ⟨_, hq2⟩ := List.getElem?_eq_some_iff.1 hq
      rw [List.drop_eq_getElem_cons h1, hq2, qgo] at he
      rw [fNameS_2]
      refine ⟨fun h2 => ?_, fun h2 => ?_⟩
      · have h2 : fcheckfr q ≠ 0 := by simpa using h2
        rw [he, if_pos h2]
      · have h2 : fcheckfr q = 0 := by simpa using h2
        rw [if_neg (fun c => c h2)] at he
        rw [bless_lexle]
        refine ⟨fun h3 => ?_, fun h3 => ?_⟩
        · have h3 : lexle x (nmS q) = false := by simpa [nmS] using h3
          rw [he, if_neg (by rw [h3]; simp)]
        · have h3 : lexle x (nmS q) = true := by simpa [nmS] using h3
          rw [if_pos h3] at he
          rw [w64_succ k (by omega)]
          exact ⟨⟨k + 1, rfl, by omega, he⟩, by dsimp only; omega⟩
    · have h1 : k = u.length := by simp at h1; omega
      subst h1
      rw [he, List.drop_length]; rfl

end Go.Proofs.YtocpdhcjkfmmnaaDoor
set_option linter.unusedVariables false
set_option linter.unusedSimpArgs false
namespace Go.Proofs.YtocpdhcjkfmmnaaDoor
open Go.Sy Go.RowKit
def qplace_vc (u0 : List Frame) (u1 : Frame) (K : Int → Prop) : Prop :=
  (u0.length ≤ 140737488355328 →
    (u1.Data.length ≤ 140737488355328 →
    ((u0.Pairwise (fun x y => (fun x0 x1 => plc1 x0 x1 ) y (fNameS u1).1 < 0 → (fun x0 x1 => plc1 x0 x1 ) x (fNameS u1).1 < 0)) ∧
    (K (bsfS u0 (fNameS u1).1 (fun x0 x1 => plc1 x0 x1 )).1))))

def qtake_vc (u0 : List Frame) (K : (Frame × (List Frame) × Int) → Prop) : Prop :=
  (u0.length ≤ 140737488355328 →
    ((((qcheckS u0) != 0) = true →
      (K ((⟨0, false, false, false, 0, []⟩ : Frame), [], (qcheckS u0)))) ∧
    (((qcheckS u0) != 0) = false →
      ((((u0.length : Int) == 0) = true →
        (K ((⟨0, false, false, false, 0, []⟩ : Frame), [], 8))) ∧
      (((u0.length : Int) == 0) = false →
        ((u0.length * 48 ≤ 140737488355328) ∧
        ((ownS u0).length ≤ 140737488355328 →
        ((0 ≤ (0 : Int) ∧ (0 : Int) < ((ownS u0).length : Int)) ∧
        (∀ qd1_1, (ownS u0)[(0 : Int).toNat]? = some qd1_1 →
        ((0 ≤ (1 : Int) ∧ (1 : Int) ≤ ((ownS u0).length : Int)) ∧
        (K (qd1_1, (ownS u0).drop (1 : Int).toNat, 0))))))))))))

def qown_vc (u0 : List Frame) (K : (List Frame) → Prop) : Prop :=
  (u0.length ≤ 140737488355328 →
    (∃ inv19 : (List Frame) → Int → Prop, ∃ mu19 : (List Frame) → Int → Nat, inv19 ([] : List Frame) 0 ∧
    (∀ (x3 : List Frame) (x8 : Int), inv19 x3 x8 →
    (((decide (x8 < (u0.length : Int))) = true →
      ((0 ≤ x8 ∧ x8 < (u0.length : Int)) ∧
      (∀ q45, u0[x8.toNat]? = some q45 →
      (q45.Data.length ≤ 140737488355328 →
      ((q45.Data.length ≤ 140737488355328) ∧
      ((fcopyS q45).Data.length ≤ 140737488355328 →
      (((x3.length + 1) * 48 ≤ 140737488355328) ∧
      (inv19 (x3 ++ [(fcopyS q45)]) (w64 (x8 + 1)) ∧ mu19 (x3 ++ [(fcopyS q45)]) (w64 (x8 + 1)) < mu19 x3 x8)))))))) ∧
    ((decide (x8 < (u0.length : Int))) = false →
      (K x3))))))

/-! Pure proofs: no program in sight. -/
theorem qplace_ok (q : List Frame) (f : Frame) (h : Qs q) : qplace_vc q f (fun r => r = placeS q f) := by
  have hp : ∀ x : Frame, (fun x0 x1 => plc1 x0 x1) x (fNameS f).1 < 0 ↔ qle x f = true := by
    intro x
    show plc1 x (nmS f) < 0 ↔ lexle (nmS x) (nmS f) = true
    rw [plc1_eq]
    split
    · rename_i h1; exact ⟨fun _ => h1, fun _ => by decide⟩
    · rename_i h1; exact ⟨fun h2 => by omega, fun h2 => absurd h2 h1⟩
  intro _ _
  refine ⟨h.imp fun {a b} hab hb => (hp a).2 (qle_trans hab ((hp b).1 hb)), ?_⟩
  unfold bsfS placeS
  have e : (fun x => decide ((fun x0 x1 => plc1 x0 x1) x (fNameS f).1 < 0)) = fun x => qle x f := by
    funext x
    rw [Bool.eq_iff_iff, decide_eq_true_eq]
    exact hp x
  rw [e]
theorem qown_ok (u : List Frame) (h : u.length * 48 ≤ 140737488355328) : qown_vc u (fun r => r = ownS u) := by
  intro hl
  refine ⟨fun x i => ∃ k : Nat, i = k ∧ k ≤ u.length ∧ x = u.take k, fun _ i => ((u.length : Int) - i).toNat, ⟨0, rfl, by omega, by simp⟩, ?_⟩
  rintro _ _ ⟨k, rfl, hk, rfl⟩
  refine ⟨fun h1 => ?_, fun h1 => ?_⟩
  · have h1 : k < u.length := by simpa using h1
    refine ⟨by omega, fun q hq hd => ⟨hd, fun _ => ⟨by rw [List.length_take]; omega, ?_⟩⟩⟩
    rw [Int.toNat_natCast] at hq
    rw [w64_succ k (by omega)]
    refine ⟨⟨k + 1, rfl, by omega, ?_⟩, by dsimp only; omega⟩
    rw [List.take_add_one, hq]
    rfl
  · have h1 : k = u.length := by simp at h1; omega
    subst h1
    exact List.take_of_length_le (Nat.le_refl _)
def fzero : Frame := ⟨0, false, false, false, 0, []⟩
def takeS (q : List Frame) : Frame × List Frame × Int := if qcheckS q ≠ 0 then (fzero, [], qcheckS q) else match q with
  | [] => (fzero, [], 8)
  | f :: r => (f, r, 0)
theorem qtake_ok (q : List Frame) : qtake_vc q (fun r => r = takeS q) := by
  intro _
  refine ⟨fun h => ?_, fun h => ?_⟩
  · have h : qcheckS q ≠ 0 := by simpa using h
    unfold takeS; rw [if_pos h]; rfl
  · have h : qcheckS q = 0 := by simpa using h
    have hz := (qcheck_zero.1 h).1
    unfold takeS
    rw [if_neg (fun k => k h)]
    cases q with
    | nil => exact ⟨fun _ => rfl, fun k => by cases k⟩
    | cons f r =>
      refine ⟨fun k => ?_, fun _ => ⟨by omega, fun _ => ⟨?_, fun x hx => ⟨?_, ?_⟩⟩⟩⟩
      · simp at k; omega
      · show 0 ≤ (0 : Int) ∧ (0 : Int) < ((f :: r).length : Int)
        rw [List.length_cons]; omega
      · show 0 ≤ (1 : Int) ∧ (1 : Int) ≤ ((f :: r).length : Int)
        rw [List.length_cons]; omega
      · have hx : (f :: r)[0]? = some x := hx
        simp at hx
        subst hx
        rfl

end Go.Proofs.YtocpdhcjkfmmnaaDoor
set_option linter.unusedVariables false
set_option linter.unusedSimpArgs false
namespace Go.Proofs.YtocpdhcjkfmmnaaDoor
open Go.Sy Go.RowKit
def qput_vc (u0 : List Frame) (u1 : Frame) (K : ((List Frame) × Int) → Prop) : Prop :=
  (u0.length ≤ 140737488355328 →
    (u1.Data.length ≤ 140737488355328 →
    ((((qcheckS u0) != 0) = true →
      (K ([], (qcheckS u0)))) ∧
    (((qcheckS u0) != 0) = false →
      ((((fcheckfr u1) != 0) = true →
        (K ([], (fcheckfr u1)))) ∧
      (((fcheckfr u1) != 0) = false →
        ((((u0.length : Int) == 16) = true →
          (K ([], 11))) ∧
        (((u0.length : Int) == 16) = false →
          ((u0.length * 48 ≤ 140737488355328) ∧
          ((Qs u0) ∧
          ((u1.Data.length ≤ 140737488355328) ∧
          (((0 ≤ (placeS u0 u1) ∧ (placeS u0 u1) ≤ ((ownS u0).length : Int)) ∧ ([(fcopyS u1)] : List Frame).length = 1 ∧ ((ownS u0).length + 1) * 48 ≤ 140737488355328) ∧
          (K ((insS (ownS u0) (placeS u0 u1) ([(fcopyS u1)] : List Frame)), 0))))))))))))))

/-! Pure proofs: no program in sight. -/
def putS (q : List Frame) (f : Frame) : List Frame × Int := if qcheckS q ≠ 0 then ([], qcheckS q) else if fcheckfr f ≠ 0 then ([], fcheckfr f) else if q.length = 16 then ([], 11) else (qins f q, 0)
theorem place_le (q : List Frame) (f : Frame) : 0 ≤ placeS q f ∧ placeS q f ≤ (q.length : Int) := by
  unfold placeS
  have := (List.takeWhile_sublist (fun x => qle x f) (l := q)).length_le
  omega
theorem qput_ok (q : List Frame) (f : Frame) : qput_vc q f (fun r => r = putS q f) := by
  intro _ hd
  unfold putS
  refine ⟨fun h => ?_, fun h => ?_⟩
  · have h : qcheckS q ≠ 0 := by simpa using h
    rw [if_pos h]
  have h : qcheckS q = 0 := by simpa using h
  obtain ⟨hl, _, hq⟩ := qcheck_zero.1 h
  rw [if_neg (fun k => k h)]
  refine ⟨fun h2 => ?_, fun h2 => ?_⟩
  · have h2 : fcheckfr f ≠ 0 := by simpa using h2
    rw [if_pos h2]
  have h2 : fcheckfr f = 0 := by simpa using h2
  rw [if_neg (fun k => k h2)]
  refine ⟨fun h3 => ?_, fun h3 => ?_⟩
  · have h3 : q.length = 16 := by have := eq_of_beq h3; omega
    rw [if_pos h3]
  have h3 : ¬ q.length = 16 := fun k => by rw [k] at h3; cases h3
  rw [if_neg h3]
  refine ⟨by omega, hq, hd, ⟨place_le q f, rfl, by show (q.length + 1) * 48 ≤ _; omega⟩, ?_⟩
  show (insS q (placeS q f) [f], (0 : Int)) = _
  rw [ins_place]
def mgS (a b : List Frame) : List Frame := b.foldl (fun o f => qins f o) a
theorem mg_len : ∀ (b a : List Frame), (mgS a b).length = a.length + b.length
  | [], a => rfl
  | f :: r, a => by
    show (mgS (qins f a) r).length = _
    rw [mg_len r, qins_length, List.length_cons]; omega
theorem mg_Qs : ∀ (b a : List Frame), Qs a → Qs (mgS a b)
  | [], _, h => h
  | f :: r, _, h => mg_Qs r _ (h.ins f)
theorem mg_mem : ∀ (b a : List Frame) (x : Frame), x ∈ mgS a b ↔ x ∈ a ∨ x ∈ b
  | [], a, x => by simp [mgS]
  | f :: r, a, x => by
    show x ∈ mgS (qins f a) r ↔ _
    rw [mg_mem r, qins_mem, List.mem_cons]
    constructor
    · rintro ((h | h) | h)
      · exact .inr (.inl h)
      · exact .inl h
      · exact .inr (.inr h)
    · rintro (h | h | h)
      · exact .inl (.inr h)
      · exact .inl (.inl h)
      · exact .inr h
theorem mg_snoc (a b : List Frame) (f : Frame) : mgS a (b ++ [f]) = qins f (mgS a b) := by unfold mgS; rw [List.foldl_append]; rfl

end Go.Proofs.YtocpdhcjkfmmnaaDoor
set_option linter.unusedVariables false
set_option linter.unusedSimpArgs false
namespace Go.Proofs.YtocpdhcjkfmmnaaDoor
open Go.Sy Go.RowKit
def queued_vc  (K : Bool → Prop) : Prop :=
  ((putS ([(⟨5, false, false, false, 0, []⟩ : Frame)] : List Frame) (⟨3, false, false, false, 0, []⟩ : Frame)).1.length ≤ 140737488355328 →
    ((takeS (putS ([(⟨5, false, false, false, 0, []⟩ : Frame)] : List Frame) (⟨3, false, false, false, 0, []⟩ : Frame)).1).1.Data.length ≤ 140737488355328 →
    ((takeS (putS ([(⟨5, false, false, false, 0, []⟩ : Frame)] : List Frame) (⟨3, false, false, false, 0, []⟩ : Frame)).1).2.1.length ≤ 140737488355328 →
    (((((((putS ([(⟨5, false, false, false, 0, []⟩ : Frame)] : List Frame) (⟨3, false, false, false, 0, []⟩ : Frame)).2 == 0) && ((takeS (putS ([(⟨5, false, false, false, 0, []⟩ : Frame)] : List Frame) (⟨3, false, false, false, 0, []⟩ : Frame)).1).2.2 == 0)) && ((takeS (putS ([(⟨5, false, false, false, 0, []⟩ : Frame)] : List Frame) (⟨3, false, false, false, 0, []⟩ : Frame)).1).1.ID == 3)) && (((takeS (putS ([(⟨5, false, false, false, 0, []⟩ : Frame)] : List Frame) (⟨3, false, false, false, 0, []⟩ : Frame)).1).2.1.length : Int) == 1)) = true →
      ((0 ≤ (0 : Int) ∧ (0 : Int) < ((takeS (putS ([(⟨5, false, false, false, 0, []⟩ : Frame)] : List Frame) (⟨3, false, false, false, 0, []⟩ : Frame)).1).2.1.length : Int)) ∧
      (∀ q127, (takeS (putS ([(⟨5, false, false, false, 0, []⟩ : Frame)] : List Frame) (⟨3, false, false, false, 0, []⟩ : Frame)).1).2.1[(0 : Int).toNat]? = some q127 →
      (q127.Data.length ≤ 140737488355328 →
      (K (q127.ID == 5)))))) ∧
    ((((((putS ([(⟨5, false, false, false, 0, []⟩ : Frame)] : List Frame) (⟨3, false, false, false, 0, []⟩ : Frame)).2 == 0) && ((takeS (putS ([(⟨5, false, false, false, 0, []⟩ : Frame)] : List Frame) (⟨3, false, false, false, 0, []⟩ : Frame)).1).2.2 == 0)) && ((takeS (putS ([(⟨5, false, false, false, 0, []⟩ : Frame)] : List Frame) (⟨3, false, false, false, 0, []⟩ : Frame)).1).1.ID == 3)) && (((takeS (putS ([(⟨5, false, false, false, 0, []⟩ : Frame)] : List Frame) (⟨3, false, false, false, 0, []⟩ : Frame)).1).2.1.length : Int) == 1)) = false →
      (K false))))))

/-! Pure proofs: no program in sight. -/
theorem put_closed : putS [(⟨5, false, false, false, 0, []⟩ : Frame)] ⟨3, false, false, false, 0, []⟩ = ([⟨3, false, false, false, 0, []⟩, ⟨5, false, false, false, 0, []⟩], 0) := by kernel_rfl
theorem take_closed : takeS [(⟨3, false, false, false, 0, []⟩ : Frame), ⟨5, false, false, false, 0, []⟩] = (⟨3, false, false, false, 0, []⟩, [⟨5, false, false, false, 0, []⟩], 0) := by kernel_rfl
theorem queued_ok : queued_vc (fun r => r = true) := by
  unfold queued_vc
  rw [put_closed, take_closed]
  intro _ _ _
  refine ⟨fun _ => ⟨by decide, fun q hq _ => ?_⟩, fun h => by cases h⟩
  have hq : some (⟨5, false, false, false, 0, []⟩ : Frame) = some q := hq
  cases hq
  rfl

end Go.Proofs.YtocpdhcjkfmmnaaDoor
set_option linter.unusedVariables false
set_option linter.unusedSimpArgs false
namespace Go.Proofs.YtocpdhcjkfmmnaaDoor
open Go.Sy Go.RowKit
def tz64_vc (u0 : Int) (K : Int → Prop) : Prop :=
  (((u0 == 0) = true →
      (K 64)) ∧
    ((u0 == 0) = false →
      ((0 ≤ bShr .u64 (wu64 ((bAnd .u64 u0 (wu64 (0 - u0))) * 285870213051353865)) 58 ∧ bShr .u64 (wu64 ((bAnd .u64 u0 (wu64 (0 - u0))) * 285870213051353865)) 58 < 64) ∧
      (∀ q33, deBruijn64[(bShr .u64 (wu64 ((bAnd .u64 u0 (wu64 (0 - u0))) * 285870213051353865)) 58).toNat]? = some q33 →
      (K (w64 q33))))))

def isp2_vc (u0 : Int) (K : Bool → Prop) : Prop :=
  (K ((bAnd .i64 u0 (w64 (u0 - 1))) == 0))
def isp2 (u0 : Int) : Bool :=
  (bAnd .i64 u0 (w64 (u0 - 1))) == 0
theorem isp2_ok (u0 : Int) : isp2_vc u0 (fun r => r = isp2 u0) := (by rfl)

/-! Pure proofs: no program in sight. -/
def tz64S (u0 : Int) : Int := 1
theorem tz64_ok (u0 : Int) (h : u0 = 2) : tz64_vc u0 (fun r => r = tz64S u0) := by
  subst h
  have e : deBruijn64[(bShr .u64 (wu64 ((bAnd .u64 2 (wu64 (0 - 2))) * 285870213051353865)) 58).toNat]? = some 1 := by decide +kernel
  refine ⟨fun h => absurd h (by decide), fun _ => ⟨by decide +kernel, fun q hq => ?_⟩⟩
  rw [e] at hq
  cases hq
  decide
def srepS (s : List UInt8) (c : Int) : List UInt8 := (List.replicate c.toNat s).flatten

end Go.Proofs.YtocpdhcjkfmmnaaDoor
set_option linter.unusedVariables false
set_option linter.unusedSimpArgs false
namespace Go.Proofs.YtocpdhcjkfmmnaaDoor
open Go.Sy Go.RowKit
def tz_vc (u0 : Int) (K : Int → Prop) : Prop :=
  ((u0 = 2) ∧
    (K (tz64S u0)))

def fbits_vc (u1 : Int) (u3 : Bool) (K : ((List Int) × (List UInt8)) → Prop) : Prop :=
  ((u3 = true →
      (((isp2 2) = true →
        (tz_vc 2 fun r63 =>
        (∃ inv90 : Int → Int → (List Int) → Prop, ∃ mu90 : Int → Int → (List Int) → Nat, inv90 (wu64 (0 - u1)) 65 (List.replicate 65 (0 : Int)) ∧
        (∀ (x1 : Int) (x13 : Int) (zb280 : List Int), inv90 x1 x13 zb280 →
        (((decide (x1 ≥ 2)) = true →
          ((0 ≤ bAnd .u64 x1 (wu64 (2 - 1)) ∧ bAnd .u64 x1 (wu64 (2 - 1)) < (([48, 49, 50, 51, 52, 53, 54, 55, 56, 57, 97, 98, 99, 100, 101, 102, 103, 104, 105, 106, 107, 108, 109, 110, 111, 112, 113, 114, 115, 116, 117, 118, 119, 120, 121, 122] : List UInt8).length : Int)) ∧
          (∀ c130, ([48, 49, 50, 51, 52, 53, 54, 55, 56, 57, 97, 98, 99, 100, 101, 102, 103, 104, 105, 106, 107, 108, 109, 110, 111, 112, 113, 114, 115, 116, 117, 118, 119, 120, 121, 122] : List UInt8)[(bAnd .u64 x1 (wu64 (2 - 1))).toNat]? = some c130 →
          (((0 ≤ w64 (x13 - 1) ∧ w64 (x13 - 1) < 65) ∧ zb280.length = 65) ∧
          ((0 ≤ wu64 r63) ∧
          (inv90 (bShr .u64 x1 (wu64 r63)) (w64 (x13 - 1)) (zb280.set (w64 (x13 - 1)).toNat (c130.toNat : Int)) ∧ mu90 (bShr .u64 x1 (wu64 r63)) (w64 (x13 - 1)) (zb280.set (w64 (x13 - 1)).toNat (c130.toNat : Int)) < mu90 x1 x13 zb280)))))) ∧
        ((decide (x1 ≥ 2)) = false →
          ((0 ≤ x1 ∧ x1 < (([48, 49, 50, 51, 52, 53, 54, 55, 56, 57, 97, 98, 99, 100, 101, 102, 103, 104, 105, 106, 107, 108, 109, 110, 111, 112, 113, 114, 115, 116, 117, 118, 119, 120, 121, 122] : List UInt8).length : Int)) ∧
          (∀ c169, ([48, 49, 50, 51, 52, 53, 54, 55, 56, 57, 97, 98, 99, 100, 101, 102, 103, 104, 105, 106, 107, 108, 109, 110, 111, 112, 113, 114, 115, 116, 117, 118, 119, 120, 121, 122] : List UInt8)[x1.toNat]? = some c169 →
          (((0 ≤ w64 (x13 - 1) ∧ w64 (x13 - 1) < 65) ∧ zb280.length = 65) ∧
          (((0 ≤ w64 ((w64 (x13 - 1)) - 1) ∧ w64 ((w64 (x13 - 1)) - 1) < 65) ∧ (zb280.set (w64 (x13 - 1)).toNat (c169.toNat : Int)).length = 65) ∧
          (((0 ≤ w64 ((w64 (x13 - 1)) - 1) ∧ w64 ((w64 (x13 - 1)) - 1) ≤ 65) ∧ ((zb280.set (w64 (x13 - 1)).toNat (c169.toNat : Int)).set (w64 ((w64 (x13 - 1)) - 1)).toNat 45).length = 65) ∧
          (K (([] : List Int), bstr (((zb280.set (w64 (x13 - 1)).toNat (c169.toNat : Int)).set (w64 ((w64 (x13 - 1)) - 1)).toNat 45).drop (w64 ((w64 (x13 - 1)) - 1)).toNat)))))))))))))) ∧
      ((isp2 2) = false →
        (∃ inv237 : Int → Int → (List Int) → Prop, ∃ mu237 : Int → Int → (List Int) → Nat, inv237 (wu64 (0 - u1)) 65 (List.replicate 65 (0 : Int)) ∧
        (∀ (x1 : Int) (x13 : Int) (zb280 : List Int), inv237 x1 x13 zb280 →
        (((decide (x1 ≥ 2)) = true →
          ((0 ≤ wu64 (x1 - (wu64 ((wu64 (x1.tdiv 2)) * 2))) ∧ wu64 (x1 - (wu64 ((wu64 (x1.tdiv 2)) * 2))) < (([48, 49, 50, 51, 52, 53, 54, 55, 56, 57, 97, 98, 99, 100, 101, 102, 103, 104, 105, 106, 107, 108, 109, 110, 111, 112, 113, 114, 115, 116, 117, 118, 119, 120, 121, 122] : List UInt8).length : Int)) ∧
          (∀ c290, ([48, 49, 50, 51, 52, 53, 54, 55, 56, 57, 97, 98, 99, 100, 101, 102, 103, 104, 105, 106, 107, 108, 109, 110, 111, 112, 113, 114, 115, 116, 117, 118, 119, 120, 121, 122] : List UInt8)[(wu64 (x1 - (wu64 ((wu64 (x1.tdiv 2)) * 2)))).toNat]? = some c290 →
          (((0 ≤ w64 (x13 - 1) ∧ w64 (x13 - 1) < 65) ∧ zb280.length = 65) ∧
          (inv237 (wu64 (x1.tdiv 2)) (w64 (x13 - 1)) (zb280.set (w64 (x13 - 1)).toNat (c290.toNat : Int)) ∧ mu237 (wu64 (x1.tdiv 2)) (w64 (x13 - 1)) (zb280.set (w64 (x13 - 1)).toNat (c290.toNat : Int)) < mu237 x1 x13 zb280))))) ∧
        ((decide (x1 ≥ 2)) = false →
          ((0 ≤ x1 ∧ x1 < (([48, 49, 50, 51, 52, 53, 54, 55, 56, 57, 97, 98, 99, 100, 101, 102, 103, 104, 105, 106, 107, 108, 109, 110, 111, 112, 113, 114, 115, 116, 117, 118, 119, 120, 121, 122] : List UInt8).length : Int)) ∧
          (∀ c323, ([48, 49, 50, 51, 52, 53, 54, 55, 56, 57, 97, 98, 99, 100, 101, 102, 103, 104, 105, 106, 107, 108, 109, 110, 111, 112, 113, 114, 115, 116, 117, 118, 119, 120, 121, 122] : List UInt8)[x1.toNat]? = some c323 →
          (((0 ≤ w64 (x13 - 1) ∧ w64 (x13 - 1) < 65) ∧ zb280.length = 65) ∧
          (((0 ≤ w64 ((w64 (x13 - 1)) - 1) ∧ w64 ((w64 (x13 - 1)) - 1) < 65) ∧ (zb280.set (w64 (x13 - 1)).toNat (c323.toNat : Int)).length = 65) ∧
          (((0 ≤ w64 ((w64 (x13 - 1)) - 1) ∧ w64 ((w64 (x13 - 1)) - 1) ≤ 65) ∧ ((zb280.set (w64 (x13 - 1)).toNat (c323.toNat : Int)).set (w64 ((w64 (x13 - 1)) - 1)).toNat 45).length = 65) ∧
          (K (([] : List Int), bstr (((zb280.set (w64 (x13 - 1)).toNat (c323.toNat : Int)).set (w64 ((w64 (x13 - 1)) - 1)).toNat 45).drop (w64 ((w64 (x13 - 1)) - 1)).toNat))))))))))))))) ∧
    (u3 = false →
      (((isp2 2) = true →
        (tz_vc 2 fun r397 =>
        (∃ inv424 : Int → Int → (List Int) → Prop, ∃ mu424 : Int → Int → (List Int) → Nat, inv424 u1 65 (List.replicate 65 (0 : Int)) ∧
        (∀ (x1 : Int) (x13 : Int) (zb280 : List Int), inv424 x1 x13 zb280 →
        (((decide (x1 ≥ 2)) = true →
          ((0 ≤ bAnd .u64 x1 (wu64 (2 - 1)) ∧ bAnd .u64 x1 (wu64 (2 - 1)) < (([48, 49, 50, 51, 52, 53, 54, 55, 56, 57, 97, 98, 99, 100, 101, 102, 103, 104, 105, 106, 107, 108, 109, 110, 111, 112, 113, 114, 115, 116, 117, 118, 119, 120, 121, 122] : List UInt8).length : Int)) ∧
          (∀ c464, ([48, 49, 50, 51, 52, 53, 54, 55, 56, 57, 97, 98, 99, 100, 101, 102, 103, 104, 105, 106, 107, 108, 109, 110, 111, 112, 113, 114, 115, 116, 117, 118, 119, 120, 121, 122] : List UInt8)[(bAnd .u64 x1 (wu64 (2 - 1))).toNat]? = some c464 →
          (((0 ≤ w64 (x13 - 1) ∧ w64 (x13 - 1) < 65) ∧ zb280.length = 65) ∧
          ((0 ≤ wu64 r397) ∧
          (inv424 (bShr .u64 x1 (wu64 r397)) (w64 (x13 - 1)) (zb280.set (w64 (x13 - 1)).toNat (c464.toNat : Int)) ∧ mu424 (bShr .u64 x1 (wu64 r397)) (w64 (x13 - 1)) (zb280.set (w64 (x13 - 1)).toNat (c464.toNat : Int)) < mu424 x1 x13 zb280)))))) ∧
        ((decide (x1 ≥ 2)) = false →
          ((0 ≤ x1 ∧ x1 < (([48, 49, 50, 51, 52, 53, 54, 55, 56, 57, 97, 98, 99, 100, 101, 102, 103, 104, 105, 106, 107, 108, 109, 110, 111, 112, 113, 114, 115, 116, 117, 118, 119, 120, 121, 122] : List UInt8).length : Int)) ∧
          (∀ c503, ([48, 49, 50, 51, 52, 53, 54, 55, 56, 57, 97, 98, 99, 100, 101, 102, 103, 104, 105, 106, 107, 108, 109, 110, 111, 112, 113, 114, 115, 116, 117, 118, 119, 120, 121, 122] : List UInt8)[x1.toNat]? = some c503 →
          (((0 ≤ w64 (x13 - 1) ∧ w64 (x13 - 1) < 65) ∧ zb280.length = 65) ∧
          (((0 ≤ w64 (x13 - 1) ∧ w64 (x13 - 1) ≤ 65) ∧ (zb280.set (w64 (x13 - 1)).toNat (c503.toNat : Int)).length = 65) ∧
          (K (([] : List Int), bstr ((zb280.set (w64 (x13 - 1)).toNat (c503.toNat : Int)).drop (w64 (x13 - 1)).toNat))))))))))))) ∧
      ((isp2 2) = false →
        (∃ inv553 : Int → Int → (List Int) → Prop, ∃ mu553 : Int → Int → (List Int) → Nat, inv553 u1 65 (List.replicate 65 (0 : Int)) ∧
        (∀ (x1 : Int) (x13 : Int) (zb280 : List Int), inv553 x1 x13 zb280 →
        (((decide (x1 ≥ 2)) = true →
          ((0 ≤ wu64 (x1 - (wu64 ((wu64 (x1.tdiv 2)) * 2))) ∧ wu64 (x1 - (wu64 ((wu64 (x1.tdiv 2)) * 2))) < (([48, 49, 50, 51, 52, 53, 54, 55, 56, 57, 97, 98, 99, 100, 101, 102, 103, 104, 105, 106, 107, 108, 109, 110, 111, 112, 113, 114, 115, 116, 117, 118, 119, 120, 121, 122] : List UInt8).length : Int)) ∧
          (∀ c606, ([48, 49, 50, 51, 52, 53, 54, 55, 56, 57, 97, 98, 99, 100, 101, 102, 103, 104, 105, 106, 107, 108, 109, 110, 111, 112, 113, 114, 115, 116, 117, 118, 119, 120, 121, 122] : List UInt8)[(wu64 (x1 - (wu64 ((wu64 (x1.tdiv 2)) * 2)))).toNat]? = some c606 →
          (((0 ≤ w64 (x13 - 1) ∧ w64 (x13 - 1) < 65) ∧ zb280.length = 65) ∧
          (inv553 (wu64 (x1.tdiv 2)) (w64 (x13 - 1)) (zb280.set (w64 (x13 - 1)).toNat (c606.toNat : Int)) ∧ mu553 (wu64 (x1.tdiv 2)) (w64 (x13 - 1)) (zb280.set (w64 (x13 - 1)).toNat (c606.toNat : Int)) < mu553 x1 x13 zb280))))) ∧
        ((decide (x1 ≥ 2)) = false →
          ((0 ≤ x1 ∧ x1 < (([48, 49, 50, 51, 52, 53, 54, 55, 56, 57, 97, 98, 99, 100, 101, 102, 103, 104, 105, 106, 107, 108, 109, 110, 111, 112, 113, 114, 115, 116, 117, 118, 119, 120, 121, 122] : List UInt8).length : Int)) ∧
          (∀ c639, ([48, 49, 50, 51, 52, 53, 54, 55, 56, 57, 97, 98, 99, 100, 101, 102, 103, 104, 105, 106, 107, 108, 109, 110, 111, 112, 113, 114, 115, 116, 117, 118, 119, 120, 121, 122] : List UInt8)[x1.toNat]? = some c639 →
          (((0 ≤ w64 (x13 - 1) ∧ w64 (x13 - 1) < 65) ∧ zb280.length = 65) ∧
          (((0 ≤ w64 (x13 - 1) ∧ w64 (x13 - 1) ≤ 65) ∧ (zb280.set (w64 (x13 - 1)).toNat (c639.toNat : Int)).length = 65) ∧
          (K (([] : List Int), bstr ((zb280.set (w64 (x13 - 1)).toNat (c639.toNat : Int)).drop (w64 (x13 - 1)).toNat)))))))))))))))

/-! Pure proofs: no program in sight. -/
/-- A number in as few bits as it takes. -/
def binS (n : Nat) : List UInt8 := wr (Nat.log2 n + 1) n
def fbitsS (u1 : Int) (u3 : Bool) : List Int × List UInt8 := ([], binS u1.toNat)
theorem drop_set_at {α : Type} (l : List α) (p : Nat) (x : α) (h : p < l.length) : (l.set p x).drop p = x :: l.drop (p + 1) := by
  rw [List.drop_eq_getElem_cons (by rw [List.length_set]; exact h)]
  congr 1
  · simp
  · apply List.ext_getElem?
    intro j
    rw [List.getElem?_drop, List.getElem?_drop, List.getElem?_set, if_neg (by omega)]
theorem digit_at {d : Nat} (hd : d < 2) {c : UInt8} (h : ([48, 49, 50, 51, 52, 53, 54, 55, 56, 57, 97, 98, 99, 100, 101, 102, 103, 104, 105, 106, 107, 108, 109, 110, 111, 112, 113, 114, 115, 116, 117, 118, 119, 120, 121, 122] : List UInt8)[d]? = some c) : c = UInt8.ofNat (48 + d) := by
  have : d = 0 ∨ d = 1 := by omega
  rcases this with rfl | rfl
  · cases h; rfl
  · cases h; rfl
theorem log2_at {n k : Nat} (h1 : n / 2 ^ k < 2) (h2 : k = 0 ∨ 2 ≤ n / 2 ^ (k - 1)) : Nat.log2 n = k := by
  rcases h2 with rfl | h2
  · rw [Nat.pow_zero, Nat.div_one] at h1
    have : n = 0 ∨ n = 1 := by omega
    rcases this with rfl | rfl <;> decide
  · have hk : k ≠ 0 := by
      rintro rfl
      rw [Nat.zero_sub] at h2
      omega
    obtain ⟨j, rfl⟩ : ∃ j, k = j + 1 := ⟨k - 1, by omega⟩
    rw [Nat.add_sub_cancel] at h2
    have hp : 0 < 2 ^ j := Nat.two_pow_pos j
    have a1 : 2 * 2 ^ j ≤ n := (Nat.le_div_iff_mul_le hp).1 h2
    have a2 : n < 2 * 2 ^ (j + 1) := by rwa [Nat.div_lt_iff_lt_mul (Nat.two_pow_pos _)] at h1
    have hn : n ≠ 0 := by omega
    rw [Nat.log2_eq_iff hn, Nat.pow_succ, Nat.pow_succ, Nat.pow_succ]
    rw [Nat.pow_succ] at a2
    omega
theorem fbits_ok (u1 : Int) (u3 : Bool) (h : u3 = false ∧ 0 ≤ u1 ∧ u1 ≤ 9223372036854775807) : fbits_vc u1 u3 (fun r => r = fbitsS u1 u3) := by
  obtain ⟨rfl, h0, h1⟩ := h
  refine ⟨(fun h => by cases h), fun _ => ⟨fun _ => ?_, fun h => absurd h (by decide)⟩⟩
  refine ⟨rfl, ?_⟩
  obtain ⟨n, rfl⟩ : ∃ n : Nat, u1 = n := ⟨u1.toNat, by omega⟩
  have e1 : wu64 (2 - 1) = 1 := rfl
  have e2 : wu64 (tz64S 2) = 1 := rfl
  rw [e1, e2]
  refine ⟨fun x i z => ∃ k : Nat, x = ((n / 2 ^ k : Nat) : Int) ∧ i = ((65 - k : Nat) : Int) ∧ k ≤ 63 ∧ z.length = 65 ∧ bstr (z.drop (65 - k)) = wr k n ∧ (k = 0 ∨ 2 ≤ n / 2 ^ (k - 1)), fun x _ _ => x.toNat, ⟨0, by simp, rfl, by omega, by simp, rfl, .inl rfl⟩, ?_⟩
  rintro _ _ z ⟨k, rfl, rfl, hk, hz, hb, hge⟩
  have hp : 0 < 2 ^ k := Nat.two_pow_pos k
  have hle : n / 2 ^ k ≤ n := Nat.div_le_self _ _
  have ew : w64 (((65 - k : Nat) : Int) - 1) = ((64 - k : Nat) : Int) := by rw [w64_eq _ (by omega)]; omega
  rw [ew, Int.toNat_natCast]
  have key : ∀ c : UInt8, c = UInt8.ofNat (48 + n / 2 ^ k % 2) → bstr ((z.set (64 - k) (c.toNat : Int)).drop (64 - k)) = wr (k + 1) n := by
    rintro c rfl
    rw [drop_set_at _ _ _ (by omega)]
    have e9 : 64 - k + 1 = 65 - k := by omega
    rw [e9]
    show bstr ([((UInt8.ofNat (48 + n / 2 ^ k % 2)).toNat : Int)] ++ z.drop (65 - k)) = _
    rw [bstr_append, bstr_one, hb]
    rfl
  refine ⟨fun h2 => ?_, fun h2 => ?_⟩
  · have h2 : 2 ≤ n / 2 ^ k := by have := of_decide_eq_true h2; omega
    have hk62 : k ≤ 62 := by
      rcases Nat.lt_or_ge 62 k with hc | hc
      · have : k = 63 := by omega
        subst this
        have p63 : (2 : Nat) ^ 63 = 9223372036854775808 := rfl
        rw [p63] at h2
        omega
      · exact hc
    rw [and1 _ (by omega), shr1]
    refine ⟨⟨by omega, by simp; omega⟩, fun c hc => ⟨⟨by omega, hz⟩, by omega, ?_, ?_⟩⟩
    · rw [Int.toNat_natCast] at hc
      have hcc := digit_at (Nat.mod_lt _ (by omega)) hc
      refine ⟨k + 1, by rw [Nat.pow_succ, Nat.div_div_eq_div_mul], by omega, by omega, by rw [List.length_set]; exact hz, ?_, .inr (by rw [Nat.add_sub_cancel]; exact h2)⟩
      have e9 : 65 - (k + 1) = 64 - k := by omega
      rw [e9]
      exact key c hcc
    · dsimp only
      omega
  · have h2 : n / 2 ^ k < 2 := by have := of_decide_eq_false h2; omega
    refine ⟨⟨Int.natCast_nonneg _, Int.lt_trans (b := 2) (by exact_mod_cast h2) (by decide)⟩, fun c hc => ⟨⟨by omega, hz⟩, ⟨by omega, by rw [List.length_set]; exact hz⟩, ?_⟩⟩
    rw [Int.toNat_natCast] at hc
    have hcc := digit_at h2 hc
    show ([], bstr ((z.set (64 - k) (c.toNat : Int)).drop (64 - k))) = fbitsS (n : Int) false
    rw [key c (by rw [hcc, Nat.mod_eq_of_lt h2])]
    unfold fbitsS binS
    rw [Int.toNat_natCast, log2_at h2 hge]

end Go.Proofs.YtocpdhcjkfmmnaaDoor
set_option linter.unusedVariables false
set_option linter.unusedSimpArgs false
namespace Go.Proofs.YtocpdhcjkfmmnaaDoor
open Go.Sy Go.RowKit
def fint0_vc (u0 : Int) (K : (List UInt8) → Prop) : Prop :=
  (((decide (u0 < 0)) = false ∧ 0 ≤ (wu64 u0) ∧ (wu64 u0) ≤ 9223372036854775807) ∧
    ((fbitsS (wu64 u0) (decide (u0 < 0))).1.length ≤ 140737488355328 →
    (K (fbitsS (wu64 u0) (decide (u0 < 0))).2)))

/-! Pure proofs: no program in sight. -/
def fintS (u0 : Int) : List UInt8 := binS u0.toNat
theorem fint_ok (u0 : Int) (h : 0 ≤ u0 ∧ u0 ≤ 9223372036854775807) : fint0_vc u0 (fun r => r = fintS u0) := by
  have e : wu64 u0 = u0 := wu64_eq _ (by omega)
  unfold fint0_vc
  rw [e]
  exact ⟨⟨decide_eq_false (by omega), h.1, h.2⟩, fun _ => rfl⟩

end Go.Proofs.YtocpdhcjkfmmnaaDoor
set_option linter.unusedVariables false
set_option linter.unusedSimpArgs false
namespace Go.Proofs.YtocpdhcjkfmmnaaDoor
open Go.Sy Go.RowKit
def fint1_vc (u0 : Int) (K : (List UInt8) → Prop) : Prop :=
  ((0 ≤ u0 ∧ u0 ≤ 9223372036854775807) ∧
    (K (fintS u0)))

def rrow_vc (u0 : Int) (u1 : Int) (K : ((List UInt8) × Bool) → Prop) : Prop :=
  (((decide (u0 > 0)) = true →
      (fint1_vc u0 fun r19 =>
      (((decide ((r19.length : Int) > u1)) = true →
        (K ([], false))) ∧
      ((decide ((r19.length : Int) > u1)) = false →
        ((0 ≤ (w64 (u1 - (r19.length : Int))) ∧ (w64 (u1 - (r19.length : Int))) ≤ 1000000 ∧ (([48] : List UInt8).length : Int) * (w64 (u1 - (r19.length : Int))) ≤ 140737488355328) ∧
        ((((srepS ([48] : List UInt8) (w64 (u1 - (r19.length : Int)))).length : Int) + (r19.length : Int) ≤ 9223372036854775807) ∧
        (K ((srepS ([48] : List UInt8) (w64 (u1 - (r19.length : Int)))) ++ r19, true)))))))) ∧
    ((decide (u0 > 0)) = false →
      (((decide (0 > u1)) = true →
        (K ([], false))) ∧
      ((decide (0 > u1)) = false →
        ((0 ≤ (w64 (u1 - 0)) ∧ (w64 (u1 - 0)) ≤ 1000000 ∧ (([48] : List UInt8).length : Int) * (w64 (u1 - 0)) ≤ 140737488355328) ∧
        ((((srepS ([48] : List UInt8) (w64 (u1 - 0))).length : Int) + (([] : List UInt8).length : Int) ≤ 9223372036854775807) ∧
        (K ((srepS ([48] : List UInt8) (w64 (u1 - 0))) ++ ([] : List UInt8), true))))))))

/-! Pure proofs: no program in sight. -/
def rrowS (n size : Int) : List UInt8 × Bool := if (if 0 < n then binS n.toNat else []).length > size then ([], false) else (List.replicate (size.toNat - (if 0 < n then binS n.toNat else []).length) 48 ++ (if 0 < n then binS n.toNat else []), true)
theorem srep_zero (c : Nat) : srepS [48] (c : Int) = List.replicate c 48 := by
  unfold srepS
  rw [Int.toNat_natCast]
  induction c with
  | zero => rfl
  | succ c ih => rw [List.replicate_succ, List.flatten_cons, ih, List.replicate_succ]; rfl
theorem binS_len (n : Nat) : (binS n).length = Nat.log2 n + 1 := wr_length _ _
theorem log2_le {n : Nat} (h : n < 9223372036854775808) : Nat.log2 n ≤ 62 := by
  by_cases h0 : n = 0
  · subst h0; decide
  · have : Nat.log2 n < 63 := (Nat.log2_lt h0).2 h
    omega
theorem rrow_ok (u0 u1 : Int) (h : u0 ≤ 9223372036854775807 ∧ u1 ≤ 1000000) : rrow_vc u0 u1 (fun r => r = rrowS u0 u1) := by
  refine ⟨fun h1 => ?_, fun h1 => ?_⟩
  · have h1 := of_decide_eq_true h1
    have hb := log2_le (n := u0.toNat) (by omega)
    have hl : (fintS u0).length ≤ 63 := by unfold fintS; rw [binS_len]; omega
    have hS : rrowS u0 u1 = if ((fintS u0).length : Int) > u1 then ([], false) else (List.replicate (u1.toNat - (fintS u0).length) 48 ++ fintS u0, true) := by
      unfold rrowS
      rw [if_pos (show 0 < u0 by omega)]
      rfl
    refine ⟨⟨by omega, by omega⟩, fun h2 => ?_, fun h2 => ?_⟩
    · rw [hS, if_pos (of_decide_eq_true h2)]
    · have h2 := of_decide_eq_false h2
      rw [hS, if_neg h2]
      have ew : w64 (u1 - ((fintS u0).length : Int)) = ((u1.toNat - (fintS u0).length : Nat) : Int) := by rw [w64_eq _ (by omega)]; omega
      rw [ew, srep_zero]
      refine ⟨⟨by omega, by omega, by simp only [List.length_cons, List.length_nil]; omega⟩, by rw [List.length_replicate]; omega, rfl⟩
  · have h1 := of_decide_eq_false h1
    have hS : rrowS u0 u1 = if (0 : Int) > u1 then ([], false) else (List.replicate u1.toNat 48, true) := by
      unfold rrowS
      rw [if_neg (show ¬ 0 < u0 by omega)]
      simp
    refine ⟨fun h2 => ?_, fun h2 => ?_⟩
    · rw [hS, if_pos (of_decide_eq_true h2)]
    · have h2 := of_decide_eq_false h2
      have h2 : ¬ (0 : Int) > u1 := h2
      rw [hS, if_neg h2]
      have ew : w64 (u1 - 0) = ((u1.toNat : Nat) : Int) := by
        rw [w64_eq _ (by omega)]; omega
      rw [ew, srep_zero]
      refine ⟨⟨by omega, by omega, by simp only [List.length_cons, List.length_nil]; omega⟩, by rw [List.length_replicate, List.length_nil]; omega, ?_⟩
      rw [List.append_nil]
theorem wr_zeros (n k : Nat) (h : n < 2 ^ k) : ∀ j, wr (j + k) n = List.replicate j 48 ++ wr k n := by
  intro j
  induction j with
  | zero => simp
  | succ j ih =>
    have e : j + 1 + k = (j + k) + 1 := by omega
    rw [e, wr, ih, List.replicate_succ, List.cons_append]
    have : n / 2 ^ (j + k) = 0 := Nat.div_eq_of_lt (Nat.lt_of_lt_of_le h (Nat.pow_le_pow_right (by omega) (by omega)))
    rw [this]
    rfl
theorem wr_split (n b : Nat) : ∀ a, wr (a + b) n = wr a (n / 2 ^ b) ++ wr b n := by
  intro a
  induction a with
  | zero => simp [wr]
  | succ a ih =>
    have e : a + 1 + b = (a + b) + 1 := by omega
    rw [e, wr, ih, wr, List.cons_append, Nat.div_div_eq_div_mul, ← Nat.pow_add, Nat.add_comm b a]
/-- A number that fits, in so many bits. -/
theorem rrow_wr {n size : Int} (h0 : 0 ≤ n) (hs : 0 ≤ size) (h : n.toNat < 2 ^ size.toNat) : rrowS n size = (wr size.toNat n.toNat, true) := by
  unfold rrowS
  by_cases hn : 0 < n
  · rw [if_pos hn, binS_len]
    have hl : Nat.log2 n.toNat < size.toNat := (Nat.log2_lt (by omega)).2 h
    rw [if_neg (by omega)]
    have hb : n.toNat < 2 ^ (Nat.log2 n.toNat + 1) := (Nat.log2_lt (by omega)).1 (by omega)
    have := wr_zeros n.toNat (Nat.log2 n.toNat + 1) hb (size.toNat - (Nat.log2 n.toNat + 1))
    have e : size.toNat - (Nat.log2 n.toNat + 1) + (Nat.log2 n.toNat + 1) = size.toNat := by omega
    rw [e] at this
    rw [this]
    rfl
  · rw [if_neg hn]
    have e : n = 0 := by omega
    subst e
    rw [if_neg (by simp; omega)]
    have := wr_zeros 0 0 (by decide) size.toNat
    rw [Nat.add_zero] at this
    show (List.replicate (size.toNat - 0) 48 ++ [], true) = (wr size.toNat 0, true)
    rw [this]
    rfl

end Go.Proofs.YtocpdhcjkfmmnaaDoor
set_option linter.unusedVariables false
set_option linter.unusedSimpArgs false
namespace Go.Proofs.YtocpdhcjkfmmnaaDoor
open Go.Sy Go.RowKit

/-! Pure proofs: no program in sight. -/

end Go.Proofs.YtocpdhcjkfmmnaaDoor
set_option linter.unusedVariables false
set_option linter.unusedSimpArgs false
namespace Go.Proofs.YtocpdhcjkfmmnaaDoor
open Go.Sy Go.RowKit

/-! Pure proofs: no program in sight. -/

end Go.Proofs.YtocpdhcjkfmmnaaDoor
set_option linter.unusedVariables false
set_option linter.unusedSimpArgs false
namespace Go.Proofs.YtocpdhcjkfmmnaaDoor
open Go.Sy Go.RowKit
def rname_vc (u0 : Frame) (K : (List UInt8) → Prop) : Prop :=
  (u0.Data.length ≤ 140737488355328 →
    ((u0.Remote = true →
      ((u0.Long = true →
        ((u0.ID ≤ 9223372036854775807 ∧ (29 : Int) ≤ 1000000) ∧
        ((0 ≤ (11 : Int) ∧ (11 : Int) ≤ ((rrowS u0.ID 29).1.length : Int)) ∧
        (((((rrowS u0.ID 29).1.take (11 : Int).toNat).length : Int) + (([49, 49] : List UInt8).length : Int) ≤ 9223372036854775807) ∧
        ((0 ≤ (11 : Int) ∧ (11 : Int) ≤ ((rrowS u0.ID 29).1.length : Int)) ∧
        ((((((rrowS u0.ID 29).1.take (11 : Int).toNat) ++ ([49, 49] : List UInt8)).length : Int) + (((rrowS u0.ID 29).1.drop (11 : Int).toNat).length : Int) ≤ 9223372036854775807) ∧
        (((((((rrowS u0.ID 29).1.take (11 : Int).toNat) ++ ([49, 49] : List UInt8)) ++ ((rrowS u0.ID 29).1.drop (11 : Int).toNat)).length : Int) + (([49] : List UInt8).length : Int) ≤ 9223372036854775807) ∧
        (K (((((rrowS u0.ID 29).1.take (11 : Int).toNat) ++ ([49, 49] : List UInt8)) ++ ((rrowS u0.ID 29).1.drop (11 : Int).toNat)) ++ ([49] : List UInt8)))))))))) ∧
      (u0.Long = false →
        ((u0.ID ≤ 9223372036854775807 ∧ (11 : Int) ≤ 1000000) ∧
        ((((rrowS u0.ID 11).1.length : Int) + (([49] : List UInt8).length : Int) ≤ 9223372036854775807) ∧
        (((((rrowS u0.ID 11).1 ++ ([49] : List UInt8)).length : Int) + (([48] : List UInt8).length : Int) ≤ 9223372036854775807) ∧
        (K (((rrowS u0.ID 11).1 ++ ([49] : List UInt8)) ++ ([48] : List UInt8))))))))) ∧
    (u0.Remote = false →
      ((u0.Long = true →
        ((u0.ID ≤ 9223372036854775807 ∧ (29 : Int) ≤ 1000000) ∧
        ((0 ≤ (11 : Int) ∧ (11 : Int) ≤ ((rrowS u0.ID 29).1.length : Int)) ∧
        (((((rrowS u0.ID 29).1.take (11 : Int).toNat).length : Int) + (([49, 49] : List UInt8).length : Int) ≤ 9223372036854775807) ∧
        ((0 ≤ (11 : Int) ∧ (11 : Int) ≤ ((rrowS u0.ID 29).1.length : Int)) ∧
        ((((((rrowS u0.ID 29).1.take (11 : Int).toNat) ++ ([49, 49] : List UInt8)).length : Int) + (((rrowS u0.ID 29).1.drop (11 : Int).toNat).length : Int) ≤ 9223372036854775807) ∧
        (((((((rrowS u0.ID 29).1.take (11 : Int).toNat) ++ ([49, 49] : List UInt8)) ++ ((rrowS u0.ID 29).1.drop (11 : Int).toNat)).length : Int) + (([48] : List UInt8).length : Int) ≤ 9223372036854775807) ∧
        (K (((((rrowS u0.ID 29).1.take (11 : Int).toNat) ++ ([49, 49] : List UInt8)) ++ ((rrowS u0.ID 29).1.drop (11 : Int).toNat)) ++ ([48] : List UInt8)))))))))) ∧
      (u0.Long = false →
        ((u0.ID ≤ 9223372036854775807 ∧ (11 : Int) ≤ 1000000) ∧
        ((((rrowS u0.ID 11).1.length : Int) + (([48] : List UInt8).length : Int) ≤ 9223372036854775807) ∧
        (((((rrowS u0.ID 11).1 ++ ([48] : List UInt8)).length : Int) + (([48] : List UInt8).length : Int) ≤ 9223372036854775807) ∧
        (K (((rrowS u0.ID 11).1 ++ ([48] : List UInt8)) ++ ([48] : List UInt8)))))))))))

def beq_vc (u0 : List Int) (u1 : List Int) (K : Bool → Prop) : Prop :=
  (u0.length ≤ 140737488355328 →
    (u1.length ≤ 140737488355328 →
    ((((u0.length : Int) != (u1.length : Int)) = true →
      (K false)) ∧
    (((u0.length : Int) != (u1.length : Int)) = false →
      (∃ inv37 : Int → Prop, ∃ mu37 : Int → Nat, inv37 0 ∧
      (∀ (x13 : Int), inv37 x13 →
      (((decide (x13 < (u0.length : Int))) = true →
        ((0 ≤ x13 ∧ x13 < (u0.length : Int)) ∧
        (∀ q74, u0[x13.toNat]? = some q74 →
        ((0 ≤ x13 ∧ x13 < (u1.length : Int)) ∧
        (∀ q96, u1[x13.toNat]? = some q96 →
        (((q74 != q96) = true →
          (K false)) ∧
        ((q74 != q96) = false →
          (inv37 (w64 (x13 + 1)) ∧ mu37 (w64 (x13 + 1)) < mu37 x13)))))))) ∧
      ((decide (x13 < (u0.length : Int))) = false →
        (K true)))))))))

/-! Pure proofs: no program in sight. -/
theorem rname_ok (f : Frame) (h : fcheckfr f = 0) : rname_vc f (fun r => r = fnameS f) := by
  obtain ⟨c1, c2, c3, c4, c5, c6, c7, c8, c9, c10⟩ := fcheckfr_zero h
  intro _
  have p29 : (2 : Nat) ^ 29 = 536870912 := rfl
  have p11 : (2 : Nat) ^ 11 = 2048 := rfl
  have hl : rrowS f.ID 29 = (wr 29 f.ID.toNat, true) := rrow_wr c1 (by decide) (by show _ < 2 ^ 29; omega)
  have hs : f.Long = false → rrowS f.ID 11 = (wr 11 f.ID.toNat, true) := fun e => rrow_wr c1 (by decide) (by have := c3 e; show _ < 2 ^ 11; omega)
  have hsp : wr 29 f.ID.toNat = wr 11 (f.ID.toNat / 2 ^ 18) ++ wr 18 f.ID.toNat := wr_split f.ID.toNat 18 11
  have e11 : (11 : Int).toNat = 11 := rfl
  have ht : (wr 29 f.ID.toNat).take 11 = wr 11 (f.ID.toNat / 2 ^ 18) := by rw [hsp]; exact List.take_left' (wr_length _ _)
  have hdr : (wr 29 f.ID.toNat).drop 11 = wr 18 f.ID.toNat := by rw [hsp]; exact List.drop_left' (wr_length _ _)
  rw [hl]
  dsimp only
  rw [e11, ht, hdr]
  refine ⟨fun hR => ⟨fun hL => ?_, fun hL => ?_⟩, fun hR => ⟨fun hL => ?_, fun hL => ?_⟩⟩
  · refine ⟨by omega, by rw [wr_length]; omega, by rw [wr_length]; simp, by rw [wr_length]; omega, by simp [wr_length], by simp [wr_length], ?_⟩
    unfold fnameS
    rw [if_neg (by rw [hL]; simp), hR]
    rfl
  · rw [hs hL]
    refine ⟨by omega, by simp [wr_length], by simp [wr_length], ?_⟩
    unfold fnameS
    rw [if_pos hL, hR]
    rfl
  · refine ⟨by omega, by rw [wr_length]; omega, by rw [wr_length]; simp, by rw [wr_length]; omega, by simp [wr_length], by simp [wr_length], ?_⟩
    unfold fnameS
    rw [if_neg (by rw [hL]; simp), hR]
    rfl
  · rw [hs hL]
    refine ⟨by omega, by simp [wr_length], by simp [wr_length], ?_⟩
    unfold fnameS
    rw [if_pos hL, hR]
    rfl
def beqS (a b : List Int) : Bool := decide (a = b)
theorem list_eq_at {α : Type} {a b : List α} (hl : a.length = b.length) (h : ∀ (k : Nat) (x y : α), a[k]? = some x → b[k]? = some y → x = y) : a = b := by
  apply List.ext_getElem? 
  intro k
  rcases Nat.lt_or_ge k a.length with hk | hk
  · have h1 := List.getElem?_eq_getElem hk
    have h2 := List.getElem?_eq_getElem (l := b) (show k < b.length by omega)
    rw [h1, h2, h k _ _ h1 h2]
  · rw [List.getElem?_eq_none hk, List.getElem?_eq_none (by omega)]
theorem beq_ok (a b : List Int) : beq_vc a b (fun r => r = beqS a b) := by
  intro ha hb
  refine ⟨fun h => ?_, fun h => ?_⟩
  · have h : ¬ (a.length : Int) = (b.length : Int) := by simpa using h
    unfold beqS
    rw [decide_eq_false]
    intro e
    rw [e] at h
    exact h rfl
  · have h : a.length = b.length := by
      have h : (a.length : Int) = (b.length : Int) := by simpa only [bne_eq_false_iff_eq] using h
      omega
    refine ⟨fun i => ∃ k : Nat, i = k ∧ k ≤ a.length ∧ ∀ (j : Nat) (x y : Int), j < k → a[j]? = some x → b[j]? = some y → x = y, fun i => a.length - i.toNat, ⟨0, rfl, by omega, fun j _ _ hj => absurd hj (Nat.not_lt_zero _)⟩, ?_⟩
    rintro _ ⟨k, rfl, hk, hj⟩
    refine ⟨fun h1 => ?_, fun h1 => ?_⟩
    · have hk : k < a.length := by have := of_decide_eq_true h1; omega
      rw [w64_succ k (by omega)]
      refine ⟨by omega, fun q hq => ⟨by omega, fun p hp => ⟨fun h2 => ?_, fun h2 => ?_⟩⟩⟩
      · unfold beqS
        rw [decide_eq_false]
        rintro rfl
        rw [hq] at hp
        cases hp
        simp at h2
      · have h2 : q = p := by simpa using h2
        rw [Int.toNat_natCast] at hq hp
        refine ⟨⟨k + 1, rfl, by omega, fun j x y hj1 hx hy => ?_⟩, by (try dsimp only); omega⟩
        rcases Nat.lt_or_ge j k with hc | hc
        · exact hj j x y hc hx hy
        · have : j = k := by omega
          subst this
          rw [hq] at hx
          rw [hp] at hy
          cases hx; cases hy; exact h2
    · have : k = a.length := by have := of_decide_eq_false h1; omega
      subst this
      unfold beqS
      rw [decide_eq_true]
      exact list_eq_at h fun k x y hx hy => hj k x y (List.getElem?_eq_some_iff.1 hx).1 hx hy
def scmpS : List UInt8 → List UInt8 → Int
  | [], [] => 0
  | [], _ :: _ => -1
  | _ :: _, [] => 1
  | a :: as, b :: bs => if a < b then -1 else if b < a then 1 else scmpS as bs
theorem scmp_lt : ∀ a b : List UInt8, scmpS a b < 0 ↔ lexle b a = false
  | [], [] => by simp [scmpS, lexle]
  | [], _ :: _ => by simp [scmpS, lexle]
  | _ :: _, [] => by simp [scmpS, lexle]
  | x :: a, y :: b => by
    rw [scmpS, lexle]
    by_cases h1 : x < y
    · have h2 := UInt8.lt_iff_toNat_lt.1 h1
      have h3 : ¬ y = x := fun e => by subst e; omega
      rw [if_pos h1, if_neg h3, decide_eq_false (by rw [UInt8.lt_iff_toNat_lt]; omega)]
      simp
    · rw [if_neg h1]
      by_cases h2 : y < x
      · have h4 := UInt8.lt_iff_toNat_lt.1 h2
        have h3 : ¬ y = x := fun e => by subst e; omega
        rw [if_pos h2, if_neg h3, decide_eq_true h2]
        simp
      · rw [UInt8.lt_iff_toNat_lt] at h1 h2
        have h3 : y = x := UInt8.toNat_inj.1 (by omega)
        rw [if_neg (by rw [UInt8.lt_iff_toNat_lt]; omega), if_pos h3]
        exact scmp_lt a b

end Go.Proofs.YtocpdhcjkfmmnaaDoor
set_option linter.unusedVariables false
set_option linter.unusedSimpArgs false
namespace Go.Proofs.YtocpdhcjkfmmnaaDoor
open Go.Sy Go.RowKit
def fSame_vc (u0 : Frame) (u1 : Frame) (K : Bool → Prop) : Prop :=
  (u0.Data.length ≤ 140737488355328 →
    (u1.Data.length ≤ 140737488355328 →
    (K ((((((u0.ID == u1.ID) && (u0.Long == u1.Long)) && (u0.Fast == u1.Fast)) && (u0.Remote == u1.Remote)) && (u0.Size == u1.Size)) && (beqS u0.Data u1.Data)))))

def rcl_vc (u0 : Frame) (u1 : Frame) (K : Int → Prop) : Prop :=
  (u0.Data.length ≤ 140737488355328 →
    (u1.Data.length ≤ 140737488355328 →
    ((fcheckfr u0 = 0) ∧
    ((fcheckfr u1 = 0) ∧
    (K (scmpS (fnameS u0) (fnameS u1)))))))

/-! Pure proofs: no program in sight. -/
def sameS (a b : Frame) : Bool := decide (a = b)
theorem same_eq (a b : Frame) : ((((((a.ID == b.ID) && (a.Long == b.Long)) && (a.Fast == b.Fast)) && (a.Remote == b.Remote)) && (a.Size == b.Size)) && (beqS a.Data b.Data)) = sameS a b := by
  obtain ⟨a1, a2, a3, a4, a5, a6⟩ := a
  obtain ⟨b1, b2, b3, b4, b5, b6⟩ := b
  rw [Bool.eq_iff_iff]
  simp [sameS, beqS, and_assoc]
theorem fSame_ok (a b : Frame) : fSame_vc a b (fun r => r = sameS a b) := fun _ _ => same_eq a b
def rclS (a b : Frame) : Int := scmpS (fnameS a) (fnameS b)
theorem rcl_ok (a b : Frame) (h : fcheckfr a = 0 ∧ fcheckfr b = 0) : rcl_vc a b (fun r => r = rclS a b) := fun _ _ => ⟨h.1, h.2, rfl⟩
theorem rcl_lt {a b : Frame} (ha : fcheckfr a = 0) (hb : fcheckfr b = 0) : rclS a b < 0 ↔ qle b a = false := by
  have e : qle b a = lexle (fnameS b) (fnameS a) := by unfold qle; rw [nm_ok ha, nm_ok hb]
  rw [e]
  exact scmp_lt _ _

end Go.Proofs.YtocpdhcjkfmmnaaDoor
set_option linter.unusedVariables false
set_option linter.unusedSimpArgs false
namespace Go.Proofs.YtocpdhcjkfmmnaaDoor
open Go.Sy Go.RowKit
def sins_vc (u0 : List Frame) (u1 : Int) (u2 : Int) (K : (List Frame) → Prop) : Prop :=
  (u0.length ≤ 140737488355328 →
    (∃ inv12 : Int → (List Frame) → Prop, ∃ mu12 : Int → (List Frame) → Nat, inv12 (w64 (u1 + 1)) u0 ∧
    (∀ (x8 : Int) (zao1 : List Frame), inv12 x8 zao1 →
    (((decide (x8 < u2)) = true →
      (∃ inv40 : Int → (List Frame) → Prop, ∃ mu40 : Int → (List Frame) → Nat, inv40 x8 zao1 ∧
      (∀ (x9 : Int) (zao1v : List Frame), inv40 x9 zao1v →
      (((decide (x9 > u1)) = true →
        ((0 ≤ x9 ∧ x9 < (zao1v.length : Int)) ∧
        (∀ qd8_0, zao1v[x9.toNat]? = some qd8_0 →
        ((0 ≤ w64 (x9 - 1) ∧ w64 (x9 - 1) < (zao1v.length : Int)) ∧
        (∀ qd13_0, zao1v[(w64 (x9 - 1)).toNat]? = some qd13_0 →
        ((fcheckfr qd8_0 = 0 ∧ fcheckfr qd13_0 = 0) ∧
        (((decide ((rclS qd8_0 qd13_0) < 0)) = true →
          ((0 ≤ w64 (x9 - 1) ∧ w64 (x9 - 1) < (zao1v.length : Int)) ∧
          (∀ qd9_0, zao1v[(w64 (x9 - 1)).toNat]? = some qd9_0 →
          ((0 ≤ x9 ∧ x9 < (zao1v.length : Int)) ∧
          (∀ qd13_0, zao1v[x9.toNat]? = some qd13_0 →
          ((0 ≤ x9 ∧ x9 < (zao1v.length : Int)) ∧
          ((0 ≤ w64 (x9 - 1) ∧ w64 (x9 - 1) < (zao1v.length : Int)) ∧
          (inv40 (w64 (x9 - 1)) ((zao1v.set x9.toNat qd9_0).set (w64 (x9 - 1)).toNat qd13_0) ∧ mu40 (w64 (x9 - 1)) ((zao1v.set x9.toNat qd9_0).set (w64 (x9 - 1)).toNat qd13_0) < mu40 x9 zao1v)))))))) ∧
        ((decide ((rclS qd8_0 qd13_0) < 0)) = false →
          (inv12 (w64 (x8 + 1)) zao1v ∧ mu12 (w64 (x8 + 1)) zao1v < mu12 x8 zao1))))))))) ∧
      ((decide (x9 > u1)) = false →
        (inv12 (w64 (x8 + 1)) zao1v ∧ mu12 (w64 (x8 + 1)) zao1v < mu12 x8 zao1)))))) ∧
    ((decide (x8 < u2)) = false →
      ((zao1.length = u0.length) ∧
      (K zao1)))))))

/-! Pure proofs: no program in sight. -/
theorem ins_at {s : List Frame} {x : Frame} {j : Nat} (hj : j ≤ s.length) (h1 : ∀ (i : Nat) (y : Frame), i < j → s[i]? = some y → qle y x = true) (h2 : ∀ y, s[j]? = some y → qle y x = false) : qins x s = s.take j ++ x :: s.drop j := by
  have h := tw_len (p := fun y => qle y x) s j hj h1 h2
  have e := ins_place s x
  unfold placeS insS at e
  rw [h, Int.toNat_natCast] at e
  rw [← e]; simp
theorem swp (P : List Frame) (y x : Frame) (C : List Frame) : ((P ++ y :: x :: C).set (P.length + 1) y).set P.length x = P ++ x :: y :: C := by
  induction P with
  | nil => rfl
  | cons p P ih => simp
def sinsS (l : List Frame) (_ _ : Int) : List Frame := mgS [] l
theorem sins_ok (l : List Frame) (a b : Int) (h : a = 0 ∧ b = (l.length : Int) ∧ l.length ≤ 1000 ∧ ∀ f ∈ l, fcheckfr f = 0) : sins_vc l a b (fun r => r = sinsS l a b) := by
  obtain ⟨rfl, rfl, hl, hv⟩ := h
  intro _
  have e1 : w64 ((0 : Int) + 1) = 1 := by decide
  rw [e1]
  have hone : mgS [] (l.take 1) ++ l.drop 1 = l := by
    cases l with
    | nil => rfl
    | cons x r => rfl
  refine ⟨fun i z => ∃ k : Nat, i = k ∧ 1 ≤ k ∧ (k ≤ l.length ∨ k = 1) ∧ z = mgS [] (l.take k) ++ l.drop k, fun i _ => ((l.length : Int) - i).toNat, ⟨1, rfl, by omega, .inr rfl, hone.symm⟩, ?_⟩
  rintro _ _ ⟨k, rfl, hk1, hk, rfl⟩
  refine ⟨fun h1 => ?_, fun h1 => ?_⟩
  · have h1 : k < l.length := by simpa using h1
    obtain ⟨x, hx⟩ : ∃ x, l[k]? = some x := ⟨_, List.getElem?_eq_getElem h1⟩
    have hxl : x ∈ l := List.mem_of_getElem? hx
    have hdr : l.drop k = x :: l.drop (k + 1) := by
      obtain ⟨_, e⟩ := List.getElem?_eq_some_iff.1 hx
      rw [List.drop_eq_getElem_cons h1, e]
    have hsl : (mgS [] (l.take k)).length = k := by rw [mg_len, List.length_take, List.length_nil]; omega
    have hsq : Qs (mgS [] (l.take k)) := mg_Qs _ _ List.Pairwise.nil
    have hsv : ∀ y ∈ mgS [] (l.take k), fcheckfr y = 0 := fun y hy => ((mg_mem _ _ y).1 hy).elim (fun h => by cases h) (fun h => hv y (List.mem_of_mem_take h))
    have hnext : mgS [] (l.take (k + 1)) = qins x (mgS [] (l.take k)) := by rw [List.take_add_one, hx]; exact mg_snoc _ _ _
    generalize mgS [] (l.take k) = s at hsl hsq hsv hnext ⊢
    rw [hdr]
    -- where x stands among s
    have done : ∀ j : Nat, j ≤ k → (∀ (i : Nat) (y : Frame), i < j → s[i]? = some y → qle y x = true) → (∀ (i : Nat) (y : Frame), j ≤ i → s[i]? = some y → qle y x = false) → ∃ q : Nat, w64 ((k : Int) + 1) = q ∧ 1 ≤ q ∧ (q ≤ l.length ∨ q = 1) ∧ s.take j ++ x :: (s.drop j ++ l.drop (k + 1)) = mgS [] (l.take q) ++ l.drop q := by
      intro j hj a1 a2
      rw [w64_succ k (by omega)]
      refine ⟨k + 1, rfl, by omega, .inl (by omega), ?_⟩
      rw [hnext, ins_at (by omega) a1 (fun y hy => a2 j y (Nat.le_refl _) hy)]
      simp
    have hmu : w64 ((k : Int) + 1) = ((k + 1 : Nat) : Int) := w64_succ k (by omega)
    refine ⟨fun i z => ∃ j : Nat, i = j ∧ j ≤ k ∧ z = s.take j ++ x :: (s.drop j ++ l.drop (k + 1)) ∧ ∀ (i : Nat) (y : Frame), j ≤ i → s[i]? = some y → qle y x = false, fun i _ => i.toNat, ⟨k, rfl, Nat.le_refl _, by rw [show s.take k = s from List.take_of_length_le (by omega), show s.drop k = [] from List.drop_eq_nil_of_le (by omega)]; rfl, fun i y hi hy => by rw [List.getElem?_eq_none (by omega)] at hy; cases hy⟩, ?_⟩
    rintro _ _ ⟨j, rfl, hj, rfl, ha⟩
    have hzl : (s.take j ++ x :: (s.drop j ++ l.drop (k + 1))).length = l.length := by simp only [List.length_append, List.length_cons, List.length_take, List.length_drop]; omega
    refine ⟨fun h2 => ?_, fun h2 => ?_⟩
    · have h2 : 0 < j := by have := of_decide_eq_true h2; omega
      obtain ⟨i, rfl⟩ : ∃ i, j = i + 1 := ⟨j - 1, by omega⟩
      obtain ⟨y, hy⟩ : ∃ y, s[i]? = some y := ⟨_, List.getElem?_eq_getElem (by omega)⟩
      have ew : w64 (((i + 1 : Nat) : Int) - 1) = (i : Int) := by rw [w64_eq _ (by omega)]; omega
      have ez : s.take (i + 1) ++ x :: (s.drop (i + 1) ++ l.drop (k + 1)) = s.take i ++ y :: x :: (s.drop (i + 1) ++ l.drop (k + 1)) := by rw [List.take_add_one, hy]; simp
      have hpl : (s.take i).length = i := by rw [List.length_take]; omega
      have gx : (s.take i ++ y :: x :: (s.drop (i + 1) ++ l.drop (k + 1)))[i + 1]? = some x := by rw [List.getElem?_append_right (by omega), hpl]; simp
      have gy : (s.take i ++ y :: x :: (s.drop (i + 1) ++ l.drop (k + 1)))[i]? = some y := by rw [List.getElem?_append_right (by omega), hpl]; simp
      rw [ew, hzl]
      rw [ez]
      simp only [Int.toNat_natCast]
      refine ⟨by omega, fun x' hx' => ⟨by omega, fun y' hy' => ?_⟩⟩
      rw [gx] at hx'; cases hx'
      rw [gy] at hy'; cases hy'
      have hvy := hsv y (List.mem_of_getElem? hy)
      have hvx := hv x hxl
      refine ⟨⟨hvx, hvy⟩, fun h3 => ?_, fun h3 => ?_⟩
      · have h3 : qle y x = false := (rcl_lt hvx hvy).1 (of_decide_eq_true h3)
        refine ⟨by omega, fun y' hy' => ⟨by omega, fun x' hx' => ⟨by omega, by omega, ?_⟩⟩⟩
        rw [gy] at hy'; cases hy'
        rw [gx] at hx'; cases hx'
        have hsw := swp (s.take i) y x (s.drop (i + 1) ++ l.drop (k + 1))
        rw [hpl] at hsw
        rw [hsw]
        refine ⟨⟨i, rfl, by omega, ?_, fun q z hq hz => ?_⟩, by (try dsimp only); omega⟩
        · have hd : s.drop i = y :: s.drop (i + 1) := by
            obtain ⟨h5, e⟩ := List.getElem?_eq_some_iff.1 hy
            rw [List.drop_eq_getElem_cons h5, e]
          rw [hd]; rfl
        · rcases Nat.lt_or_ge i q with hlt | hge
          · exact ha q z hlt hz
          · have : q = i := by omega
            subst this
            rw [hy] at hz; cases hz; exact h3
      · have h3 : qle y x = true := by
          have h4 : ¬ rclS x y < 0 := of_decide_eq_false h3
          cases h5 : qle y x with
          | true => rfl
          | false => exact absurd ((rcl_lt hvx hvy).2 h5) h4
        have hd := done (i + 1) hj (fun q z hq hz => by
          rcases Nat.lt_or_ge q i with hlt | hge
          · have hP := List.pairwise_iff_getElem.1 hsq
            obtain ⟨a1, a2⟩ := List.getElem?_eq_some_iff.1 hz
            obtain ⟨b1, b2⟩ := List.getElem?_eq_some_iff.1 hy
            have := hP q i a1 b1 hlt
            rw [a2, b2] at this
            exact qle_trans this h3
          · have : q = i := by omega
            subst this
            rw [hy] at hz; cases hz; exact h3) ha
        rw [ez] at hd
        exact ⟨hd, by rw [hmu]; (try dsimp only); omega⟩
    · have h2 : j = 0 := by have := of_decide_eq_false h2; omega
      subst h2
      exact ⟨done 0 (by omega) (fun i y hi => by omega) ha, by rw [hmu]; (try dsimp only); omega⟩
  · have h1 : l.length ≤ k := by have := of_decide_eq_false h1; omega
    rw [List.take_of_length_le h1, List.drop_eq_nil_of_le h1, List.append_nil]
    refine ⟨by rw [mg_len, List.length_nil]; omega, rfl⟩

end Go.Proofs.YtocpdhcjkfmmnaaDoor
set_option linter.unusedVariables false
set_option linter.unusedSimpArgs false
namespace Go.Proofs.YtocpdhcjkfmmnaaDoor
open Go.Sy Go.RowKit
def sstab_vc (u0 : List Frame) (u1 : Int) (K : (List Frame) → Prop) : Prop :=
  (u0.length ≤ 140737488355328 →
    (∃ inv15 : Int → Int → Prop, ∃ mu15 : Int → Int → Nat, inv15 0 20 ∧
    (∀ (x7 : Int) (x8 : Int), inv15 x7 x8 →
    (((decide (x8 ≤ u1)) = false) ∧
    ((x7 = 0 ∧ u1 = (u0.length : Int) ∧ u0.length ≤ 1000 ∧ ∀ f ∈ u0, fcheckfr f = 0) ∧
    ((sinsS u0 x7 u1).length ≤ 140737488355328 →
    (∃ inv60 : Int → Prop, ∃ mu60 : Int → Nat, inv60 20 ∧
    (∀ (x6 : Int), inv60 x6 →
    (((decide (x6 < u1)) = false) ∧
    (((sinsS u0 x7 u1).length = u0.length) ∧
    (K (sinsS u0 x7 u1))))))))))))

/-! Pure proofs: no program in sight. -/
def sstabS (l : List Frame) (_ : Int) : List Frame := mgS [] l
theorem mg0_len (l : List Frame) : (mgS [] l).length = l.length := by rw [mg_len, List.length_nil]; omega
theorem sstab_ok (l : List Frame) (n : Int) (h : n = (l.length : Int) ∧ l.length ≤ 19 ∧ ∀ f ∈ l, fcheckfr f = 0) : sstab_vc l n (fun r => r = sstabS l n) := by
  obtain ⟨rfl, hl, hv⟩ := h
  intro _
  refine ⟨fun x y => x = 0 ∧ y = 20, fun _ _ => 0, ⟨rfl, rfl⟩, ?_⟩
  rintro _ _ ⟨rfl, rfl⟩
  refine ⟨decide_eq_false (by omega), ⟨rfl, rfl, by omega, hv⟩, fun _ => ⟨fun x => x = 20, fun _ => 0, rfl, ?_⟩⟩
  rintro _ rfl
  exact ⟨decide_eq_false (by omega), mg0_len l, rfl⟩

end Go.Proofs.YtocpdhcjkfmmnaaDoor
set_option linter.unusedVariables false
set_option linter.unusedSimpArgs false
namespace Go.Proofs.YtocpdhcjkfmmnaaDoor
open Go.Sy Go.RowKit
def ssort_vc (u0 : List Frame) (K : (List Frame) → Prop) : Prop :=
  (u0.length ≤ 140737488355328 →
    (((u0.length : Int) = (u0.length : Int) ∧ u0.length ≤ 19 ∧ ∀ f ∈ u0, fcheckfr f = 0) ∧
    ((sstabS u0 (u0.length : Int)).length ≤ 140737488355328 →
    (((sstabS u0 (u0.length : Int)).length = u0.length) ∧
    (K (sstabS u0 (u0.length : Int)))))))

/-! Pure proofs: no program in sight. -/
def ssortS (l : List Frame) : List Frame := mgS [] l
theorem ssort_ok (l : List Frame) (h : l.length ≤ 19 ∧ ∀ f ∈ l, fcheckfr f = 0) : ssort_vc l (fun r => r = ssortS l) :=
  fun _ => ⟨⟨rfl, h.1, h.2⟩, fun _ => ⟨mg0_len l, rfl⟩⟩

end Go.Proofs.YtocpdhcjkfmmnaaDoor
set_option linter.unusedVariables false
set_option linter.unusedSimpArgs false
namespace Go.Proofs.YtocpdhcjkfmmnaaDoor
open Go.Sy Go.RowKit
def LRow_vc (u0 : List Frame) (K : Bool → Prop) : Prop :=
  (u0.length ≤ 140737488355328 →
    (∃ inv22 : (List Frame) → (List Frame) → Int → Prop, ∃ mu22 : (List Frame) → (List Frame) → Int → Nat, inv22 ([] : List Frame) ([] : List Frame) 0 ∧
    (∀ (x3 : List Frame) (x4 : List Frame) (x16 : Int), inv22 x3 x4 x16 →
    (((decide (x16 < (u0.length : Int))) = true →
      ((0 ≤ x16 ∧ x16 < (u0.length : Int)) ∧
      (∀ q49, u0[x16.toNat]? = some q49 →
      (q49.Data.length ≤ 140737488355328 →
      ((putS x3 q49).1.length ≤ 140737488355328 →
      ((((putS x3 q49).2 == 0) = true →
        (((x4.length + 1) * 48 ≤ 140737488355328) ∧
        (inv22 (putS x3 q49).1 (x4 ++ [q49]) (w64 (x16 + 1)) ∧ mu22 (putS x3 q49).1 (x4 ++ [q49]) (w64 (x16 + 1)) < mu22 x3 x4 x16))) ∧
      (((putS x3 q49).2 == 0) = false →
        (inv22 x3 x4 (w64 (x16 + 1)) ∧ mu22 x3 x4 (w64 (x16 + 1)) < mu22 x3 x4 x16)))))))) ∧
    ((decide (x16 < (u0.length : Int))) = false →
      (((((qcheckS x3) != 0) || ((x3.length : Int) != (x4.length : Int))) = true →
        (K false)) ∧
      ((((qcheckS x3) != 0) || ((x3.length : Int) != (x4.length : Int))) = false →
        ((x4.length ≤ 19 ∧ ∀ f ∈ x4, fcheckfr f = 0) ∧
        ((ssortS x4).length ≤ 140737488355328 →
        (∃ inv205 : (List Frame) → Int → Prop, ∃ mu205 : (List Frame) → Int → Nat, inv205 x3 0 ∧
        (∀ (x3v : List Frame) (x52 : Int), inv205 x3v x52 →
        (((decide (x52 < ((ssortS x4).length : Int))) = true →
          ((0 ≤ x52 ∧ x52 < ((ssortS x4).length : Int)) ∧
          (∀ q234, (ssortS x4)[x52.toNat]? = some q234 →
          (q234.Data.length ≤ 140737488355328 →
          ((takeS x3v).1.Data.length ≤ 140737488355328 →
          ((takeS x3v).2.1.length ≤ 140737488355328 →
          (((((takeS x3v).2.2 != 0) || (!(sameS (takeS x3v).1 q234))) = true →
            (K false)) ∧
          ((((takeS x3v).2.2 != 0) || (!(sameS (takeS x3v).1 q234))) = false →
            (inv205 (takeS x3v).2.1 (w64 (x52 + 1)) ∧ mu205 (takeS x3v).2.1 (w64 (x52 + 1)) < mu205 x3v x52))))))))) ∧
        ((decide (x52 < ((ssortS x4).length : Int))) = false →
          (K ((x3v.length : Int) == 0)))))))))))))))

/-! Pure proofs: no program in sight. -/
theorem put_zero {q : List Frame} {f : Frame} (h : (putS q f).2 = 0) : qcheckS q = 0 ∧ fcheckfr f = 0 ∧ q.length ≠ 16 ∧ (putS q f).1 = qins f q := by
  unfold putS at h ⊢
  by_cases h1 : qcheckS q = 0
  · rw [if_neg (fun k => k h1)] at h ⊢
    by_cases h2 : fcheckfr f = 0
    · rw [if_neg (fun k => k h2)] at h ⊢
      by_cases h3 : q.length = 16
      · rw [if_pos h3] at h; exact absurd h (by decide)
      · rw [if_neg h3]; exact ⟨h1, h2, h3, rfl⟩
    · rw [if_pos h2] at h; exact absurd h h2
  · rw [if_pos h1] at h; exact absurd h h1
theorem LRow_ok (l : List Frame) : LRow_vc l (fun r => r = true) := by
  intro hl
  refine ⟨fun q w i => ∃ k : Nat, i = k ∧ k ≤ l.length ∧ q = mgS [] w ∧ qcheckS q = 0 ∧ ∀ f ∈ w, fcheckfr f = 0, fun _ _ i => ((l.length : Int) - i).toNat, ⟨0, rfl, by omega, rfl, by decide, fun f hf => by cases hf⟩, ?_⟩
  rintro _ w _ ⟨k, rfl, hk, rfl, hc, hv⟩
  obtain ⟨c1, c2, c3⟩ := qcheck_zero.1 hc
  rw [mg0_len] at c1
  refine ⟨fun h1 => ?_, fun h1 => ?_⟩
  · have h1 : k < l.length := by simpa using h1
    refine ⟨by omega, fun q hq _ _ => ⟨fun h2 => ⟨by omega, ?_⟩, fun h2 => ?_⟩⟩
    · have h2 := put_zero (eq_of_beq h2)
      rw [w64_succ k (by omega), h2.2.2.2]
      refine ⟨⟨k + 1, rfl, by omega, (mg_snoc [] w q).symm, ?_, fun f hf => ?_⟩, by dsimp only; omega⟩
      · refine qcheck_zero.2 ⟨?_, fun f hf => ?_, c3.ins q⟩
        · have := h2.2.2.1
          rw [qins_length, mg0_len]
          rw [mg0_len] at this
          omega
        · rcases qins_mem.1 hf with rfl | hf
          · exact h2.2.1
          · exact c2 f hf
      · rcases List.mem_append.1 hf with hf | hf
        · exact hv f hf
        · have : f = q := by simpa using hf
          rw [this]; exact h2.2.1
    · rw [w64_succ k (by omega)]
      exact ⟨⟨k + 1, rfl, by omega, rfl, hc, hv⟩, by dsimp only; omega⟩
  · refine ⟨fun h2 => ?_, fun _ => ⟨⟨by omega, hv⟩, fun _ => ?_⟩⟩
    · rw [hc, mg0_len] at h2; simp at h2
    · show ∃ inv205 : List Frame → Int → Prop, _
      have hs : ssortS w = mgS [] w := rfl
      rw [hs]
      generalize mgS [] w = s at hc c2 c3
      refine ⟨fun y i => ∃ k : Nat, i = k ∧ k ≤ s.length ∧ y = s.drop k, fun _ i => ((s.length : Int) - i).toNat, ⟨0, rfl, by omega, rfl⟩, ?_⟩
      have hsl := (qcheck_zero.1 hc).1
      rintro _ _ ⟨k, rfl, hk, rfl⟩
      refine ⟨fun h1 => ?_, fun h1 => ?_⟩
      · have h1 : k < s.length := by simpa using h1
        refine ⟨by omega, fun q hq _ _ _ => ?_⟩
        rw [Int.toNat_natCast] at hq
        obtain ⟨_, e⟩ := List.getElem?_eq_some_iff.1 hq
        have hd : s.drop k = q :: s.drop (k + 1) := by rw [List.drop_eq_getElem_cons h1, e]
        have hck : qcheckS (s.drop k) = 0 := qcheck_zero.2 ⟨by rw [List.length_drop]; omega, fun f hf => c2 f (List.mem_of_mem_drop hf), c3.sublist (List.drop_sublist _ _)⟩
        have ht : takeS (s.drop k) = (q, s.drop (k + 1), 0) := by
          unfold takeS
          rw [if_neg (fun c => c hck), hd]
        rw [ht]
        refine ⟨fun h2 => by simp [sameS] at h2, fun _ => ?_⟩
        rw [w64_succ k (by omega)]
        exact ⟨⟨k + 1, rfl, by omega, rfl⟩, by dsimp only; omega⟩
      · have h1 : s.length ≤ k := by have := of_decide_eq_false h1; omega
        rw [List.drop_eq_nil_of_le h1]
        rfl
theorem LRow_ok2 (l : List Frame) {A : Prop} (_ : A) : LRow_vc l (fun r => r = true) := LRow_ok l

end Go.Proofs.YtocpdhcjkfmmnaaDoor
