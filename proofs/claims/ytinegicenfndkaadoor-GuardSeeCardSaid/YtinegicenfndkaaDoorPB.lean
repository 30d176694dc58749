/- What must hold so that each function ends well: pure predicates, made by program. -/
import Derived.Test.YtinegicenfndkaaDoorPA
set_option linter.unusedVariables false
set_option linter.unusedSimpArgs false
namespace Go.Proofs.YtinegicenfndkaaDoor
open Go.Sy Go.RowKit
def bnumber_vc (u0 : List UInt8) (K : (Int × Int) → Prop) : Prop :=
  ((((bcheckS u0) != 0) = true →
      (K (0, (bcheckS u0)))) ∧
    (((bcheckS u0) != 0) = false →
      (((decide ((u0.length : Int) > 62)) = true →
        (K (0, 2))) ∧
      ((decide ((u0.length : Int) > 62)) = false →
        ((u0.length ≤ 62 ∧ isRow u0 = true) ∧
        (K (w64 (breadS u0), 0)))))))

def bof_vc (u0 : List Int) (K : ((List UInt8) × Int) → Prop) : Prop :=
  (u0.length ≤ 140737488355328 →
    (((decide ((u0.length : Int) > 125)) = true →
      (K ([], 2))) ∧
    ((decide ((u0.length : Int) > 125)) = false →
      (∃ inv39 : Int → (List UInt8) → Prop, ∃ mu39 : Int → (List UInt8) → Nat, inv39 0 ([] : List UInt8) ∧
      (∀ (x12 : Int) (yb26 : List UInt8), inv39 x12 yb26 →
      (((decide (x12 < (u0.length : Int))) = true →
        ((0 ≤ x12 ∧ x12 < (u0.length : Int)) ∧
        (∀ q64, u0[x12.toNat]? = some q64 →
        ((0 ≤ (8 : Int) ∧ (8 : Int) ≤ 64 ∧ 0 ≤ (wu64 q64) ∧ (wu64 q64) < 2 ^ 62) ∧
        ((yb26.length + (bwriteS (wu64 q64) 8).length ≤ 140737488355328) ∧
        (inv39 (w64 (x12 + 1)) (yb26 ++ (bwriteS (wu64 q64) 8)) ∧ mu39 (w64 (x12 + 1)) (yb26 ++ (bwriteS (wu64 q64) 8)) < mu39 x12 yb26)))))) ∧
      ((decide (x12 < (u0.length : Int))) = false →
        (K (yb26, 0)))))))))

def csum_vc (u0 : Int) (u1 : List UInt8) (K : ((List UInt8) × Int) → Prop) : Prop :=
  ((((bcheckS u1) != 0) = true →
      (K ([], (bcheckS u1)))) ∧
    (((bcheckS u1) != 0) = false →
      ((((decide (u0 < 0)) || (decide (u0 ≥ 5))) = true →
        (K ([], 8))) ∧
      (((decide (u0 < 0)) || (decide (u0 ≥ 5))) = false →
        ((0 ≤ u0 ∧ u0 < 5) ∧
        ((okKindS (⟨([ckinds.1.Size, ckinds.2.1.Size, ckinds.2.2.1.Size, ckinds.2.2.2.1.Size, ckinds.2.2.2.2.Size] : List Int).getD u0.toNat 0, ([ckinds.1.Poly, ckinds.2.1.Poly, ckinds.2.2.1.Poly, ckinds.2.2.2.1.Poly, ckinds.2.2.2.2.Poly] : List Int).getD u0.toNat 0, ([ckinds.1.From, ckinds.2.1.From, ckinds.2.2.1.From, ckinds.2.2.2.1.From, ckinds.2.2.2.2.From] : List Int).getD u0.toNat 0, ([ckinds.1.End, ckinds.2.1.End, ckinds.2.2.1.End, ckinds.2.2.2.1.End, ckinds.2.2.2.2.End] : List Int).getD u0.toNat 0⟩ : Kind) ∧ u1.length ≤ 1000000) ∧
        ((0 ≤ (([ckinds.1.Size, ckinds.2.1.Size, ckinds.2.2.1.Size, ckinds.2.2.2.1.Size, ckinds.2.2.2.2.Size] : List Int).getD u0.toNat 0) ∧ (([ckinds.1.Size, ckinds.2.1.Size, ckinds.2.2.1.Size, ckinds.2.2.2.1.Size, ckinds.2.2.2.2.Size] : List Int).getD u0.toNat 0) ≤ 64 ∧ 0 ≤ (ksumS (⟨([ckinds.1.Size, ckinds.2.1.Size, ckinds.2.2.1.Size, ckinds.2.2.2.1.Size, ckinds.2.2.2.2.Size] : List Int).getD u0.toNat 0, ([ckinds.1.Poly, ckinds.2.1.Poly, ckinds.2.2.1.Poly, ckinds.2.2.2.1.Poly, ckinds.2.2.2.2.Poly] : List Int).getD u0.toNat 0, ([ckinds.1.From, ckinds.2.1.From, ckinds.2.2.1.From, ckinds.2.2.2.1.From, ckinds.2.2.2.2.From] : List Int).getD u0.toNat 0, ([ckinds.1.End, ckinds.2.1.End, ckinds.2.2.1.End, ckinds.2.2.2.1.End, ckinds.2.2.2.2.End] : List Int).getD u0.toNat 0⟩ : Kind) u1) ∧ (ksumS (⟨([ckinds.1.Size, ckinds.2.1.Size, ckinds.2.2.1.Size, ckinds.2.2.2.1.Size, ckinds.2.2.2.2.Size] : List Int).getD u0.toNat 0, ([ckinds.1.Poly, ckinds.2.1.Poly, ckinds.2.2.1.Poly, ckinds.2.2.2.1.Poly, ckinds.2.2.2.2.Poly] : List Int).getD u0.toNat 0, ([ckinds.1.From, ckinds.2.1.From, ckinds.2.2.1.From, ckinds.2.2.2.1.From, ckinds.2.2.2.2.From] : List Int).getD u0.toNat 0, ([ckinds.1.End, ckinds.2.1.End, ckinds.2.2.1.End, ckinds.2.2.2.1.End, ckinds.2.2.2.2.End] : List Int).getD u0.toNat 0⟩ : Kind) u1) < 2 ^ 62) ∧
        (K ((bwriteS (ksumS (⟨([ckinds.1.Size, ckinds.2.1.Size, ckinds.2.2.1.Size, ckinds.2.2.2.1.Size, ckinds.2.2.2.2.Size] : List Int).getD u0.toNat 0, ([ckinds.1.Poly, ckinds.2.1.Poly, ckinds.2.2.1.Poly, ckinds.2.2.2.1.Poly, ckinds.2.2.2.2.Poly] : List Int).getD u0.toNat 0, ([ckinds.1.From, ckinds.2.1.From, ckinds.2.2.1.From, ckinds.2.2.2.1.From, ckinds.2.2.2.2.From] : List Int).getD u0.toNat 0, ([ckinds.1.End, ckinds.2.1.End, ckinds.2.2.1.End, ckinds.2.2.2.1.End, ckinds.2.2.2.2.End] : List Int).getD u0.toNat 0⟩ : Kind) u1) (([ckinds.1.Size, ckinds.2.1.Size, ckinds.2.2.1.Size, ckinds.2.2.2.1.Size, ckinds.2.2.2.2.Size] : List Int).getD u0.toNat 0)), 0)))))))))

def cholds_vc (u0 : Int) (u1 : List UInt8) (K : (Bool × Int) → Prop) : Prop :=
  ((((bcheckS u1) != 0) = true →
      (K (false, (bcheckS u1)))) ∧
    (((bcheckS u1) != 0) = false →
      ((((decide (u0 < 0)) || (decide (u0 ≥ 5))) = true →
        (K (false, 8))) ∧
      (((decide (u0 < 0)) || (decide (u0 ≥ 5))) = false →
        ((0 ≤ u0 ∧ u0 < 5) ∧
        (((decide ((u1.length : Int) < (([ckinds.1.Size, ckinds.2.1.Size, ckinds.2.2.1.Size, ckinds.2.2.2.1.Size, ckinds.2.2.2.2.Size] : List Int).getD u0.toNat 0))) = true →
          (K (false, 7))) ∧
        ((decide ((u1.length : Int) < (([ckinds.1.Size, ckinds.2.1.Size, ckinds.2.2.1.Size, ckinds.2.2.2.1.Size, ckinds.2.2.2.2.Size] : List Int).getD u0.toNat 0))) = false →
          ((0 ≤ w64 ((u1.length : Int) - (([ckinds.1.Size, ckinds.2.1.Size, ckinds.2.2.1.Size, ckinds.2.2.2.1.Size, ckinds.2.2.2.2.Size] : List Int).getD u0.toNat 0)) ∧ w64 ((u1.length : Int) - (([ckinds.1.Size, ckinds.2.1.Size, ckinds.2.2.1.Size, ckinds.2.2.2.1.Size, ckinds.2.2.2.2.Size] : List Int).getD u0.toNat 0)) ≤ (u1.length : Int)) ∧
          ((okKindS (⟨([ckinds.1.Size, ckinds.2.1.Size, ckinds.2.2.1.Size, ckinds.2.2.2.1.Size, ckinds.2.2.2.2.Size] : List Int).getD u0.toNat 0, ([ckinds.1.Poly, ckinds.2.1.Poly, ckinds.2.2.1.Poly, ckinds.2.2.2.1.Poly, ckinds.2.2.2.2.Poly] : List Int).getD u0.toNat 0, ([ckinds.1.From, ckinds.2.1.From, ckinds.2.2.1.From, ckinds.2.2.2.1.From, ckinds.2.2.2.2.From] : List Int).getD u0.toNat 0, ([ckinds.1.End, ckinds.2.1.End, ckinds.2.2.1.End, ckinds.2.2.2.1.End, ckinds.2.2.2.2.End] : List Int).getD u0.toNat 0⟩ : Kind) ∧ (u1.take (w64 ((u1.length : Int) - (([ckinds.1.Size, ckinds.2.1.Size, ckinds.2.2.1.Size, ckinds.2.2.2.1.Size, ckinds.2.2.2.2.Size] : List Int).getD u0.toNat 0))).toNat).length ≤ 1000000) ∧
          ((0 ≤ (([ckinds.1.Size, ckinds.2.1.Size, ckinds.2.2.1.Size, ckinds.2.2.2.1.Size, ckinds.2.2.2.2.Size] : List Int).getD u0.toNat 0) ∧ (([ckinds.1.Size, ckinds.2.1.Size, ckinds.2.2.1.Size, ckinds.2.2.2.1.Size, ckinds.2.2.2.2.Size] : List Int).getD u0.toNat 0) ≤ 64 ∧ 0 ≤ (ksumS (⟨([ckinds.1.Size, ckinds.2.1.Size, ckinds.2.2.1.Size, ckinds.2.2.2.1.Size, ckinds.2.2.2.2.Size] : List Int).getD u0.toNat 0, ([ckinds.1.Poly, ckinds.2.1.Poly, ckinds.2.2.1.Poly, ckinds.2.2.2.1.Poly, ckinds.2.2.2.2.Poly] : List Int).getD u0.toNat 0, ([ckinds.1.From, ckinds.2.1.From, ckinds.2.2.1.From, ckinds.2.2.2.1.From, ckinds.2.2.2.2.From] : List Int).getD u0.toNat 0, ([ckinds.1.End, ckinds.2.1.End, ckinds.2.2.1.End, ckinds.2.2.2.1.End, ckinds.2.2.2.2.End] : List Int).getD u0.toNat 0⟩ : Kind) (u1.take (w64 ((u1.length : Int) - (([ckinds.1.Size, ckinds.2.1.Size, ckinds.2.2.1.Size, ckinds.2.2.2.1.Size, ckinds.2.2.2.2.Size] : List Int).getD u0.toNat 0))).toNat)) ∧ (ksumS (⟨([ckinds.1.Size, ckinds.2.1.Size, ckinds.2.2.1.Size, ckinds.2.2.2.1.Size, ckinds.2.2.2.2.Size] : List Int).getD u0.toNat 0, ([ckinds.1.Poly, ckinds.2.1.Poly, ckinds.2.2.1.Poly, ckinds.2.2.2.1.Poly, ckinds.2.2.2.2.Poly] : List Int).getD u0.toNat 0, ([ckinds.1.From, ckinds.2.1.From, ckinds.2.2.1.From, ckinds.2.2.2.1.From, ckinds.2.2.2.2.From] : List Int).getD u0.toNat 0, ([ckinds.1.End, ckinds.2.1.End, ckinds.2.2.1.End, ckinds.2.2.2.1.End, ckinds.2.2.2.2.End] : List Int).getD u0.toNat 0⟩ : Kind) (u1.take (w64 ((u1.length : Int) - (([ckinds.1.Size, ckinds.2.1.Size, ckinds.2.2.1.Size, ckinds.2.2.2.1.Size, ckinds.2.2.2.2.Size] : List Int).getD u0.toNat 0))).toNat)) < 2 ^ 62) ∧
          ((0 ≤ w64 ((u1.length : Int) - (([ckinds.1.Size, ckinds.2.1.Size, ckinds.2.2.1.Size, ckinds.2.2.2.1.Size, ckinds.2.2.2.2.Size] : List Int).getD u0.toNat 0)) ∧ w64 ((u1.length : Int) - (([ckinds.1.Size, ckinds.2.1.Size, ckinds.2.2.1.Size, ckinds.2.2.2.1.Size, ckinds.2.2.2.2.Size] : List Int).getD u0.toNat 0)) ≤ (u1.length : Int)) ∧
          (K ((bwriteS (ksumS (⟨([ckinds.1.Size, ckinds.2.1.Size, ckinds.2.2.1.Size, ckinds.2.2.2.1.Size, ckinds.2.2.2.2.Size] : List Int).getD u0.toNat 0, ([ckinds.1.Poly, ckinds.2.1.Poly, ckinds.2.2.1.Poly, ckinds.2.2.2.1.Poly, ckinds.2.2.2.2.Poly] : List Int).getD u0.toNat 0, ([ckinds.1.From, ckinds.2.1.From, ckinds.2.2.1.From, ckinds.2.2.2.1.From, ckinds.2.2.2.2.From] : List Int).getD u0.toNat 0, ([ckinds.1.End, ckinds.2.1.End, ckinds.2.2.1.End, ckinds.2.2.2.1.End, ckinds.2.2.2.2.End] : List Int).getD u0.toNat 0⟩ : Kind) (u1.take (w64 ((u1.length : Int) - (([ckinds.1.Size, ckinds.2.1.Size, ckinds.2.2.1.Size, ckinds.2.2.2.1.Size, ckinds.2.2.2.2.Size] : List Int).getD u0.toNat 0))).toNat)) (([ckinds.1.Size, ckinds.2.1.Size, ckinds.2.2.1.Size, ckinds.2.2.2.1.Size, ckinds.2.2.2.2.Size] : List Int).getD u0.toNat 0)) == (u1.drop (w64 ((u1.length : Int) - (([ckinds.1.Size, ckinds.2.1.Size, ckinds.2.2.1.Size, ckinds.2.2.2.1.Size, ckinds.2.2.2.2.Size] : List Int).getD u0.toNat 0))).toNat), 0)))))))))))))

def lxor_vc (u0 : List UInt8) (u1 : List UInt8) (K : (List UInt8) → Prop) : Prop :=
  ((u0.length ≤ 140737488355328) ∧
    (∃ inv26 : Int → (List Int) → Prop, ∃ mu26 : Int → (List Int) → Nat, inv26 0 (istr u0) ∧
    (∀ (x11 : Int) (zao9 : List Int), inv26 x11 zao9 →
    (((decide (x11 < (u1.length : Int))) = true →
      ((0 ≤ x11 ∧ x11 < (u1.length : Int)) ∧
      (∀ c56, u1[x11.toNat]? = some c56 →
      ((((c56.toNat : Int) == 49) = true →
        ((0 ≤ x11 ∧ x11 < (zao9.length : Int)) ∧
        (∀ q78, zao9[x11.toNat]? = some q78 →
        ((0 ≤ x11 ∧ x11 < (zao9.length : Int)) ∧
        (inv26 (w64 (x11 + 1)) (zao9.set x11.toNat (bXor .u8 q78 1)) ∧ mu26 (w64 (x11 + 1)) (zao9.set x11.toNat (bXor .u8 q78 1)) < mu26 x11 zao9))))) ∧
      (((c56.toNat : Int) == 49) = false →
        (inv26 (w64 (x11 + 1)) zao9 ∧ mu26 (w64 (x11 + 1)) zao9 < mu26 x11 zao9)))))) ∧
    ((decide (x11 < (u1.length : Int))) = false →
      (K (bstr zao9)))))))

/-! Pure proofs: no program in sight. -/
def bnumberS (b : List UInt8) : Int × Int := if bcheckS b ≠ 0 then (0, bcheckS b) else if 62 < b.length then (0, 2) else ((val b : Int), 0)
theorem bnumber_ok (b : List UInt8) : bnumber_vc b (fun r => r = bnumberS b) := by
  refine ⟨fun h => ?_, fun h => ⟨fun h1 => ?_, fun h1 => ?_⟩⟩
  · have h : bcheckS b ≠ 0 := by simpa using h
    unfold bnumberS
    rw [if_pos h]
  all_goals
    have h : ¬ bcheckS b ≠ 0 := by simpa using h
  · unfold bnumberS
    rw [if_neg h, if_pos (by simp at h1; omega)]
  · have hr := ((bcheck_zero b).1 (by simpa using h)).2
    have hl : b.length ≤ 62 := by simp at h1; omega
    refine ⟨⟨hl, hr⟩, ?_⟩
    have hv := val_lt hr
    have hp : 2 ^ b.length ≤ 2 ^ 62 := Nat.pow_le_pow_right (by omega) hl
    have p62 : (2 : Nat) ^ 62 = 4611686018427387904 := rfl
    unfold bnumberS
    rw [if_neg h, if_neg (by omega)]
    unfold breadS
    rw [w64_eq _ (by omega)]
def ofb : List Int → List UInt8
  | [] => []
  | x :: r => wr 8 x.toNat ++ ofb r
theorem ofb_append (a b : List Int) : ofb (a ++ b) = ofb a ++ ofb b := by
  induction a with
  | nil => rfl
  | cons x r ih => simp [ofb, ih]
theorem ofb_length (a : List Int) : (ofb a).length = 8 * a.length := by
  induction a with
  | nil => rfl
  | cons x r ih => rw [ofb, List.length_append, wr_length, ih, List.length_cons]; omega
theorem ofb_row (a : List Int) : isRow (ofb a) = true := by
  induction a with
  | nil => rfl
  | cons x r ih => rw [ofb, isRow_append, wr_row, ih]; rfl
def bofS (l : List Int) : List UInt8 × Int := if 125 < l.length then ([], 2) else (ofb l, 0)
theorem bof_ok (l : List Int) (h : ∀ x ∈ l, 0 ≤ x ∧ x ≤ 255) : bof_vc l (fun r => r = bofS l) := by
  intro hl
  refine ⟨fun h1 => ?_, fun h1 => ?_⟩
  · unfold bofS
    rw [if_pos (by simp at h1; omega)]
  · have hn : ¬ 125 < l.length := by simp at h1; omega
    have hS : bofS l = (ofb l, 0) := by unfold bofS; rw [if_neg hn]
    rw [hS]
    refine ⟨fun i y => ∃ k : Nat, i = k ∧ k ≤ l.length ∧ y = ofb (l.take k), fun i _ => l.length - i.toNat, ⟨0, rfl, by omega, rfl⟩, ?_⟩
    rintro _ _ ⟨k, rfl, hk, rfl⟩
    refine ⟨fun h2 => ⟨by simp at h2; omega, fun q hq => ?_⟩, fun h2 => ?_⟩
    · rw [Int.toNat_natCast] at hq
      have hkl : k < l.length := (List.getElem?_eq_some_iff.1 hq).1
      have hqb := h q (List.mem_of_getElem? hq)
      have ew : w64 ((k : Int) + 1) = ((k + 1 : Nat) : Int) := w64_succ k (by omega)
      have e8 : wu64 q = q := wu64_eq q (by omega)
      have p62 : (2 : Int) ^ 62 = 4611686018427387904 := rfl
      have eb : bwriteS q 8 = wr 8 q.toNat := rfl
      rw [ew, e8, eb]
      refine ⟨by omega, ?_, ⟨k + 1, rfl, by omega, ?_⟩, by (try dsimp only); omega⟩
      · rw [ofb_length, wr_length, List.length_take]; omega
      · rw [take_next l k q hq, ofb_append]
        simp [ofb]
    · have : k = l.length := by simp at h2; omega
      subst this
      rw [List.take_length]
def kindS (i : Int) : Kind := ([⟨15, 17817, 0, 0⟩, ⟨17, 92251, 65536, 0⟩, ⟨21, 1058969, 1048576, 0⟩, ⟨8, 47, 255, 255⟩, ⟨16, 4129, 65535, 0⟩] : List Kind).getD i.toNat ⟨0, 0, 0, 0⟩
def isKind (i : Int) : Bool := decide (0 ≤ i) && decide (i < 5)
theorem kind_cases {i : Int} (h : 0 ≤ i ∧ i < 5) : i = 0 ∨ i = 1 ∨ i = 2 ∨ i = 3 ∨ i = 4 := by omega
theorem kind_ok {i : Int} (h : 0 ≤ i ∧ i < 5) : okKindS (kindS i) := by
  rcases kind_cases h with rfl | rfl | rfl | rfl | rfl <;> (unfold okKindS; decide +kernel)
theorem kind_size {i : Int} (h : 0 ≤ i ∧ i < 5) : 8 ≤ (kindS i).Size ∧ (kindS i).Size ≤ 21 := by
  rcases kind_cases h with rfl | rfl | rfl | rfl | rfl <;> decide
/-- A kind's number, as a natural one. -/
def sumN (i : Int) (b : List UInt8) : Nat := crcF (kindS i).Size.toNat (kindS i).Poly.toNat (kindS i).From.toNat b ^^^ (kindS i).End.toNat
def sizeN (i : Int) : Nat := (kindS i).Size.toNat
def sumR (i : Int) (b : List UInt8) : List UInt8 := wr (sizeN i) (sumN i b)
theorem sumN_lt {i : Int} (h : 0 ≤ i ∧ i < 5) (b : List UInt8) : sumN i b < 2 ^ sizeN i := by
  obtain ⟨h1, h2, h3, h4, h5, h6, h7, h8, _⟩ := kind_ok h
  have c : ∀ x : Int, 0 ≤ x → x < 2 ^ (kindS i).Size.toNat → x.toNat < 2 ^ (kindS i).Size.toNat := fun x hx hl => by
    have : (x.toNat : Int) < ((2 ^ (kindS i).Size.toNat : Nat) : Int) := by push_cast; omega
    exact_mod_cast this
  exact Nat.xor_lt_two_pow (crcF_lt (c _ h3 h4) b (c _ h5 h6)) (c _ h7 h8)
def csumS (i : Int) (b : List UInt8) : List UInt8 × Int := if bcheckS b ≠ 0 then ([], bcheckS b) else if isKind i = true then (sumR i b, 0) else ([], 8)
def choldsS (i : Int) (b : List UInt8) : Bool × Int := if bcheckS b ≠ 0 then (false, bcheckS b) else if isKind i = true then
    if b.length < sizeN i then (false, 7) else (sumR i (b.take (b.length - sizeN i)) == b.drop (b.length - sizeN i), 0) else (false, 8)
theorem bad_kind (i : Int) : (decide (i < 0) || decide (i ≥ 5)) = !isKind i := by
  unfold isKind
  by_cases h : i < 0 <;> by_cases h2 : i ≥ 5 <;> simp [h, h2] <;> omega
theorem isKind_iff {i : Int} : isKind i = true ↔ 0 ≤ i ∧ i < 5 := by simp [isKind]
theorem csum_ok (i : Int) (b : List UInt8) : csum_vc i b (fun r => r = csumS i b) := by
  unfold csum_vc csumS
  rw [bad_kind]
  refine ⟨fun h => ?_, fun h => ⟨fun h1 => ?_, fun h1 => ?_⟩⟩
  · have h : bcheckS b ≠ 0 := by simpa using h
    rw [if_pos h]
  · have h : ¬ bcheckS b ≠ 0 := by simpa using h
    have h1 : isKind i = false := by simpa using h1
    rw [if_neg h, if_neg (by rw [h1]; simp)]
  · have h : ¬ bcheckS b ≠ 0 := by simpa using h
    have h1 : isKind i = true := by simpa using h1
    have hk := isKind_iff.1 h1
    have hb := ((bcheck_zero b).1 (by simpa using h)).1
    rw [if_neg h, if_pos h1]
    have hl := sumN_lt hk b
    have hsz := kind_size hk
    have h2 : (2 : Nat) ^ sizeN i ≤ 2 ^ 21 := Nat.pow_le_pow_right (by omega) (by unfold sizeN; omega)
    have p21 : (2 : Nat) ^ 21 = 2097152 := rfl
    have p62 : (2 : Int) ^ 62 = 4611686018427387904 := rfl
    have hok := kind_ok hk
    have e : ksumS (kindS i) b = ((sumN i b : Nat) : Int) := rfl
    have e1 : (ksumS (kindS i) b).toNat = sumN i b := by rw [e]; rfl
    have key : (okKindS (kindS i) ∧ b.length ≤ 1000000) ∧ (0 ≤ (kindS i).Size ∧ (kindS i).Size ≤ 64 ∧ 0 ≤ ksumS (kindS i) b ∧ ksumS (kindS i) b < 2 ^ 62) ∧ (bwriteS (ksumS (kindS i) b) (kindS i).Size, (0 : Int)) = (sumR i b, 0) := by
      refine ⟨⟨hok, by omega⟩, ⟨by omega, by omega, by rw [e]; omega, by rw [e]; omega⟩, ?_⟩
      unfold bwriteS sumR sizeN
      rw [e1]
    refine ⟨hk, ?_⟩
    rcases kind_cases hk with rfl | rfl | rfl | rfl | rfl <;> exact key
theorem cholds_ok (i : Int) (b : List UInt8) : cholds_vc i b (fun r => r = choldsS i b) := by
  unfold cholds_vc choldsS
  rw [bad_kind]
  refine ⟨fun h => ?_, fun h => ⟨fun h1 => ?_, fun h1 => ?_⟩⟩
  · have h : bcheckS b ≠ 0 := by simpa using h
    rw [if_pos h]
  · have h : ¬ bcheckS b ≠ 0 := by simpa using h
    have h1 : isKind i = false := by simpa using h1
    rw [if_neg h, if_neg (by rw [h1]; simp)]
  · have h : ¬ bcheckS b ≠ 0 := by simpa using h
    have h1 : isKind i = true := by simpa using h1
    have hk := isKind_iff.1 h1
    have hb := ((bcheck_zero b).1 (by simpa using h)).1
    rw [if_neg h, if_pos h1]
    have hsz := kind_size hk
    have h2 : (2 : Nat) ^ sizeN i ≤ 2 ^ 21 := Nat.pow_le_pow_right (by omega) (by unfold sizeN; omega)
    have p21 : (2 : Nat) ^ 21 = 2097152 := rfl
    have p62 : (2 : Int) ^ 62 = 4611686018427387904 := rfl
    have hok := kind_ok hk
    have esz : (kindS i).Size = (sizeN i : Int) := by unfold sizeN; omega
    have key : (decide ((b.length : Int) < (kindS i).Size) = true → (fun r : Bool × Int => r = if b.length < sizeN i then (false, 7) else (sumR i (b.take (b.length - sizeN i)) == b.drop (b.length - sizeN i), 0)) (false, 7)) ∧
        (decide ((b.length : Int) < (kindS i).Size) = false → (0 ≤ w64 ((b.length : Int) - (kindS i).Size) ∧ w64 ((b.length : Int) - (kindS i).Size) ≤ (b.length : Int)) ∧
          (okKindS (kindS i) ∧ (b.take (w64 ((b.length : Int) - (kindS i).Size)).toNat).length ≤ 1000000) ∧
          (0 ≤ (kindS i).Size ∧ (kindS i).Size ≤ 64 ∧ 0 ≤ ksumS (kindS i) (b.take (w64 ((b.length : Int) - (kindS i).Size)).toNat) ∧ ksumS (kindS i) (b.take (w64 ((b.length : Int) - (kindS i).Size)).toNat) < 2 ^ 62) ∧
          (0 ≤ w64 ((b.length : Int) - (kindS i).Size) ∧ w64 ((b.length : Int) - (kindS i).Size) ≤ (b.length : Int)) ∧
          (fun r : Bool × Int => r = if b.length < sizeN i then (false, 7) else (sumR i (b.take (b.length - sizeN i)) == b.drop (b.length - sizeN i), 0)) (bwriteS (ksumS (kindS i) (b.take (w64 ((b.length : Int) - (kindS i).Size)).toNat)) (kindS i).Size == b.drop (w64 ((b.length : Int) - (kindS i).Size)).toNat, 0)) := by
      rw [esz]
      refine ⟨fun h3 => ?_, fun h3 => ?_⟩
      · have h3 := of_decide_eq_true h3
        dsimp only
        rw [if_pos (by omega)]
      · have h3 := of_decide_eq_false h3
        have ew : w64 ((b.length : Int) - (sizeN i : Int)) = ((b.length - sizeN i : Nat) : Int) := by rw [w64_eq _ (by omega)]; omega
        rw [ew, Int.toNat_natCast]
        have hl := sumN_lt hk (b.take (b.length - sizeN i))
        have e : ksumS (kindS i) (b.take (b.length - sizeN i)) = ((sumN i (b.take (b.length - sizeN i)) : Nat) : Int) := rfl
        rw [e]
        refine ⟨by omega, ⟨hok, by rw [List.length_take]; omega⟩, by omega, by omega, ?_⟩
        dsimp only
        rw [if_neg (by omega)]
        unfold bwriteS sumR
        rw [Int.toNat_natCast, Int.toNat_natCast]
    refine ⟨hk, ?_⟩
    rcases kind_cases hk with rfl | rfl | rfl | rfl | rfl <;> exact key
def xorS (a b : List UInt8) : List UInt8 := xorR a b
theorem xorR_get : ∀ (a b : List UInt8) (i : Nat), (xorR a b)[i]? = a[i]?.map fun x => if (b[i]?.any isOne) = true then x ^^^ 1 else x := by
  intro a
  induction a with
  | nil => intro b i; cases b <;> simp [xorR]
  | cons x a ih =>
    intro b i
    cases b with
    | nil => simp [xorR]
    | cons c b =>
      cases i with
      | zero => simp [xorR]
      | succ i => simp [xorR, ih]
theorem u8_xor1 (x : UInt8) : bXor .u8 (x.toNat : Int) 1 = ((x ^^^ 1).toNat : Int) := by
  have h : ∀ n : Fin 256, bXor .u8 ((n.val : Nat) : Int) 1 = ((UInt8.ofNat n.val ^^^ 1).toNat : Int) := by decide +kernel
  have := h ⟨x.toNat, x.toNat_lt⟩
  simpa using this
theorem lxor_ok (a b : List UInt8) (h : b.length ≤ a.length ∧ a.length ≤ 1000000) : lxor_vc a b (fun r => r = xorS a b) := by
  refine ⟨by omega, fun i z => ∃ k : Nat, i = k ∧ k ≤ b.length ∧ z = istr (xorR a (b.take k)), fun i _ => b.length - i.toNat, ⟨0, rfl, by omega, by rw [List.take_zero]; cases a <;> rfl⟩, ?_⟩
  rintro _ _ ⟨k, rfl, hk, rfl⟩
  have hzl : (istr (xorR a (b.take k))).length = a.length := by unfold istr; rw [List.length_map, xorR_length]
  refine ⟨fun h1 => ?_, fun h1 => ?_⟩
  · have hk : k < b.length := by have := of_decide_eq_true h1; omega
    rw [w64_succ k (by omega), hzl]
    refine ⟨by omega, fun c hc => ?_⟩
    rw [Int.toNat_natCast] at *
    have e2 : ((c.toNat : Int) == 49) = isOne c := by
      unfold isOne
      by_cases hc : c = 49
      · subst hc; rfl
      · have h9 : ¬ c.toNat = 49 := fun h => hc (UInt8.toNat_inj.1 h)
        have h8 : ¬ (c.toNat : Int) = 49 := by omega
        rw [show ((c.toNat : Int) == 49) = false by simpa using h8, show (c == 49) = false by simpa using hc]
    rw [e2]
    have step : ∀ j, (xorR a (b.take (k + 1)))[j]? = if j = k ∧ isOne c = true then a[k]?.map (· ^^^ 1) else (xorR a (b.take k))[j]? := by
      intro j
      rw [xorR_get, xorR_get, List.getElem?_take, List.getElem?_take]
      by_cases hj : j = k
      · subst hj
        have e3 : (if j < j + 1 then b[j]? else none) = some c := by rw [if_pos (by omega), hc]
        have e4 : (if j < j then b[j]? else none) = none := if_neg (by omega)
        rw [e3, e4]
        cases hx : isOne c <;> simp [hx]
      · by_cases hj2 : j < k
        · rw [if_pos (by omega), if_pos hj2, if_neg (by omega)]
        · rw [if_neg (by omega), if_neg hj2, if_neg (by omega)]
    refine ⟨fun h2 => ⟨by omega, fun q hq => ⟨by omega, ?_⟩⟩, fun h2 => ?_⟩
    · refine ⟨⟨k + 1, rfl, by omega, ?_⟩, by (try dsimp only); omega⟩
      unfold istr at hq ⊢
      rw [List.getElem?_map, xorR_get, List.getElem?_take, if_neg (by omega)] at hq
      obtain ⟨x, hx, hq⟩ := Option.map_eq_some_iff.1 hq
      have hx' : a[k]? = some x := by simpa using hx
      subst hq
      rw [u8_xor1]
      apply List.ext_getElem?
      intro j
      rw [List.getElem?_map, step, List.getElem?_set, List.getElem?_map]
      by_cases hj : j = k
      · subst hj
        have hlt : j < (List.map (fun b => (b.toNat : Int)) (xorR a (b.take j))).length := by simp [xorR_length]; omega
        rw [if_pos rfl, if_pos hlt, if_pos ⟨rfl, h2⟩, hx']
        rfl
      · rw [if_neg (fun e => hj e.symm), if_neg (by omega)]
    · refine ⟨⟨k + 1, rfl, by omega, ?_⟩, by (try dsimp only); omega⟩
      congr 1
      apply List.ext_getElem?
      intro j
      rw [step, if_neg (by rw [h2]; simp)]
  · have : k = b.length := by have := of_decide_eq_false h1; omega
    subst this
    rw [List.take_length]
    show bstr (istr _) = _
    unfold istr
    rw [bstr_ints]
    rfl
theorem rcheckrow_ok (b : List UInt8) : rcheckrow_vc b (fun r => r = bcheckS b) := by
  have hc := count_row b
  refine ⟨fun h => ?_, fun h => ⟨rfl, rfl, fun h1 => ?_, fun h1 => ?_⟩⟩
  · have : 1000 < b.length := by simp at h; omega
    simp [bcheckS, this]
  all_goals
    have hn : ¬ 1000 < b.length := by simp at h; omega
    have e : w64 (count1S b [48] + count1S b [49]) = ((b.count 48 + b.count 49 : Nat) : Int) := by
      show w64 (((b.count 48 : Nat) : Int) + ((b.count 49 : Nat) : Int)) = _
      rw [w64_eq _ (by omega)]
      omega
    rw [e] at h1
  · have : ¬ isRow b = true := fun hr => by
      rw [hc.2.2 hr] at h1
      simp at h1
    simp [bcheckS, hn, this]
  · have : isRow b = true := hc.2.1 (by simp at h1; omega)
    simp [bcheckS, hn, this]

end Go.Proofs.YtinegicenfndkaaDoor
