/- Pure proofs: no program in sight. -/
import Derived.Test.YtinegicenfndkaaDoorVB
set_option linter.unusedVariables false
set_option linter.unusedSimpArgs false
namespace Go.Proofs.YtinegicenfndkaaDoor
open Go.Sy Go.RowKit
def bnumberS (b : List UInt8) : Int × Int := if bcheckS b ≠ 0 then (0, bcheckS b) else if 62 < b.length then (0, 2) else ((val b : Int), 0)
theorem bnumber_ok (b : List UInt8) : bnumber_vc b (fun r => r = bnumberS b) := by
  refine ⟨fun h => ?_, fun h => ⟨fun h1 => ?_, fun h1 => ?_⟩⟩
  · have h : bcheckS b ≠ 0 := by simpa using h
    unfold bnumberS
    rw [if_pos h]
  all_goals
    have h : ¬ bcheckS b ≠ 0 := by simpa using h
  · unfold bnumberS
    rw [if_neg h, if_pos (by simp at h1; omega)]
  · have hr := ((bcheck_zero b).1 (by simpa using h)).2
    have hl : b.length ≤ 62 := by simp at h1; omega
    refine ⟨⟨hl, hr⟩, ?_⟩
    have hv := val_lt hr
    have hp : 2 ^ b.length ≤ 2 ^ 62 := Nat.pow_le_pow_right (by omega) hl
    have p62 : (2 : Nat) ^ 62 = 4611686018427387904 := rfl
    unfold bnumberS
    rw [if_neg h, if_neg (by omega)]
    unfold breadS
    rw [w64_eq _ (by omega)]
def ofb : List Int → List UInt8
  | [] => []
  | x :: r => wr 8 x.toNat ++ ofb r
theorem ofb_append (a b : List Int) : ofb (a ++ b) = ofb a ++ ofb b := by
  induction a with
  | nil => rfl
  | cons x r ih => simp [ofb, ih]
theorem ofb_length (a : List Int) : (ofb a).length = 8 * a.length := by
  induction a with
  | nil => rfl
  | cons x r ih => rw [ofb, List.length_append, wr_length, ih, List.length_cons]; omega
theorem ofb_row (a : List Int) : isRow (ofb a) = true := by
  induction a with
  | nil => rfl
  | cons x r ih => rw [ofb, isRow_append, wr_row, ih]; rfl
def bofS (l : List Int) : List UInt8 × Int := if 125 < l.length then ([], 2) else (ofb l, 0)
theorem bof_ok (l : List Int) (h : ∀ x ∈ l, 0 ≤ x ∧ x ≤ 255) : bof_vc l (fun r => r = bofS l) := by
  intro hl
  refine ⟨fun h1 => ?_, fun h1 => ?_⟩
  · unfold bofS
    rw [if_pos (by simp at h1; omega)]
  · have hn : ¬ 125 < l.length := by simp at h1; omega
    have hS : bofS l = (ofb l, 0) := by unfold bofS; rw [if_neg hn]
    rw [hS]
    refine ⟨fun i y => ∃ k : Nat, i = k ∧ k ≤ l.length ∧ y = ofb (l.take k), fun i _ => l.length - i.toNat, ⟨0, rfl, by omega, rfl⟩, ?_⟩
    rintro _ _ ⟨k, rfl, hk, rfl⟩
    refine ⟨fun h2 => ⟨by simp at h2; omega, fun q hq => ?_⟩, fun h2 => ?_⟩
    · rw [Int.toNat_natCast] at hq
      have hkl : k < l.length := (List.getElem?_eq_some_iff.1 hq).1
      have hqb := h q (List.mem_of_getElem? hq)
      have ew : w64 ((k : Int) + 1) = ((k + 1 : Nat) : Int) := w64_succ k (by omega)
      have e8 : wu64 q = q := wu64_eq q (by omega)
      have p62 : (2 : Int) ^ 62 = 4611686018427387904 := rfl
      have eb : bwriteS q 8 = wr 8 q.toNat := rfl
      rw [ew, e8, eb]
      refine ⟨by omega, ?_, ⟨k + 1, rfl, by omega, ?_⟩, by (try dsimp only); omega⟩
      · rw [ofb_length, wr_length, List.length_take]; omega
      · rw [take_next l k q hq, ofb_append]
        simp [ofb]
    · have : k = l.length := by simp at h2; omega
      subst this
      rw [List.take_length]
def kindS (i : Int) : Kind := ([⟨15, 17817, 0, 0⟩, ⟨17, 92251, 65536, 0⟩, ⟨21, 1058969, 1048576, 0⟩, ⟨8, 47, 255, 255⟩, ⟨16, 4129, 65535, 0⟩] : List Kind).getD i.toNat ⟨0, 0, 0, 0⟩
def isKind (i : Int) : Bool := decide (0 ≤ i) && decide (i < 5)
theorem kind_cases {i : Int} (h : 0 ≤ i ∧ i < 5) : i = 0 ∨ i = 1 ∨ i = 2 ∨ i = 3 ∨ i = 4 := by omega
theorem kind_ok {i : Int} (h : 0 ≤ i ∧ i < 5) : okKindS (kindS i) := by
  rcases kind_cases h with rfl | rfl | rfl | rfl | rfl <;> (unfold okKindS; decide +kernel)
theorem kind_size {i : Int} (h : 0 ≤ i ∧ i < 5) : 8 ≤ (kindS i).Size ∧ (kindS i).Size ≤ 21 := by
  rcases kind_cases h with rfl | rfl | rfl | rfl | rfl <;> decide
/-- A kind's number, as a natural one. -/
def sumN (i : Int) (b : List UInt8) : Nat := crcF (kindS i).Size.toNat (kindS i).Poly.toNat (kindS i).From.toNat b ^^^ (kindS i).End.toNat
def sizeN (i : Int) : Nat := (kindS i).Size.toNat
def sumR (i : Int) (b : List UInt8) : List UInt8 := wr (sizeN i) (sumN i b)
theorem sumN_lt {i : Int} (h : 0 ≤ i ∧ i < 5) (b : List UInt8) : sumN i b < 2 ^ sizeN i := by
  obtain ⟨h1, h2, h3, h4, h5, h6, h7, h8, _⟩ := kind_ok h
  have c : ∀ x : Int, 0 ≤ x → x < 2 ^ (kindS i).Size.toNat → x.toNat < 2 ^ (kindS i).Size.toNat := fun x hx hl => by
    have : (x.toNat : Int) < ((2 ^ (kindS i).Size.toNat : Nat) : Int) := by push_cast; omega
    exact_mod_cast this
  exact Nat.xor_lt_two_pow (crcF_lt (c _ h3 h4) b (c _ h5 h6)) (c _ h7 h8)
def csumS (i : Int) (b : List UInt8) : List UInt8 × Int := if bcheckS b ≠ 0 then ([], bcheckS b) else if isKind i = true then (sumR i b, 0) else ([], 8)
def choldsS (i : Int) (b : List UInt8) : Bool × Int := if bcheckS b ≠ 0 then (false, bcheckS b) else if isKind i = true then
    if b.length < sizeN i then (false, 7) else (sumR i (b.take (b.length - sizeN i)) == b.drop (b.length - sizeN i), 0) else (false, 8)
theorem bad_kind (i : Int) : (decide (i < 0) || decide (i ≥ 5)) = !isKind i := by
  unfold isKind
  by_cases h : i < 0 <;> by_cases h2 : i ≥ 5 <;> simp [h, h2] <;> omega
theorem isKind_iff {i : Int} : isKind i = true ↔ 0 ≤ i ∧ i < 5 := by simp [isKind]
theorem csum_ok (i : Int) (b : List UInt8) : csum_vc i b (fun r => r = csumS i b) := by
  unfold csum_vc csumS
  rw [bad_kind]
  refine ⟨fun h => ?_, fun h => ⟨fun h1 => ?_, fun h1 => ?_⟩⟩
  · have h : bcheckS b ≠ 0 := by simpa using h
    rw [if_pos h]
  · have h : ¬ bcheckS b ≠ 0 := by simpa using h
    have h1 : isKind i = false := by simpa using h1
    rw [if_neg h, if_neg (by rw [h1]; simp)]
  · have h : ¬ bcheckS b ≠ 0 := by simpa using h
    have h1 : isKind i = true := by simpa using h1
    have hk := isKind_iff.1 h1
    have hb := ((bcheck_zero b).1 (by simpa using h)).1
    rw [if_neg h, if_pos h1]
    have hl := sumN_lt hk b
    have hsz := kind_size hk
    have h2 : (2 : Nat) ^ sizeN i ≤ 2 ^ 21 := Nat.pow_le_pow_right (by omega) (by unfold sizeN; omega)
    have p21 : (2 : Nat) ^ 21 = 2097152 := rfl
    have p62 : (2 : Int) ^ 62 = 4611686018427387904 := rfl
    have hok := kind_ok hk
    have e : ksumS (kindS i) b = ((sumN i b : Nat) : Int) := rfl
    have e1 : (ksumS (kindS i) b).toNat = sumN i b := by rw [e]; rfl
    have key : (okKindS (kindS i) ∧ b.length ≤ 1000000) ∧ (0 ≤ (kindS i).Size ∧ (kindS i).Size ≤ 64 ∧ 0 ≤ ksumS (kindS i) b ∧ ksumS (kindS i) b < 2 ^ 62) ∧ (bwriteS (ksumS (kindS i) b) (kindS i).Size, (0 : Int)) = (sumR i b, 0) := by
      refine ⟨⟨hok, by omega⟩, ⟨by omega, by omega, by rw [e]; omega, by rw [e]; omega⟩, ?_⟩
      unfold bwriteS sumR sizeN
      rw [e1]
    refine ⟨hk, ?_⟩
    rcases kind_cases hk with rfl | rfl | rfl | rfl | rfl <;> exact key
theorem cholds_ok (i : Int) (b : List UInt8) : cholds_vc i b (fun r => r = choldsS i b) := by
  unfold cholds_vc choldsS
  rw [bad_kind]
  refine ⟨fun h => ?_, fun h => ⟨fun h1 => ?_, fun h1 => ?_⟩⟩
  · have h : bcheckS b ≠ 0 := by simpa using h
    rw [if_pos h]
  · have h : ¬ bcheckS b ≠ 0 := by simpa using h
    have h1 : isKind i = false := by simpa using h1
    rw [if_neg h, if_neg (by rw [h1]; simp)]
  · have h : ¬ bcheckS b ≠ 0 := by simpa using h
    have h1 : isKind i = true := by simpa using h1
    have hk := isKind_iff.1 h1
    have hb := ((bcheck_zero b).1 (by simpa using h)).1
    rw [if_neg h, if_pos h1]
    have hsz := kind_size hk
    have h2 : (2 : Nat) ^ sizeN i ≤ 2 ^ 21 := Nat.pow_le_pow_right (by omega) (by unfold sizeN; omega)
    have p21 : (2 : Nat) ^ 21 = 2097152 := rfl
    have p62 : (2 : Int) ^ 62 = 4611686018427387904 := rfl
    have hok := kind_ok hk
    have esz : (kindS i).Size = (sizeN i : Int) := by unfold sizeN; omega
    have key : (decide ((b.length : Int) < (kindS i).Size) = true → (fun r : Bool × Int => r = if b.length < sizeN i then (false, 7) else (sumR i (b.take (b.length - sizeN i)) == b.drop (b.length - sizeN i), 0)) (false, 7)) ∧
        (decide ((b.length : Int) < (kindS i).Size) = false → (0 ≤ w64 ((b.length : Int) - (kindS i).Size) ∧ w64 ((b.length : Int) - (kindS i).Size) ≤ (b.length : Int)) ∧
          (okKindS (kindS i) ∧ (b.take (w64 ((b.length : Int) - (kindS i).Size)).toNat).length ≤ 1000000) ∧
          (0 ≤ (kindS i).Size ∧ (kindS i).Size ≤ 64 ∧ 0 ≤ ksumS (kindS i) (b.take (w64 ((b.length : Int) - (kindS i).Size)).toNat) ∧ ksumS (kindS i) (b.take (w64 ((b.length : Int) - (kindS i).Size)).toNat) < 2 ^ 62) ∧
          (0 ≤ w64 ((b.length : Int) - (kindS i).Size) ∧ w64 ((b.length : Int) - (kindS i).Size) ≤ (b.length : Int)) ∧
          (fun r : Bool × Int => r = if b.length < sizeN i then (false, 7) else (sumR i (b.take (b.length - sizeN i)) == b.drop (b.length - sizeN i), 0)) (bwriteS (ksumS (kindS i) (b.take (w64 ((b.length : Int) - (kindS i).Size)).toNat)) (kindS i).Size == b.drop (w64 ((b.length : Int) - (kindS i).Size)).toNat, 0)) := by
      rw [esz]
      refine ⟨fun h3 => ?_, fun h3 => ?_⟩
      · have h3 := of_decide_eq_true h3
        dsimp only
        rw [if_pos (by omega)]
      · have h3 := of_decide_eq_false h3
        have ew : w64 ((b.length : Int) - (sizeN i : Int)) = ((b.length - sizeN i : Nat) : Int) := by rw [w64_eq _ (by omega)]; omega
        rw [ew, Int.toNat_natCast]
        have hl := sumN_lt hk (b.take (b.length - sizeN i))
        have e : ksumS (kindS i) (b.take (b.length - sizeN i)) = ((sumN i (b.take (b.length - sizeN i)) : Nat) : Int) := rfl
        rw [e]
        refine ⟨by omega, ⟨hok, by rw [List.length_take]; omega⟩, by omega, by omega, ?_⟩
        dsimp only
        rw [if_neg (by omega)]
        unfold bwriteS sumR
        rw [Int.toNat_natCast, Int.toNat_natCast]
    refine ⟨hk, ?_⟩
    rcases kind_cases hk with rfl | rfl | rfl | rfl | rfl <;> exact key
def xorS (a b : List UInt8) : List UInt8 := xorR a b
theorem xorR_get : ∀ (a b : List UInt8) (i : Nat), (xorR a b)[i]? = a[i]?.map fun x => if (b[i]?.any isOne) = true then x ^^^ 1 else x := by
  intro a
  induction a with
  | nil => intro b i; cases b <;> simp [xorR]
  | cons x a ih =>
    intro b i
    cases b with
    | nil => simp [xorR]
    | cons c b =>
      cases i with
      | zero => simp [xorR]
      | succ i => simp [xorR, ih]
theorem u8_xor1 (x : UInt8) : bXor .u8 (x.toNat : Int) 1 = ((x ^^^ 1).toNat : Int) := by
  have h : ∀ n : Fin 256, bXor .u8 ((n.val : Nat) : Int) 1 = ((UInt8.ofNat n.val ^^^ 1).toNat : Int) := by decide +kernel
  have := h ⟨x.toNat, x.toNat_lt⟩
  simpa using this
theorem lxor_ok (a b : List UInt8) (h : b.length ≤ a.length ∧ a.length ≤ 1000000) : lxor_vc a b (fun r => r = xorS a b) := by
  refine ⟨by omega, fun i z => ∃ k : Nat, i = k ∧ k ≤ b.length ∧ z = istr (xorR a (b.take k)), fun i _ => b.length - i.toNat, ⟨0, rfl, by omega, by rw [List.take_zero]; cases a <;> rfl⟩, ?_⟩
  rintro _ _ ⟨k, rfl, hk, rfl⟩
  have hzl : (istr (xorR a (b.take k))).length = a.length := by unfold istr; rw [List.length_map, xorR_length]
  refine ⟨fun h1 => ?_, fun h1 => ?_⟩
  · have hk : k < b.length := by have := of_decide_eq_true h1; omega
    rw [w64_succ k (by omega), hzl]
    refine ⟨by omega, fun c hc => ?_⟩
    rw [Int.toNat_natCast] at *
    have e2 : ((c.toNat : Int) == 49) = isOne c := by
      unfold isOne
      by_cases hc : c = 49
      · subst hc; rfl
      · have h9 : ¬ c.toNat = 49 := fun h => hc (UInt8.toNat_inj.1 h)
        have h8 : ¬ (c.toNat : Int) = 49 := by omega
        rw [show ((c.toNat : Int) == 49) = false by simpa using h8, show (c == 49) = false by simpa using hc]
    rw [e2]
    have step : ∀ j, (xorR a (b.take (k + 1)))[j]? = if j = k ∧ isOne c = true then a[k]?.map (· ^^^ 1) else (xorR a (b.take k))[j]? := by
      intro j
      rw [xorR_get, xorR_get, List.getElem?_take, List.getElem?_take]
      by_cases hj : j = k
      · subst hj
        have e3 : (if j < j + 1 then b[j]? else none) = some c := by rw [if_pos (by omega), hc]
        have e4 : (if j < j then b[j]? else none) = none := if_neg (by omega)
        rw [e3, e4]
        cases hx : isOne c <;> simp [hx]
      · by_cases hj2 : j < k
        · rw [if_pos (by omega), if_pos hj2, if_neg (by omega)]
        · rw [if_neg (by omega), if_neg hj2, if_neg (by omega)]
    refine ⟨fun h2 => ⟨by omega, fun q hq => ⟨by omega, ?_⟩⟩, fun h2 => ?_⟩
    · refine ⟨⟨k + 1, rfl, by omega, ?_⟩, by (try dsimp only); omega⟩
      unfold istr at hq ⊢
      rw [List.getElem?_map, xorR_get, List.getElem?_take, if_neg (by omega)] at hq
      obtain ⟨x, hx, hq⟩ := Option.map_eq_some_iff.1 hq
      have hx' : a[k]? = some x := by simpa using hx
      subst hq
      rw [u8_xor1]
      apply List.ext_getElem?
      intro j
      rw [List.getElem?_map, step, List.getElem?_set, List.getElem?_map]
      by_cases hj : j = k
      · subst hj
        have hlt : j < (List.map (fun b => (b.toNat : Int)) (xorR a (b.take j))).length := by simp [xorR_length]; omega
        rw [if_pos rfl, if_pos hlt, if_pos ⟨rfl, h2⟩, hx']
        rfl
      · rw [if_neg (fun e => hj e.symm), if_neg (by omega)]
    · refine ⟨⟨k + 1, rfl, by omega, ?_⟩, by (try dsimp only); omega⟩
      congr 1
      apply List.ext_getElem?
      intro j
      rw [step, if_neg (by rw [h2]; simp)]
  · have : k = b.length := by have := of_decide_eq_false h1; omega
    subst this
    rw [List.take_length]
    show bstr (istr _) = _
    unfold istr
    rw [bstr_ints]
    rfl

end Go.Proofs.YtinegicenfndkaaDoor
