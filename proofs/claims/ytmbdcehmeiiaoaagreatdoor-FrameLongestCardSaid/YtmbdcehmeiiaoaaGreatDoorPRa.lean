/- What must hold so that each function ends well: pure predicates, made by program. -/
import Derived.Test.YtmbdcehmeiiaoaaGreatDoorPBm
set_option linter.unusedVariables false
set_option linter.unusedSimpArgs false
namespace Go.Proofs.YtmbdcehmeiiaoaaGreatDoor
open Go.Sy Go.RowKit
def rofb_vc (u0 : List Int) (K : (List UInt8) → Prop) : Prop :=
  (u0.length ≤ 140737488355328 →
    (∃ inv19 : (List UInt8) → Int → Prop, ∃ mu19 : (List UInt8) → Int → Nat, inv19 [] 0 ∧
    (∀ (x3 : List UInt8) (x9 : Int), inv19 x3 x9 →
    (((decide (x9 < (u0.length : Int))) = true →
      ((0 ≤ x9 ∧ x9 < (u0.length : Int)) ∧
      (∀ q43, u0[x9.toNat]? = some q43 →
      (fint1_vc (w64 q43) fun r59 =>
      ((0 ≤ (w64 (8 - (r59.length : Int))) ∧ (w64 (8 - (r59.length : Int))) ≤ 1000000 ∧ (([48] : List UInt8).length : Int) * (w64 (8 - (r59.length : Int))) ≤ 140737488355328) ∧
      ((((srepS ([48] : List UInt8) (w64 (8 - (r59.length : Int)))).length : Int) + (r59.length : Int) ≤ 9223372036854775807) ∧
      (((x3.length : Int) + (((srepS ([48] : List UInt8) (w64 (8 - (r59.length : Int)))) ++ r59).length : Int) ≤ 9223372036854775807) ∧
      (inv19 (x3 ++ ((srepS ([48] : List UInt8) (w64 (8 - (r59.length : Int)))) ++ r59)) (w64 (x9 + 1)) ∧ mu19 (x3 ++ ((srepS ([48] : List UInt8) (w64 (8 - (r59.length : Int)))) ++ r59)) (w64 (x9 + 1)) < mu19 x3 x9)))))))) ∧
    ((decide (x9 < (u0.length : Int))) = false →
      (K x3))))))

def rname_vc (u0 : Frame) (K : (List UInt8) → Prop) : Prop :=
  (u0.Data.length ≤ 140737488355328 →
    ((u0.Remote = true →
      ((u0.Long = true →
        ((u0.ID ≤ 9223372036854775807 ∧ (29 : Int) ≤ 1000000) ∧
        ((0 ≤ (11 : Int) ∧ (11 : Int) ≤ (((rrowS u0.ID 29).1).length : Int)) ∧
        ((((((rrowS u0.ID 29).1).take (11 : Int).toNat).length : Int) + (([49, 49] : List UInt8).length : Int) ≤ 9223372036854775807) ∧
        ((0 ≤ (11 : Int) ∧ (11 : Int) ≤ (((rrowS u0.ID 29).1).length : Int)) ∧
        (((((((rrowS u0.ID 29).1).take (11 : Int).toNat) ++ ([49, 49] : List UInt8)).length : Int) + ((((rrowS u0.ID 29).1).drop (11 : Int).toNat).length : Int) ≤ 9223372036854775807) ∧
        ((((((((rrowS u0.ID 29).1).take (11 : Int).toNat) ++ ([49, 49] : List UInt8)) ++ (((rrowS u0.ID 29).1).drop (11 : Int).toNat)).length : Int) + (([49] : List UInt8).length : Int) ≤ 9223372036854775807) ∧
        (K ((((((rrowS u0.ID 29).1).take (11 : Int).toNat) ++ ([49, 49] : List UInt8)) ++ (((rrowS u0.ID 29).1).drop (11 : Int).toNat)) ++ ([49] : List UInt8)))))))))) ∧
      (u0.Long = false →
        ((u0.ID ≤ 9223372036854775807 ∧ (11 : Int) ≤ 1000000) ∧
        (((((rrowS u0.ID 11).1).length : Int) + (([49] : List UInt8).length : Int) ≤ 9223372036854775807) ∧
        ((((((rrowS u0.ID 11).1) ++ ([49] : List UInt8)).length : Int) + (([48] : List UInt8).length : Int) ≤ 9223372036854775807) ∧
        (K ((((rrowS u0.ID 11).1) ++ ([49] : List UInt8)) ++ ([48] : List UInt8))))))))) ∧
    (u0.Remote = false →
      ((u0.Long = true →
        ((u0.ID ≤ 9223372036854775807 ∧ (29 : Int) ≤ 1000000) ∧
        ((0 ≤ (11 : Int) ∧ (11 : Int) ≤ (((rrowS u0.ID 29).1).length : Int)) ∧
        ((((((rrowS u0.ID 29).1).take (11 : Int).toNat).length : Int) + (([49, 49] : List UInt8).length : Int) ≤ 9223372036854775807) ∧
        ((0 ≤ (11 : Int) ∧ (11 : Int) ≤ (((rrowS u0.ID 29).1).length : Int)) ∧
        (((((((rrowS u0.ID 29).1).take (11 : Int).toNat) ++ ([49, 49] : List UInt8)).length : Int) + ((((rrowS u0.ID 29).1).drop (11 : Int).toNat).length : Int) ≤ 9223372036854775807) ∧
        ((((((((rrowS u0.ID 29).1).take (11 : Int).toNat) ++ ([49, 49] : List UInt8)) ++ (((rrowS u0.ID 29).1).drop (11 : Int).toNat)).length : Int) + (([48] : List UInt8).length : Int) ≤ 9223372036854775807) ∧
        (K ((((((rrowS u0.ID 29).1).take (11 : Int).toNat) ++ ([49, 49] : List UInt8)) ++ (((rrowS u0.ID 29).1).drop (11 : Int).toNat)) ++ ([48] : List UInt8)))))))))) ∧
      (u0.Long = false →
        ((u0.ID ≤ 9223372036854775807 ∧ (11 : Int) ≤ 1000000) ∧
        (((((rrowS u0.ID 11).1).length : Int) + (([48] : List UInt8).length : Int) ≤ 9223372036854775807) ∧
        ((((((rrowS u0.ID 11).1) ++ ([48] : List UInt8)).length : Int) + (([48] : List UInt8).length : Int) ≤ 9223372036854775807) ∧
        (K ((((rrowS u0.ID 11).1) ++ ([48] : List UInt8)) ++ ([48] : List UInt8)))))))))))

def rsizes_vc  (K : (List Int) → Prop) : Prop :=
  (K ([0, 1, 2, 3, 4, 5, 6, 7, 8, 12, 16, 20, 24, 32, 48, 64] : List Int))
def rsizes  : (List Int) :=
  ([0, 1, 2, 3, 4, 5, 6, 7, 8, 12, 16, 20, 24, 32, 48, 64] : List Int)
theorem rsizes_ok  : rsizes_vc  (fun r => r = rsizes ) := (by rfl)

def rcheckfr_vc (u0 : Frame) (K : Int → Prop) : Prop :=
  (u0.Data.length ≤ 140737488355328 →
    ((u0.Long = true →
      ((((decide (u0.ID < 0)) || (decide (u0.ID > 536870911))) = true →
        (K 3)) ∧
      (((decide (u0.ID < 0)) || (decide (u0.ID > 536870911))) = false →
        (((u0.Remote && (u0.Fast || ((u0.Data.length : Int) != 0))) = true →
          (K 4)) ∧
        ((u0.Remote && (u0.Fast || ((u0.Data.length : Int) != 0))) = false →
          (((((decide (u0.Size < 0)) || (decide (u0.Size > 8))) || ((decide (u0.Size > 0)) && (!u0.Remote))) = true →
            (K 3)) ∧
          ((((decide (u0.Size < 0)) || (decide (u0.Size > 8))) || ((decide (u0.Size > 0)) && (!u0.Remote))) = false →
            ((((decide ((u0.Data.length : Int) > 64)) || ((decide ((u0.Data.length : Int) > 8)) && (!u0.Fast))) = true →
              (K 2)) ∧
            (((decide ((u0.Data.length : Int) > 64)) || ((decide ((u0.Data.length : Int) > 8)) && (!u0.Fast))) = false →
              (((!(scontainsS rsizes (u0.Data.length : Int))) = true →
                (K 4)) ∧
              ((!(scontainsS rsizes (u0.Data.length : Int))) = false →
                (K 0)))))))))))) ∧
    (u0.Long = false →
      ((((decide (u0.ID < 0)) || (decide (u0.ID > 2047))) = true →
        (K 3)) ∧
      (((decide (u0.ID < 0)) || (decide (u0.ID > 2047))) = false →
        (((u0.Remote && (u0.Fast || ((u0.Data.length : Int) != 0))) = true →
          (K 4)) ∧
        ((u0.Remote && (u0.Fast || ((u0.Data.length : Int) != 0))) = false →
          (((((decide (u0.Size < 0)) || (decide (u0.Size > 8))) || ((decide (u0.Size > 0)) && (!u0.Remote))) = true →
            (K 3)) ∧
          ((((decide (u0.Size < 0)) || (decide (u0.Size > 8))) || ((decide (u0.Size > 0)) && (!u0.Remote))) = false →
            ((((decide ((u0.Data.length : Int) > 64)) || ((decide ((u0.Data.length : Int) > 8)) && (!u0.Fast))) = true →
              (K 2)) ∧
            (((decide ((u0.Data.length : Int) > 64)) || ((decide ((u0.Data.length : Int) > 8)) && (!u0.Fast))) = false →
              (((!(scontainsS rsizes (u0.Data.length : Int))) = true →
                (K 4)) ∧
              ((!(scontainsS rsizes (u0.Data.length : Int))) = false →
                (K 0))))))))))))))

/-! Pure proofs: no program in sight. -/
theorem fmt_byte (n : Nat) (h : n < 256) : srepS [48] (8 - ((binS n).length : Int)) ++ binS n = wr 8 n := by
  have hl : Nat.log2 n < 8 := by
    by_cases h0 : n = 0
    · subst h0; decide
    · exact (Nat.log2_lt h0).2 h
  have e : (8 : Int) - ((binS n).length : Int) = ((8 - (Nat.log2 n + 1) : Nat) : Int) := by rw [binS_len]; omega
  rw [e, srep_zero]
  unfold binS
  have hb : n < 2 ^ (Nat.log2 n + 1) := by
    by_cases h0 : n = 0
    · subst h0; decide
    · exact (Nat.log2_lt h0).1 (by omega)
  have := wr_zeros n (Nat.log2 n + 1) hb (8 - (Nat.log2 n + 1))
  rw [← this]
  congr 1
  omega
theorem rofb_ok (l : List Int) (h : (∀ x ∈ l, 0 ≤ x ∧ x ≤ 255) ∧ l.length ≤ 1000) : rofb_vc l (fun r => r = ofb l) := by
  obtain ⟨hb, hl⟩ := h
  intro _
  refine ⟨fun x i => ∃ k : Nat, i = k ∧ k ≤ l.length ∧ x = ofb (l.take k), fun _ i => l.length - i.toNat, ⟨0, rfl, by omega, by simp [ofb]⟩, ?_⟩
  rintro _ _ ⟨k, rfl, hk, rfl⟩
  refine ⟨fun h1 => ?_, fun h1 => ?_⟩
  · have hkl : k < l.length := by have := of_decide_eq_true h1; omega
    refine ⟨by omega, fun q hq => ?_⟩
    rw [Int.toNat_natCast] at hq
    have hqb := hb q (List.mem_of_getElem? hq)
    rw [w64_eq q (by omega)]
    refine ⟨⟨by omega, by omega⟩, ?_⟩
    have hf : fintS q = binS q.toNat := rfl
    have hlen : (binS q.toNat).length ≤ 8 := by
      rw [binS_len]
      by_cases h0 : q.toNat = 0
      · rw [h0]; decide
      · have := (Nat.log2_lt h0).2 (show q.toNat < 2 ^ 8 by omega)
        omega
    rw [hf]
    dsimp only
    rw [w64_eq (8 - ((binS q.toNat).length : Int)) (by omega), fmt_byte q.toNat (by omega)]
    have hol := ofb_length (l.take k)
    rw [List.length_take] at hol
    have hsl : (srepS [48] (8 - ((binS q.toNat).length : Int))).length ≤ 8 := by
      have := congrArg List.length (fmt_byte q.toNat (by omega))
      rw [List.length_append, wr_length] at this
      omega
    refine ⟨⟨by omega, by omega, by simp only [List.length_cons, List.length_nil]; omega⟩, by omega, by rw [wr_length]; omega, ?_⟩
    rw [w64_succ k (by omega)]
    refine ⟨⟨k + 1, rfl, by omega, ?_⟩, by (try dsimp only); omega⟩
    rw [take_next l k q hq, ofb_append]
    show _ = ofb (l.take k) ++ (wr 8 q.toNat ++ [])
    rw [List.append_nil]
  · have hkl : k = l.length := by have := of_decide_eq_false h1; omega
    subst hkl
    show ofb (l.take l.length) = ofb l
    rw [List.take_length]

end Go.Proofs.YtmbdcehmeiiaoaaGreatDoor
