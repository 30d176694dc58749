/- Texts put together (pure ones, or walks made by program). -/
import Derived.Test.YtmbdcehmeiiaoaaGreatDoorCore
import Derived.Test.YtmbdcehmeiiaoaaGreatDoorK1
set_option linter.unusedVariables false
set_option linter.unusedSimpArgs false
namespace Go.Proofs.YtmbdcehmeiiaoaaGreatDoor
open Go.Sy Go.RowKit
def rofb_vc (u0 : List Int) (K : (List UInt8) → Prop) : Prop :=
  (u0.length ≤ 140737488355328 →
    (∃ inv19 : (List UInt8) → Int → Prop, ∃ mu19 : (List UInt8) → Int → Nat, inv19 [] 0 ∧
    (∀ (x3 : List UInt8) (x9 : Int), inv19 x3 x9 →
    (((decide (x9 < (u0.length : Int))) = true →
      ((0 ≤ x9 ∧ x9 < (u0.length : Int)) ∧
      (∀ q43, u0[x9.toNat]? = some q43 →
      (fint1_vc (w64 q43) fun r59 =>
      ((0 ≤ (w64 (8 - (r59.length : Int))) ∧ (w64 (8 - (r59.length : Int))) ≤ 1000000 ∧ (([48] : List UInt8).length : Int) * (w64 (8 - (r59.length : Int))) ≤ 140737488355328) ∧
      ((((srepS ([48] : List UInt8) (w64 (8 - (r59.length : Int)))).length : Int) + (r59.length : Int) ≤ 9223372036854775807) ∧
      (((x3.length : Int) + (((srepS ([48] : List UInt8) (w64 (8 - (r59.length : Int)))) ++ r59).length : Int) ≤ 9223372036854775807) ∧
      (inv19 (x3 ++ ((srepS ([48] : List UInt8) (w64 (8 - (r59.length : Int)))) ++ r59)) (w64 (x9 + 1)) ∧ mu19 (x3 ++ ((srepS ([48] : List UInt8) (w64 (8 - (r59.length : Int)))) ++ r59)) (w64 (x9 + 1)) < mu19 x3 x9)))))))) ∧
    ((decide (x9 < (u0.length : Int))) = false →
      (K x3))))))

def rname_vc (u0 : Frame) (K : (List UInt8) → Prop) : Prop :=
  (u0.Data.length ≤ 140737488355328 →
    ((u0.Remote = true →
      ((u0.Long = true →
        ((u0.ID ≤ 9223372036854775807 ∧ (29 : Int) ≤ 1000000) ∧
        ((0 ≤ (11 : Int) ∧ (11 : Int) ≤ (((rrowS u0.ID 29).1).length : Int)) ∧
        ((((((rrowS u0.ID 29).1).take (11 : Int).toNat).length : Int) + (([49, 49] : List UInt8).length : Int) ≤ 9223372036854775807) ∧
        ((0 ≤ (11 : Int) ∧ (11 : Int) ≤ (((rrowS u0.ID 29).1).length : Int)) ∧
        (((((((rrowS u0.ID 29).1).take (11 : Int).toNat) ++ ([49, 49] : List UInt8)).length : Int) + ((((rrowS u0.ID 29).1).drop (11 : Int).toNat).length : Int) ≤ 9223372036854775807) ∧
        ((((((((rrowS u0.ID 29).1).take (11 : Int).toNat) ++ ([49, 49] : List UInt8)) ++ (((rrowS u0.ID 29).1).drop (11 : Int).toNat)).length : Int) + (([49] : List UInt8).length : Int) ≤ 9223372036854775807) ∧
        (K ((((((rrowS u0.ID 29).1).take (11 : Int).toNat) ++ ([49, 49] : List UInt8)) ++ (((rrowS u0.ID 29).1).drop (11 : Int).toNat)) ++ ([49] : List UInt8)))))))))) ∧
      (u0.Long = false →
        ((u0.ID ≤ 9223372036854775807 ∧ (11 : Int) ≤ 1000000) ∧
        (((((rrowS u0.ID 11).1).length : Int) + (([49] : List UInt8).length : Int) ≤ 9223372036854775807) ∧
        ((((((rrowS u0.ID 11).1) ++ ([49] : List UInt8)).length : Int) + (([48] : List UInt8).length : Int) ≤ 9223372036854775807) ∧
        (K ((((rrowS u0.ID 11).1) ++ ([49] : List UInt8)) ++ ([48] : List UInt8))))))))) ∧
    (u0.Remote = false →
      ((u0.Long = true →
        ((u0.ID ≤ 9223372036854775807 ∧ (29 : Int) ≤ 1000000) ∧
        ((0 ≤ (11 : Int) ∧ (11 : Int) ≤ (((rrowS u0.ID 29).1).length : Int)) ∧
        ((((((rrowS u0.ID 29).1).take (11 : Int).toNat).length : Int) + (([49, 49] : List UInt8).length : Int) ≤ 9223372036854775807) ∧
        ((0 ≤ (11 : Int) ∧ (11 : Int) ≤ (((rrowS u0.ID 29).1).length : Int)) ∧
        (((((((rrowS u0.ID 29).1).take (11 : Int).toNat) ++ ([49, 49] : List UInt8)).length : Int) + ((((rrowS u0.ID 29).1).drop (11 : Int).toNat).length : Int) ≤ 9223372036854775807) ∧
        ((((((((rrowS u0.ID 29).1).take (11 : Int).toNat) ++ ([49, 49] : List UInt8)) ++ (((rrowS u0.ID 29).1).drop (11 : Int).toNat)).length : Int) + (([48] : List UInt8).length : Int) ≤ 9223372036854775807) ∧
        (K ((((((rrowS u0.ID 29).1).take (11 : Int).toNat) ++ ([49, 49] : List UInt8)) ++ (((rrowS u0.ID 29).1).drop (11 : Int).toNat)) ++ ([48] : List UInt8)))))))))) ∧
      (u0.Long = false →
        ((u0.ID ≤ 9223372036854775807 ∧ (11 : Int) ≤ 1000000) ∧
        (((((rrowS u0.ID 11).1).length : Int) + (([48] : List UInt8).length : Int) ≤ 9223372036854775807) ∧
        ((((((rrowS u0.ID 11).1) ++ ([48] : List UInt8)).length : Int) + (([48] : List UInt8).length : Int) ≤ 9223372036854775807) ∧
        (K ((((rrowS u0.ID 11).1) ++ ([48] : List UInt8)) ++ ([48] : List UInt8)))))))))))

def rsizes_vc  (K : (List Int) → Prop) : Prop :=
  (K ([0, 1, 2, 3, 4, 5, 6, 7, 8, 12, 16, 20, 24, 32, 48, 64] : List Int))
def rsizes  : (List Int) :=
  ([0, 1, 2, 3, 4, 5, 6, 7, 8, 12, 16, 20, 24, 32, 48, 64] : List Int)
theorem rsizes_ok  : rsizes_vc  (fun r => r = rsizes ) := (by rfl)

def rcheckfr_vc (u0 : Frame) (K : Int → Prop) : Prop :=
  (u0.Data.length ≤ 140737488355328 →
    ((u0.Long = true →
      ((((decide (u0.ID < 0)) || (decide (u0.ID > 536870911))) = true →
        (K 3)) ∧
      (((decide (u0.ID < 0)) || (decide (u0.ID > 536870911))) = false →
        (((u0.Remote && (u0.Fast || ((u0.Data.length : Int) != 0))) = true →
          (K 4)) ∧
        ((u0.Remote && (u0.Fast || ((u0.Data.length : Int) != 0))) = false →
          (((((decide (u0.Size < 0)) || (decide (u0.Size > 8))) || ((decide (u0.Size > 0)) && (!u0.Remote))) = true →
            (K 3)) ∧
          ((((decide (u0.Size < 0)) || (decide (u0.Size > 8))) || ((decide (u0.Size > 0)) && (!u0.Remote))) = false →
            ((((decide ((u0.Data.length : Int) > 64)) || ((decide ((u0.Data.length : Int) > 8)) && (!u0.Fast))) = true →
              (K 2)) ∧
            (((decide ((u0.Data.length : Int) > 64)) || ((decide ((u0.Data.length : Int) > 8)) && (!u0.Fast))) = false →
              (((!(scontainsS rsizes (u0.Data.length : Int))) = true →
                (K 4)) ∧
              ((!(scontainsS rsizes (u0.Data.length : Int))) = false →
                (K 0)))))))))))) ∧
    (u0.Long = false →
      ((((decide (u0.ID < 0)) || (decide (u0.ID > 2047))) = true →
        (K 3)) ∧
      (((decide (u0.ID < 0)) || (decide (u0.ID > 2047))) = false →
        (((u0.Remote && (u0.Fast || ((u0.Data.length : Int) != 0))) = true →
          (K 4)) ∧
        ((u0.Remote && (u0.Fast || ((u0.Data.length : Int) != 0))) = false →
          (((((decide (u0.Size < 0)) || (decide (u0.Size > 8))) || ((decide (u0.Size > 0)) && (!u0.Remote))) = true →
            (K 3)) ∧
          ((((decide (u0.Size < 0)) || (decide (u0.Size > 8))) || ((decide (u0.Size > 0)) && (!u0.Remote))) = false →
            ((((decide ((u0.Data.length : Int) > 64)) || ((decide ((u0.Data.length : Int) > 8)) && (!u0.Fast))) = true →
              (K 2)) ∧
            (((decide ((u0.Data.length : Int) > 64)) || ((decide ((u0.Data.length : Int) > 8)) && (!u0.Fast))) = false →
              (((!(scontainsS rsizes (u0.Data.length : Int))) = true →
                (K 4)) ∧
              ((!(scontainsS rsizes (u0.Data.length : Int))) = false →
                (K 0))))))))))))))

/-! Pure proofs: no program in sight. -/
theorem fmt_byte (n : Nat) (h : n < 256) : srepS [48] (8 - ((binS n).length : Int)) ++ binS n = wr 8 n := by
  have hl : Nat.log2 n < 8 := by
    by_cases h0 : n = 0
    · subst h0; decide
    · exact (Nat.log2_lt h0).2 h
  have e : (8 : Int) - ((binS n).length : Int) = ((8 - (Nat.log2 n + 1) : Nat) : Int) := by rw [binS_len]; omega
  rw [e, srep_zero]
  unfold binS
  have hb : n < 2 ^ (Nat.log2 n + 1) := by
    by_cases h0 : n = 0
    · subst h0; decide
    · exact (Nat.log2_lt h0).1 (by omega)
  have := wr_zeros n (Nat.log2 n + 1) hb (8 - (Nat.log2 n + 1))
  rw [← this]
  congr 1
  omega
theorem rofb_ok (l : List Int) (h : (∀ x ∈ l, 0 ≤ x ∧ x ≤ 255) ∧ l.length ≤ 1000) : rofb_vc l (fun r => r = ofb l) := by
  obtain ⟨hb, hl⟩ := h
  intro _
  refine ⟨fun x i => ∃ k : Nat, i = k ∧ k ≤ l.length ∧ x = ofb (l.take k), fun _ i => l.length - i.toNat, ⟨0, rfl, by omega, by simp [ofb]⟩, ?_⟩
  rintro _ _ ⟨k, rfl, hk, rfl⟩
  refine ⟨fun h1 => ?_, fun h1 => ?_⟩
  · have hkl : k < l.length := by have := of_decide_eq_true h1; omega
    refine ⟨by omega, fun q hq => ?_⟩
    rw [Int.toNat_natCast] at hq
    have hqb := hb q (List.mem_of_getElem? hq)
    rw [w64_eq q (by omega)]
    refine ⟨⟨by omega, by omega⟩, ?_⟩
    have hf : fintS q = binS q.toNat := rfl
    have hlen : (binS q.toNat).length ≤ 8 := by
      rw [binS_len]
      by_cases h0 : q.toNat = 0
      · rw [h0]; decide
      · have := (Nat.log2_lt h0).2 (show q.toNat < 2 ^ 8 by omega)
        omega
    rw [hf]
    dsimp only
    rw [w64_eq (8 - ((binS q.toNat).length : Int)) (by omega), fmt_byte q.toNat (by omega)]
    have hol := ofb_length (l.take k)
    rw [List.length_take] at hol
    have hsl : (srepS [48] (8 - ((binS q.toNat).length : Int))).length ≤ 8 := by
      have := congrArg List.length (fmt_byte q.toNat (by omega))
      rw [List.length_append, wr_length] at this
      omega
    refine ⟨⟨by omega, by omega, by simp only [List.length_cons, List.length_nil]; omega⟩, by omega, by rw [wr_length]; omega, ?_⟩
    rw [w64_succ k (by omega)]
    refine ⟨⟨k + 1, rfl, by omega, ?_⟩, by (try dsimp only); omega⟩
    rw [take_next l k q hq, ofb_append]
    show _ = ofb (l.take k) ++ (wr 8 q.toNat ++ [])
    rw [List.append_nil]
  · have hkl : k = l.length := by have := of_decide_eq_false h1; omega
    subst hkl
    show ofb (l.take l.length) = ofb l
    rw [List.take_length]

end Go.Proofs.YtmbdcehmeiiaoaaGreatDoor
set_option linter.unusedVariables false
set_option linter.unusedSimpArgs false
namespace Go.Proofs.YtmbdcehmeiiaoaaGreatDoor
open Go.Sy Go.RowKit
def rhead_vc (u0 : Frame) (K : (List UInt8) → Prop) : Prop :=
  (u0.Data.length ≤ 140737488355328 →
    ((fcheckfr u0 = 0) ∧
    (((([48] : List UInt8).length : Int) + ((fnameS u0).length : Int) ≤ 9223372036854775807) ∧
    ((u0.Fast = true →
      ((((([48] : List UInt8) ++ (fnameS u0)).length : Int) + (([49, 48, 49, 48] : List UInt8).length : Int) ≤ 9223372036854775807) ∧
      (((!u0.Remote) = true →
        (((sindexS rsizes (u0.Data.length : Int)) ≤ 9223372036854775807 ∧ (4 : Int) ≤ 1000000) ∧
        (((((([48] : List UInt8) ++ (fnameS u0)) ++ ([49, 48, 49, 48] : List UInt8)).length : Int) + (((rrowS (sindexS rsizes (u0.Data.length : Int)) 4).1).length : Int) ≤ 9223372036854775807) ∧
        (((∀ x ∈ u0.Data, 0 ≤ x ∧ x ≤ 255) ∧ u0.Data.length ≤ 1000) ∧
        ((((((([48] : List UInt8) ++ (fnameS u0)) ++ ([49, 48, 49, 48] : List UInt8)) ++ ((rrowS (sindexS rsizes (u0.Data.length : Int)) 4).1)).length : Int) + ((ofb u0.Data).length : Int) ≤ 9223372036854775807) ∧
        (K ((((([48] : List UInt8) ++ (fnameS u0)) ++ ([49, 48, 49, 48] : List UInt8)) ++ ((rrowS (sindexS rsizes (u0.Data.length : Int)) 4).1)) ++ (ofb u0.Data)))))))) ∧
      ((!u0.Remote) = false →
        ((u0.Size ≤ 9223372036854775807 ∧ (4 : Int) ≤ 1000000) ∧
        (((((([48] : List UInt8) ++ (fnameS u0)) ++ ([49, 48, 49, 48] : List UInt8)).length : Int) + (((rrowS u0.Size 4).1).length : Int) ≤ 9223372036854775807) ∧
        (((∀ x ∈ u0.Data, 0 ≤ x ∧ x ≤ 255) ∧ u0.Data.length ≤ 1000) ∧
        ((((((([48] : List UInt8) ++ (fnameS u0)) ++ ([49, 48, 49, 48] : List UInt8)) ++ ((rrowS u0.Size 4).1)).length : Int) + ((ofb u0.Data).length : Int) ≤ 9223372036854775807) ∧
        (K ((((([48] : List UInt8) ++ (fnameS u0)) ++ ([49, 48, 49, 48] : List UInt8)) ++ ((rrowS u0.Size 4).1)) ++ (ofb u0.Data))))))))))) ∧
    (u0.Fast = false →
      ((u0.Long = true →
        ((((([48] : List UInt8) ++ (fnameS u0)).length : Int) + (([48, 48] : List UInt8).length : Int) ≤ 9223372036854775807) ∧
        (((!u0.Remote) = true →
          (((sindexS rsizes (u0.Data.length : Int)) ≤ 9223372036854775807 ∧ (4 : Int) ≤ 1000000) ∧
          (((((([48] : List UInt8) ++ (fnameS u0)) ++ ([48, 48] : List UInt8)).length : Int) + (((rrowS (sindexS rsizes (u0.Data.length : Int)) 4).1).length : Int) ≤ 9223372036854775807) ∧
          (((∀ x ∈ u0.Data, 0 ≤ x ∧ x ≤ 255) ∧ u0.Data.length ≤ 1000) ∧
          ((((((([48] : List UInt8) ++ (fnameS u0)) ++ ([48, 48] : List UInt8)) ++ ((rrowS (sindexS rsizes (u0.Data.length : Int)) 4).1)).length : Int) + ((ofb u0.Data).length : Int) ≤ 9223372036854775807) ∧
          (K ((((([48] : List UInt8) ++ (fnameS u0)) ++ ([48, 48] : List UInt8)) ++ ((rrowS (sindexS rsizes (u0.Data.length : Int)) 4).1)) ++ (ofb u0.Data)))))))) ∧
        ((!u0.Remote) = false →
          ((u0.Size ≤ 9223372036854775807 ∧ (4 : Int) ≤ 1000000) ∧
          (((((([48] : List UInt8) ++ (fnameS u0)) ++ ([48, 48] : List UInt8)).length : Int) + (((rrowS u0.Size 4).1).length : Int) ≤ 9223372036854775807) ∧
          (((∀ x ∈ u0.Data, 0 ≤ x ∧ x ≤ 255) ∧ u0.Data.length ≤ 1000) ∧
          ((((((([48] : List UInt8) ++ (fnameS u0)) ++ ([48, 48] : List UInt8)) ++ ((rrowS u0.Size 4).1)).length : Int) + ((ofb u0.Data).length : Int) ≤ 9223372036854775807) ∧
          (K ((((([48] : List UInt8) ++ (fnameS u0)) ++ ([48, 48] : List UInt8)) ++ ((rrowS u0.Size 4).1)) ++ (ofb u0.Data))))))))))) ∧
      (u0.Long = false →
        ((((([48] : List UInt8) ++ (fnameS u0)).length : Int) + (([48] : List UInt8).length : Int) ≤ 9223372036854775807) ∧
        (((!u0.Remote) = true →
          (((sindexS rsizes (u0.Data.length : Int)) ≤ 9223372036854775807 ∧ (4 : Int) ≤ 1000000) ∧
          (((((([48] : List UInt8) ++ (fnameS u0)) ++ ([48] : List UInt8)).length : Int) + (((rrowS (sindexS rsizes (u0.Data.length : Int)) 4).1).length : Int) ≤ 9223372036854775807) ∧
          (((∀ x ∈ u0.Data, 0 ≤ x ∧ x ≤ 255) ∧ u0.Data.length ≤ 1000) ∧
          ((((((([48] : List UInt8) ++ (fnameS u0)) ++ ([48] : List UInt8)) ++ ((rrowS (sindexS rsizes (u0.Data.length : Int)) 4).1)).length : Int) + ((ofb u0.Data).length : Int) ≤ 9223372036854775807) ∧
          (K ((((([48] : List UInt8) ++ (fnameS u0)) ++ ([48] : List UInt8)) ++ ((rrowS (sindexS rsizes (u0.Data.length : Int)) 4).1)) ++ (ofb u0.Data)))))))) ∧
        ((!u0.Remote) = false →
          ((u0.Size ≤ 9223372036854775807 ∧ (4 : Int) ≤ 1000000) ∧
          (((((([48] : List UInt8) ++ (fnameS u0)) ++ ([48] : List UInt8)).length : Int) + (((rrowS u0.Size 4).1).length : Int) ≤ 9223372036854775807) ∧
          (((∀ x ∈ u0.Data, 0 ≤ x ∧ x ≤ 255) ∧ u0.Data.length ≤ 1000) ∧
          ((((((([48] : List UInt8) ++ (fnameS u0)) ++ ([48] : List UInt8)) ++ ((rrowS u0.Size 4).1)).length : Int) + ((ofb u0.Data).length : Int) ≤ 9223372036854775807) ∧
          (K ((((([48] : List UInt8) ++ (fnameS u0)) ++ ([48] : List UInt8)) ++ ((rrowS u0.Size 4).1)) ++ (ofb u0.Data)))))))))))))))))

def rlmost_vc (u0 : Int) (K : Int → Prop) : Prop :=
  (K (w64 (u0 + (w64 ((w64 (u0 - 1)).tdiv 4)))))
def rlmost (u0 : Int) : Int :=
  w64 (u0 + (w64 ((w64 (u0 - 1)).tdiv 4)))
theorem rlmost_ok (u0 : Int) : rlmost_vc u0 (fun r => r = rlmost u0) := (by rfl)

/-! Pure proofs: no program in sight. -/
theorem rname_ok (f : Frame) (h : fcheckfr f = 0) : rname_vc f (fun r => r = fnameS f) := by
  obtain ⟨c1, c2, c3, c4, c5, c6, c7, c8, c9, c10⟩ := fcheckfr_zero h
  intro _
  have p29 : (2 : Nat) ^ 29 = 536870912 := rfl
  have p11 : (2 : Nat) ^ 11 = 2048 := rfl
  have hl : rrowS f.ID 29 = (wr 29 f.ID.toNat, true) := rrow_wr c1 (by decide) (by show _ < 2 ^ 29; omega)
  have hs : f.Long = false → rrowS f.ID 11 = (wr 11 f.ID.toNat, true) := fun e => rrow_wr c1 (by decide) (by have := c3 e; show _ < 2 ^ 11; omega)
  have hsp : wr 29 f.ID.toNat = wr 11 (f.ID.toNat / 2 ^ 18) ++ wr 18 f.ID.toNat := wr_split f.ID.toNat 18 11
  have e11 : (11 : Int).toNat = 11 := rfl
  have ht : (wr 29 f.ID.toNat).take 11 = wr 11 (f.ID.toNat / 2 ^ 18) := by rw [hsp]; exact List.take_left' (wr_length _ _)
  have hdr : (wr 29 f.ID.toNat).drop 11 = wr 18 f.ID.toNat := by rw [hsp]; exact List.drop_left' (wr_length _ _)
  rw [hl]
  dsimp only
  rw [e11, ht, hdr]
  refine ⟨fun hR => ⟨fun hL => ?_, fun hL => ?_⟩, fun hR => ⟨fun hL => ?_, fun hL => ?_⟩⟩
  · refine ⟨by omega, by rw [wr_length]; omega, by rw [wr_length]; simp, by rw [wr_length]; omega, by simp [wr_length], by simp [wr_length], ?_⟩
    unfold fnameS
    rw [if_neg (by rw [hL]; simp), hR]
    rfl
  · rw [hs hL]
    refine ⟨by omega, by simp [wr_length], by simp [wr_length], ?_⟩
    unfold fnameS
    rw [if_pos hL, hR]
    rfl
  · refine ⟨by omega, by rw [wr_length]; omega, by rw [wr_length]; simp, by rw [wr_length]; omega, by simp [wr_length], by simp [wr_length], ?_⟩
    unfold fnameS
    rw [if_neg (by rw [hL]; simp), hR]
    rfl
  · rw [hs hL]
    refine ⟨by omega, by simp [wr_length], by simp [wr_length], ?_⟩
    unfold fnameS
    rw [if_pos hL, hR]
    rfl
theorem fcheck_eq (f : Frame) (c1 c2 c3 c4 : Bool) (h1 : c1 = (((decide (f.ID < 0)) || ((!f.Long) && (decide (f.ID > 2047)))) || (decide (f.ID > 536870911)))) (h2 : c2 = (f.Remote && (f.Fast || (decide ((f.Data.length : Int) > 0)))))
    (h3 : c3 = (((decide (f.Size < 0)) || (decide (f.Size > 8))) || ((!f.Remote) && (f.Size != 0)))) (h4 : c4 = ((decide ((f.Data.length : Int) > 64)) || ((!f.Fast) && (decide ((f.Data.length : Int) > 8))))) :
    fcheckfr f = bif c1 then 3 else bif c2 then 4 else bif c3 then 3 else bif c4 then 2 else bif !(scontainsS rsizes (f.Data.length : Int)) then 4 else 0 := by
  subst h1 h2 h3 h4
  rfl
theorem rcheckfr_ok (f : Frame) : rcheckfr_vc f (fun r => r = fcheckfr f) := by
  intro _
  have e2 : (f.Remote && (f.Fast || ((f.Data.length : Int) != 0))) = (f.Remote && (f.Fast || (decide ((f.Data.length : Int) > 0)))) := by
    congr 2
    rw [Bool.eq_iff_iff, bne_iff_ne, decide_eq_true_eq]
    omega
  have e3 : (((decide (f.Size < 0)) || (decide (f.Size > 8))) || ((decide (f.Size > 0)) && (!f.Remote))) = (((decide (f.Size < 0)) || (decide (f.Size > 8))) || ((!f.Remote) && (f.Size != 0))) := by
    cases f.Remote
    · rw [Bool.eq_iff_iff]
      simp
      omega
    · simp
  have e4 : ((decide ((f.Data.length : Int) > 64)) || ((decide ((f.Data.length : Int) > 8)) && (!f.Fast))) = ((decide ((f.Data.length : Int) > 64)) || ((!f.Fast) && (decide ((f.Data.length : Int) > 8)))) := by
    rw [Bool.and_comm (decide ((f.Data.length : Int) > 8))]
  refine ⟨fun hL => ?_, fun hL => ?_⟩
  · have e1 : ((decide (f.ID < 0)) || (decide (f.ID > 536870911))) = (((decide (f.ID < 0)) || ((!f.Long) && (decide (f.ID > 2047)))) || (decide (f.ID > 536870911))) := by rw [hL]; simp
    have e := fcheck_eq f _ _ _ _ e1 e2 e3 e4
    rw [e]
    refine ⟨fun g1 => by rw [g1]; rfl, fun g1 => ⟨fun g2 => by rw [g1, g2]; rfl, fun g2 => ⟨fun g3 => by rw [g1, g2, g3]; rfl, fun g3 => ⟨fun g4 => by rw [g1, g2, g3, g4]; rfl, fun g4 => ⟨fun g5 => by rw [g1, g2, g3, g4, g5]; rfl, fun g5 => by rw [g1, g2, g3, g4, g5]; rfl⟩⟩⟩⟩⟩
  · have e1 : ((decide (f.ID < 0)) || (decide (f.ID > 2047))) = (((decide (f.ID < 0)) || ((!f.Long) && (decide (f.ID > 2047)))) || (decide (f.ID > 536870911))) := by
      rw [hL, Bool.eq_iff_iff]
      simp
      omega
    have e := fcheck_eq f _ _ _ _ e1 e2 e3 e4
    rw [e]
    refine ⟨fun g1 => by rw [g1]; rfl, fun g1 => ⟨fun g2 => by rw [g1, g2]; rfl, fun g2 => ⟨fun g3 => by rw [g1, g2, g3]; rfl, fun g3 => ⟨fun g4 => by rw [g1, g2, g3, g4]; rfl, fun g4 => ⟨fun g5 => by rw [g1, g2, g3, g4, g5]; rfl, fun g5 => by rw [g1, g2, g3, g4, g5]; rfl⟩⟩⟩⟩⟩
theorem rhead_ok (f : Frame) (h : fcheckfr f = 0 ∧ ∀ x ∈ f.Data, 0 ≤ x ∧ x ≤ 255) : rhead_vc f (fun r => r = fheadS f) := by
  obtain ⟨h0, hb⟩ := h
  obtain ⟨c1, c2, c3, c4, c5, c6, c7, c8, c9, c10⟩ := fcheckfr_zero h0
  have hrs : rsizes = fsizes := rfl
  have hnl : (fnameS f).length ≤ 32 := by rw [fnameS_len]; split <;> omega
  have hofl := ofb_length f.Data
  have p4 : (2 : Nat) ^ 4 = 16 := rfl
  have key : ∀ c : List UInt8, c = fctl f → c.length ≤ 4 → ∀ n : Int, 0 ≤ n → n ≤ 15 → n.toNat = fcode f →
      ((n ≤ 9223372036854775807 ∧ (4 : Int) ≤ 1000000) ∧
        (((((([48] : List UInt8) ++ (fnameS f)) ++ c).length : Int) + (((rrowS n 4).1).length : Int) ≤ 9223372036854775807) ∧
        (((∀ x ∈ f.Data, 0 ≤ x ∧ x ≤ 255) ∧ f.Data.length ≤ 1000) ∧
        ((((((([48] : List UInt8) ++ (fnameS f)) ++ c) ++ ((rrowS n 4).1)).length : Int) + ((ofb f.Data).length : Int) ≤ 9223372036854775807) ∧
        ((((([48] : List UInt8) ++ (fnameS f)) ++ c) ++ ((rrowS n 4).1)) ++ (ofb f.Data)) = fheadS f)))) := by
    intro c hc hcl n n0 n1 hn
    have hr : rrowS n 4 = (wr 4 n.toNat, true) := rrow_wr n0 (by decide) (by show n.toNat < 2 ^ 4; omega)
    rw [hr]
    dsimp only
    refine ⟨⟨by omega, by decide⟩, ?_, ⟨hb, by omega⟩, ?_, ?_⟩
    · simp only [List.length_append, List.length_cons, List.length_nil, wr_length]; omega
    · simp only [List.length_append, List.length_cons, List.length_nil, wr_length]; omega
    · rw [hn, hc]
      rfl
  have two : ∀ c : List UInt8, c = fctl f → c.length ≤ 4 →
      (((!f.Remote) = true →
        (((sindexS rsizes (f.Data.length : Int)) ≤ 9223372036854775807 ∧ (4 : Int) ≤ 1000000) ∧
        (((((([48] : List UInt8) ++ (fnameS f)) ++ c).length : Int) + (((rrowS (sindexS rsizes (f.Data.length : Int)) 4).1).length : Int) ≤ 9223372036854775807) ∧
        (((∀ x ∈ f.Data, 0 ≤ x ∧ x ≤ 255) ∧ f.Data.length ≤ 1000) ∧
        ((((((([48] : List UInt8) ++ (fnameS f)) ++ c) ++ ((rrowS (sindexS rsizes (f.Data.length : Int)) 4).1)).length : Int) + ((ofb f.Data).length : Int) ≤ 9223372036854775807) ∧
        ((((([48] : List UInt8) ++ (fnameS f)) ++ c) ++ ((rrowS (sindexS rsizes (f.Data.length : Int)) 4).1)) ++ (ofb f.Data)) = fheadS f))))) ∧
      ((!f.Remote) = false →
        ((f.Size ≤ 9223372036854775807 ∧ (4 : Int) ≤ 1000000) ∧
        (((((([48] : List UInt8) ++ (fnameS f)) ++ c).length : Int) + (((rrowS f.Size 4).1).length : Int) ≤ 9223372036854775807) ∧
        (((∀ x ∈ f.Data, 0 ≤ x ∧ x ≤ 255) ∧ f.Data.length ≤ 1000) ∧
        ((((((([48] : List UInt8) ++ (fnameS f)) ++ c) ++ ((rrowS f.Size 4).1)).length : Int) + ((ofb f.Data).length : Int) ≤ 9223372036854775807) ∧
        ((((([48] : List UInt8) ++ (fnameS f)) ++ c) ++ ((rrowS f.Size 4).1)) ++ (ofb f.Data)) = fheadS f)))))) := by
    intro c hc hcl
    refine ⟨fun hR => ?_, fun hR => ?_⟩
    · have hR : f.Remote = false := by simpa using hR
      have hs := sindexS_sizes (f.Data.length : Int)
      have hge : 0 ≤ sindexS fsizes (f.Data.length : Int) := by
        have := sidx_ge (fun q => (f.Data.length : Int) == q) fsizes
        unfold scontainsS at c10
        rw [c10] at this
        exact of_decide_eq_true this
      rw [hrs]
      exact key c hc hcl _ hge hs.2 (by unfold fcode; rw [if_pos hR])
    · have hR : f.Remote = true := by simpa using hR
      exact key c hc hcl _ c5 (by omega) (by unfold fcode; rw [if_neg (by rw [hR]; simp)])
  intro _
  refine ⟨h0, by simp only [List.length_cons, List.length_nil]; omega, fun hF => ?_, fun hF => ⟨fun hL => ?_, fun hL => ?_⟩⟩
  · refine ⟨by simp only [List.length_append, List.length_cons, List.length_nil]; omega, ?_⟩
    exact two _ (by unfold fctl; rw [if_pos hF]) (by decide)
  · refine ⟨by simp only [List.length_append, List.length_cons, List.length_nil]; omega, ?_⟩
    exact two _ (by unfold fctl; rw [if_neg (by rw [hF]; simp), if_pos hL]) (by decide)
  · refine ⟨by simp only [List.length_append, List.length_cons, List.length_nil]; omega, ?_⟩
    exact two _ (by unfold fctl; rw [if_neg (by rw [hF]; simp), if_neg (by rw [hL]; simp)]) (by decide)

end Go.Proofs.YtmbdcehmeiiaoaaGreatDoor
set_option linter.unusedVariables false
set_option linter.unusedSimpArgs false
namespace Go.Proofs.YtmbdcehmeiiaoaaGreatDoor
open Go.Sy Go.RowKit
def rwant_vc (u0 : FReader) (u1 : List UInt8) (K : FReader → Prop) : Prop :=
  (u0.f.Data.length ≤ 140737488355328 →
    ((Rok u0.Reader ∧ (1 : Int) ≤ 9223372036854775807) ∧
    (∀ r19, (rtakeFS u0 1) = r19 →
    (r19.2.f.Data.length ≤ 140737488355328 →
    ((((r19.2.Reader.Code == 0) && (r19.1 != u1)) = true →
      (∀ r65, (rfailS r19.2 4) = r65 →
      (r65.f.Data.length ≤ 140737488355328 →
      (K r65)))) ∧
    (((r19.2.Reader.Code == 0) && (r19.1 != u1)) = false →
      (K r19.2)))))))

def rnumber_vc (u0 : FReader) (u1 : Int) (K : (Int × FReader) → Prop) : Prop :=
  (u0.f.Data.length ≤ 140737488355328 →
    ((Rok u0.Reader ∧ u1 ≤ 9223372036854775807) ∧
    (∀ r24, (rtakeFS u0 u1) = r24 →
    (r24.2.f.Data.length ≤ 140737488355328 →
    (((r24.2.Reader.Code != 0) = true →
      (K (0, r24.2))) ∧
    ((r24.2.Reader.Code != 0) = false →
      ((r24.1.length ≤ 62 ∧ isRow r24.1 = true) ∧
      (K (w64 (breadS r24.1), r24.2)))))))))

/-! Pure proofs: no program in sight. -/
def rwantS (r : FReader) (b : List UInt8) : FReader := if (rtakeFS r 1).2.Reader.Code = 0 ∧ (rtakeFS r 1).1 ≠ b then rfailS (rtakeFS r 1).2 4 else (rtakeFS r 1).2
theorem rwant_ok (r : FReader) (b : List UInt8) (h : Rok r.Reader) : rwant_vc r b (fun q => q = rwantS r b) := by
  intro hl
  refine ⟨⟨h, by decide⟩, ?_⟩
  rintro q rfl _
  refine ⟨fun h1 => ?_, fun h1 => ?_⟩
  · rintro s rfl _
    unfold rwantS
    rw [if_pos (by simpa using h1)]
  · unfold rwantS
    rw [if_neg]
    intro hc
    have : (((rtakeFS r 1).2.Reader.Code == 0) && ((rtakeFS r 1).1 != b)) = true := by simpa using hc
    rw [this] at h1
    cases h1
theorem rwantS_f (r : FReader) (b : List UInt8) : (rwantS r b).f = r.f := by
  unfold rwantS
  split
  · rw [rfailS_f]; rfl
  · rfl
theorem rwantS_Rok {r : FReader} {b : List UInt8} (h : Rok r.Reader) : Rok (rwantS r b).Reader := by
  have h1 := (rtakeS_Rok 1 h).1
  unfold rwantS
  split
  · exact rfailS_Rok h1
  · exact h1
def rnumberS (r : FReader) (n : Int) : Int × FReader := if (rtakeFS r n).2.Reader.Code ≠ 0 then (0, (rtakeFS r n).2) else ((val (rtakeFS r n).1 : Int), (rtakeFS r n).2)
theorem rnumber_ok (r : FReader) (n : Int) (h : Rok r.Reader ∧ 0 ≤ n ∧ n ≤ 62) : rnumber_vc r n (fun q => q = rnumberS r n) := by
  intro hl
  refine ⟨⟨h.1, by omega⟩, ?_⟩
  rintro q rfl _
  obtain ⟨k1, k2, _⟩ := rtakeS_row (n := n) h.1
  refine ⟨fun h1 => ?_, fun h1 => ⟨⟨by show (rtakeS r.Reader n).1.length ≤ 62; omega, k1⟩, ?_⟩⟩
  · unfold rnumberS
    rw [if_pos (by simpa using h1)]
  · unfold rnumberS
    rw [if_neg (by simpa using h1)]
    have hv := val_lt k1
    have hp : 2 ^ (rtakeS r.Reader n).1.length ≤ 2 ^ 62 := Nat.pow_le_pow_right (by omega) (by omega)
    have p62 : (2 : Nat) ^ 62 = 4611686018427387904 := rfl
    have e : breadS (rtakeFS r n).1 = ((val (rtakeS r.Reader n).1 : Nat) : Int) := rfl
    rw [e, w64_eq _ (by omega)]
    rfl
theorem rnumberS_f (r : FReader) (n : Int) : (rnumberS r n).2.f = r.f := by unfold rnumberS; split <;> rfl
theorem rnumberS_Rok {r : FReader} {n : Int} (h : Rok r.Reader) : Rok (rnumberS r n).2.Reader := by
  have h1 := (rtakeS_Rok n h).1
  unfold rnumberS
  split <;> exact h1
theorem rnumberS_bound {r : FReader} {n : Nat} (h : Rok r.Reader) : 0 ≤ (rnumberS r n).1 ∧ (rnumberS r n).1 < 2 ^ n := by
  obtain ⟨k1, k2, _⟩ := rtakeS_row (n := (n : Int)) h
  have hv := val_lt k1
  have hp : 2 ^ (rtakeS r.Reader n).1.length ≤ 2 ^ n := Nat.pow_le_pow_right (by omega) (by rw [Int.toNat_natCast] at k2; exact k2)
  unfold rnumberS
  split
  · exact ⟨Int.le_refl _, Int.pow_pos (by decide)⟩
  · have e : ((val (rtakeFS r n).1 : Nat) : Int) = ((val (rtakeS r.Reader n).1 : Nat) : Int) := rfl
    dsimp only
    rw [e]
    refine ⟨by omega, ?_⟩
    have : ((val (rtakeS r.Reader n).1 : Nat) : Int) < ((2 ^ n : Nat) : Int) := by omega
    exact_mod_cast this

end Go.Proofs.YtmbdcehmeiiaoaaGreatDoor
set_option linter.unusedVariables false
set_option linter.unusedSimpArgs false
namespace Go.Proofs.YtmbdcehmeiiaoaaGreatDoor
open Go.Sy Go.RowKit
def rnames_vc (u0 : FReader) (K : FReader → Prop) : Prop :=
  (u0.f.Data.length ≤ 140737488355328 →
    ((Rok u0.Reader) ∧
    (∀ r15, (rwantS u0 ([48] : List UInt8)) = r15 →
    (r15.f.Data.length ≤ 140737488355328 →
    ((Rok r15.Reader ∧ 0 ≤ (11 : Int) ∧ (11 : Int) ≤ 62) ∧
    (∀ r37, (rnumberS r15 11) = r37 →
    (r37.2.f.Data.length ≤ 140737488355328 →
    ((Rok (⟨r37.2.Reader, (⟨r37.1, r37.2.f.Long, r37.2.f.Fast, r37.2.f.Remote, r37.2.f.Size, r37.2.f.Data⟩ : Frame)⟩ : FReader).Reader ∧ (1 : Int) ≤ 9223372036854775807) ∧
    (∀ r70, (rtakeFS (⟨r37.2.Reader, (⟨r37.1, r37.2.f.Long, r37.2.f.Fast, r37.2.f.Remote, r37.2.f.Size, r37.2.f.Data⟩ : Frame)⟩ : FReader) 1) = r70 →
    (r70.2.f.Data.length ≤ 140737488355328 →
    ((Rok r70.2.Reader ∧ (1 : Int) ≤ 9223372036854775807) ∧
    (∀ r100, (rtakeFS r70.2 1) = r100 →
    (r100.2.f.Data.length ≤ 140737488355328 →
    (∃ inv148 : FReader → Prop,
    (((r100.1 == ([49] : List UInt8)) = true →
      (∃ inv379 : FReader → Prop,
      (((!(r70.1 == ([49] : List UInt8))) = true →
        (∀ r690, (rfailS (⟨r100.2.Reader, (⟨r100.2.f.ID, r100.1 == ([49] : List UInt8), r100.2.f.Fast, r70.1 == ([49] : List UInt8), r100.2.f.Size, r100.2.f.Data⟩ : Frame)⟩ : FReader) 4) = r690 →
        (r690.f.Data.length ≤ 140737488355328 →
        (inv379 r690)))) ∧
      ((!(r70.1 == ([49] : List UInt8))) = false →
        (inv379 (⟨r100.2.Reader, (⟨r100.2.f.ID, r100.1 == ([49] : List UInt8), r100.2.f.Fast, r70.1 == ([49] : List UInt8), r100.2.f.Size, r100.2.f.Data⟩ : Frame)⟩ : FReader)))) ∧
      (∀ (yb1v : FReader), inv379 yb1v →
        ((Rok yb1v.Reader ∧ 0 ≤ (18 : Int) ∧ (18 : Int) ≤ 62) ∧
        ((Rok (⟨(((rnumberS yb1v 18).2).Reader), (⟨bOr .i64 (bShl .i64 yb1v.f.ID 18) ((rnumberS yb1v 18).1), yb1v.f.Long, yb1v.f.Fast, yb1v.f.Remote, yb1v.f.Size, yb1v.f.Data⟩ : Frame)⟩ : FReader).Reader ∧ (1 : Int) ≤ 9223372036854775807) ∧
        (∀ r658, (rtakeFS (⟨(((rnumberS yb1v 18).2).Reader), (⟨bOr .i64 (bShl .i64 yb1v.f.ID 18) ((rnumberS yb1v 18).1), yb1v.f.Long, yb1v.f.Fast, yb1v.f.Remote, yb1v.f.Size, yb1v.f.Data⟩ : Frame)⟩ : FReader) 1) = r658 →
        (r658.2.f.Data.length ≤ 140737488355328 →
        (inv148 (⟨r658.2.Reader, (⟨r658.2.f.ID, r658.2.f.Long, r658.2.f.Fast, r658.1 == ([49] : List UInt8), r658.2.f.Size, r658.2.f.Data⟩ : Frame)⟩ : FReader))))))))) ∧
    ((r100.1 == ([49] : List UInt8)) = false →
      (inv148 (⟨r100.2.Reader, (⟨r100.2.f.ID, r100.1 == ([49] : List UInt8), r100.2.f.Fast, r70.1 == ([49] : List UInt8), r100.2.f.Size, r100.2.f.Data⟩ : Frame)⟩ : FReader)))) ∧
    (∀ (yb1 : FReader), inv148 yb1 →
      ((Rok yb1.Reader ∧ (1 : Int) ≤ 9223372036854775807) ∧
      (∀ r181, (rtakeFS yb1 1) = r181 →
      (r181.2.f.Data.length ≤ 140737488355328 →
      (((r181.1 == ([49] : List UInt8)) = true →
        (∃ inv230 : FReader → Prop,
        ((r181.2.f.Remote = true →
          (∀ r321, (rfailS (⟨r181.2.Reader, (⟨r181.2.f.ID, r181.2.f.Long, r181.1 == ([49] : List UInt8), r181.2.f.Remote, r181.2.f.Size, r181.2.f.Data⟩ : Frame)⟩ : FReader) 4) = r321 →
          (r321.f.Data.length ≤ 140737488355328 →
          (inv230 r321)))) ∧
        (r181.2.f.Remote = false →
          (inv230 (⟨r181.2.Reader, (⟨r181.2.f.ID, r181.2.f.Long, r181.1 == ([49] : List UInt8), r181.2.f.Remote, r181.2.f.Size, r181.2.f.Data⟩ : Frame)⟩ : FReader)))) ∧
        (∀ (yb1v : FReader), inv230 yb1v →
          ((Rok yb1v.Reader) ∧
          (∀ r260, (rwantS yb1v ([48] : List UInt8)) = r260 →
          (r260.f.Data.length ≤ 140737488355328 →
          ((Rok r260.Reader) ∧
          (∀ r280, (rwantS r260 ([49] : List UInt8)) = r280 →
          (r280.f.Data.length ≤ 140737488355328 →
          ((Rok r280.Reader) ∧
          (∀ r300, (rwantS r280 ([48] : List UInt8)) = r300 →
          (r300.f.Data.length ≤ 140737488355328 →
          (K r300))))))))))))) ∧
      ((r181.1 == ([49] : List UInt8)) = false →
        ((r181.2.f.Long = true →
          ((Rok (⟨r181.2.Reader, (⟨r181.2.f.ID, r181.2.f.Long, r181.1 == ([49] : List UInt8), r181.2.f.Remote, r181.2.f.Size, r181.2.f.Data⟩ : Frame)⟩ : FReader).Reader) ∧
          (∀ r358, (rwantS (⟨r181.2.Reader, (⟨r181.2.f.ID, r181.2.f.Long, r181.1 == ([49] : List UInt8), r181.2.f.Remote, r181.2.f.Size, r181.2.f.Data⟩ : Frame)⟩ : FReader) ([48] : List UInt8)) = r358 →
          (r358.f.Data.length ≤ 140737488355328 →
          (K r358))))) ∧
        (r181.2.f.Long = false →
          (K (⟨r181.2.Reader, (⟨r181.2.f.ID, r181.2.f.Long, r181.1 == ([49] : List UInt8), r181.2.f.Remote, r181.2.f.Size, r181.2.f.Data⟩ : Frame)⟩ : FReader))))))))))))))))))))))))

def fBits_vc (u0 : Frame) (K : ((List UInt8) × Int) → Prop) : Prop :=
  (u0.Data.length ≤ 140737488355328 →
    ((((fcheckfr u0) != 0) = true →
      (K ([], (fcheckfr u0)))) ∧
    (((fcheckfr u0) != 0) = false →
      ((fheadpre u0) ∧
      (((!u0.Fast) = true →
        ((((fheadS u0).length : Int) + (((csumS 0 (fheadS u0)).1).length : Int) ≤ 9223372036854775807) ∧
        (((((sputS ((fheadS u0) ++ ((csumS 0 (fheadS u0)).1))).1).length : Int) + (([49, 49, 49, 49, 49, 49, 49, 49, 49, 49] : List UInt8).length : Int) ≤ 9223372036854775807) ∧
        (K (((sputS ((fheadS u0) ++ ((csumS 0 (fheadS u0)).1))).1) ++ ([49, 49, 49, 49, 49, 49, 49, 49, 49, 49] : List UInt8), 0))))) ∧
      ((!u0.Fast) = false →
        ((0 ≤ (w64 ((((sputS (fheadS u0)).1).length : Int) - ((fheadS u0).length : Int)))) ∧
        (((((sputS (fheadS u0)).1).length : Int) + ((fcountS (w64 ((((sputS (fheadS u0)).1).length : Int) - ((fheadS u0).length : Int)))).length : Int) ≤ 9223372036854775807) ∧
        ((((fcountS (w64 ((((sputS (fheadS u0)).1).length : Int) - ((fheadS u0).length : Int)))).length : Int) + (((csumS (fkind u0) (((sputS (fheadS u0)).1) ++ (fcountS (w64 ((((sputS (fheadS u0)).1).length : Int) - ((fheadS u0).length : Int)))))).1).length : Int) ≤ 9223372036854775807) ∧
        ((0 ≤ w64 ((((sputS (fheadS u0)).1).length : Int) - 1) ∧ w64 ((((sputS (fheadS u0)).1).length : Int) - 1) < (((sputS (fheadS u0)).1).length : Int)) ∧
        (∀ c195, ((sputS (fheadS u0)).1)[(w64 ((((sputS (fheadS u0)).1).length : Int) - 1)).toNat]? = some c195 →
        (((((sputS (fheadS u0)).1).length : Int) + (((sfixedS ((fcountS (w64 ((((sputS (fheadS u0)).1).length : Int) - ((fheadS u0).length : Int)))) ++ ((csumS (fkind u0) (((sputS (fheadS u0)).1) ++ (fcountS (w64 ((((sputS (fheadS u0)).1).length : Int) - ((fheadS u0).length : Int)))))).1)) (c195.toNat : Int)).1).length : Int) ≤ 9223372036854775807) ∧
        ((((((sputS (fheadS u0)).1) ++ ((sfixedS ((fcountS (w64 ((((sputS (fheadS u0)).1).length : Int) - ((fheadS u0).length : Int)))) ++ ((csumS (fkind u0) (((sputS (fheadS u0)).1) ++ (fcountS (w64 ((((sputS (fheadS u0)).1).length : Int) - ((fheadS u0).length : Int)))))).1)) (c195.toNat : Int)).1)).length : Int) + (([49, 49, 49, 49, 49, 49, 49, 49, 49, 49] : List UInt8).length : Int) ≤ 9223372036854775807) ∧
        (K ((((sputS (fheadS u0)).1) ++ ((sfixedS ((fcountS (w64 ((((sputS (fheadS u0)).1).length : Int) - ((fheadS u0).length : Int)))) ++ ((csumS (fkind u0) (((sputS (fheadS u0)).1) ++ (fcountS (w64 ((((sputS (fheadS u0)).1).length : Int) - ((fheadS u0).length : Int)))))).1)) (c195.toNat : Int)).1)) ++ ([49, 49, 49, 49, 49, 49, 49, 49, 49, 49] : List UInt8), 0)))))))))))))))

def flongest_vc (u0 : Bool) (u1 : Bool) (u2 : Int) (K : (Int × Int) → Prop) : Prop :=
  ((((decide (u2 < 0)) || (decide (u2 > 64))) = true →
      (K (0, 2))) ∧
    (((decide (u2 < 0)) || (decide (u2 > 64))) = false →
      ((0 ≤ u2 ∧ u2 ≤ u2 ∧ u2 * 1 ≤ 140737488355328) ∧
      ((((fcheckfr (⟨0, u0, u1, false, 0, (List.replicate u2.toNat (0 : Int))⟩ : Frame)) != 0) = true →
        (K (0, (fcheckfr (⟨0, u0, u1, false, 0, (List.replicate u2.toNat (0 : Int))⟩ : Frame))))) ∧
      (((fcheckfr (⟨0, u0, u1, false, 0, (List.replicate u2.toNat (0 : Int))⟩ : Frame)) != 0) = false →
        ((fheadpre (⟨0, u0, u1, false, 0, (List.replicate u2.toNat (0 : Int))⟩ : Frame)) ∧
        (((!u1) = true →
          (K (w64 (((smost (w64 (((fheadS (⟨0, u0, u1, false, 0, (List.replicate u2.toNat (0 : Int))⟩ : Frame)).length : Int) + 15))).1) + 10), 0))) ∧
        ((!u1) = false →
          (K (w64 ((w64 (((smost ((fheadS (⟨0, u0, u1, false, 0, (List.replicate u2.toNat (0 : Int))⟩ : Frame)).length : Int)).1) + (w64 ((w64 (4 + ((csize (fkind (⟨0, u0, u1, false, 0, (List.replicate u2.toNat (0 : Int))⟩ : Frame))).1))) + (w64 ((w64 ((w64 (4 + ((csize (fkind (⟨0, u0, u1, false, 0, (List.replicate u2.toNat (0 : Int))⟩ : Frame))).1))) + 3)).tdiv 4)))))) + 10), 0))))))))))

/-! Pure proofs: no program in sight. -/
theorem take_put (b : List UInt8) : ∀ (c : Counter) (r : List UInt8), ∃ c', takeF c (putF c b ++ r) b.length = .ok (b, r, c') := by
  induction b with
  | nil => intro c r; exact ⟨c, by simp [putF, takeF]⟩
  | cons x b ih =>
    intro c r
    rw [putF]
    by_cases h5 : (nx c x).n = 5
    · obtain ⟨c', hc⟩ := ih (nx (nx c x) (flip x)) r
      rw [if_pos h5]
      refine ⟨c', ?_⟩
      rw [List.cons_append, List.cons_append, List.length_cons, takeF_cons, if_pos h5]
      dsimp only
      rw [if_pos rfl, hc]
      rfl
    · obtain ⟨c', hc⟩ := ih (nx c x) r
      rw [if_neg h5]
      refine ⟨c', ?_⟩
      rw [List.cons_append, List.length_cons, takeF_cons, if_neg h5, hc]
      rfl
theorem put_row (b : List UInt8) (h : isRow b = true) : ∀ c, isRow (putF c b) = true := by
  induction b with
  | nil => exact fun _ => rfl
  | cons x b ih =>
    intro c
    rw [isRow_cons, Bool.and_eq_true] at h
    rw [putF]
    split
    · rw [isRow_cons, isRow_cons, h.1, isBit_flip, ih h.2]; rfl
    · rw [isRow_cons, h.1, ih h.2]; rfl
theorem put_best (b : List UInt8) : ∀ c : Counter, 0 ≤ c.n ∧ c.n ≤ 4 → bestF c (putF c b) ≤ 5 := by
  induction b with
  | nil => intro c h; simp [putF, bestF]
  | cons x b ih =>
    intro c h
    have hb := nx_bound c x 4 h
    rw [putF]
    split
    · rename_i h5
      rw [bestF, bestF]
      have e := nx_flip c x
      have := ih (nx (nx c x) (flip x)) (by rw [e]; exact ⟨by show (0 : Int) ≤ 1; decide, by show (1 : Int) ≤ 4; decide⟩)
      have e1 : (nx (nx c x) (flip x)).n = 1 := by rw [e]
      omega
    · rename_i h5
      rw [bestF]
      have := ih (nx c x) (by omega)
      omega
theorem put_length (b : List UInt8) : ∀ c : Counter, 1 ≤ c.n ∧ c.n ≤ 4 → ((putF c b).length : Int) ≤ b.length + (c.n - 1 + b.length) / 4 ∧ b.length ≤ (putF c b).length := by
  induction b with
  | nil => intro c h; simp [putF]; omega
  | cons x b ih =>
    intro c h
    have hb := nx_bound c x 4 ⟨by omega, by omega⟩
    have hn := nx_n c x
    rw [putF]
    split
    · rename_i h5
      have e := nx_flip c x
      have := ih (nx (nx c x) (flip x)) (by rw [e]; exact ⟨by show (1 : Int) ≤ 1; decide, by show (1 : Int) ≤ 4; decide⟩)
      have e1 : (nx (nx c x) (flip x)).n = 1 := by rw [e]
      rw [e1] at this
      have hc4 : c.n = 4 := by
        rw [h5] at hn
        split at hn <;> omega
      simp only [List.length_cons]
      omega
    · rename_i h5
      have := ih (nx c x) (by omega)
      have hle : (nx c x).n ≤ c.n + 1 := by rw [hn]; split <;> omega
      simp only [List.length_cons]
      omega
theorem put_length0 (b : List UInt8) (h : isRow b = true) : ((putF ⟨0, 0⟩ b).length : Int) ≤ (smost b.length).1 ∨ 1000 < b.length := by
  rcases Nat.lt_or_ge 1000 b.length with h1 | h1
  · exact .inr h1
  · left
    cases b with
    | nil => decide
    | cons x b =>
      rw [isRow_cons, Bool.and_eq_true] at h
      rw [List.length_cons] at h1
      have e0 : nx ⟨0, 0⟩ x = ⟨(x.toNat : Int), 1⟩ := by rcases isBit_or h.1 with rfl | rfl <;> rfl
      have := put_length b (nx ⟨0, 0⟩ x) (by rw [e0]; exact ⟨by show (1 : Int) ≤ 1; decide, by show (1 : Int) ≤ 4; decide⟩)
      have e1 : (nx ⟨0, 0⟩ x).n = 1 := by rw [e0]
      rw [e1] at this
      rw [putF, if_neg (by rw [e1]; decide)]
      have hs : (smost ((x :: b).length : Nat)).1 = ((b.length + 1 : Nat) : Int) + (b.length : Int) / 4 := by
        unfold smost
        have g1 : ((decide ((((x :: b).length : Nat) : Int) < 0)) || (decide ((((x :: b).length : Nat) : Int) > 1000))) = false := by simp; omega
        have g2 : ((((x :: b).length : Nat) : Int) == 0) = false := by simp; omega
        rw [g1, g2]
        show w64 ((((x :: b).length : Nat) : Int) + w64 ((w64 ((((x :: b).length : Nat) : Int) - 1)).tdiv 4)) = _
        rw [List.length_cons]
        have e3 : w64 (((b.length + 1 : Nat) : Int) - 1) = (b.length : Int) := by rw [w64_eq _ (by omega)]; omega
        rw [e3, Int.tdiv_eq_ediv_of_nonneg (by omega), w64_eq ((b.length : Int) / 4) (by omega), w64_eq _ (by omega)]
      rw [hs, List.length_cons]
      omega
theorem sputS_ok {b : List UInt8} (h : (sputS b).2 = 0) : bcheckS b = 0 ∧ b.length ≤ 1000 ∧ isRow b = true ∧ sputS b = (putF ⟨0, 0⟩ b, 0) := by
  unfold sputS at h ⊢
  by_cases h1 : bcheckS b ≠ 0
  · rw [if_pos h1] at h; exact absurd h h1
  · rw [if_neg h1]
    have h2 : bcheckS b = 0 := by simpa using h1
    exact ⟨h2, ((bcheck_zero b).1 h2).1, ((bcheck_zero b).1 h2).2, rfl⟩
theorem put_len2 (b : List UInt8) : ∀ c, (putF c b).length ≤ 2 * b.length ∧ b.length ≤ (putF c b).length := by
  induction b with
  | nil => intro c; simp [putF]
  | cons x b ih =>
    intro c
    rw [putF]
    split
    · have := ih (nx (nx c x) (flip x)); simp only [List.length_cons]; omega
    · have := ih (nx c x); simp only [List.length_cons]; omega
theorem smost_eq (n : Int) (h : 0 ≤ n ∧ n ≤ 1000) : smost n = (w64 (n + w64 ((max (w64 (n - 1)) 0).tdiv 4)), 0) := by
  unfold smost
  have g1 : ((decide (n < 0)) || (decide (n > 1000))) = false := by simp; omega
  rw [g1]
  by_cases h0 : n = 0
  · subst h0; rfl
  · have g2 : (n == 0) = false := by simpa using h0
    rw [g2]
    show (w64 (n + w64 ((w64 (n - 1)).tdiv 4)), (0 : Int)) = _
    rw [w64_eq (n - 1) (by omega)]
    have : max (n - 1) 0 = n - 1 := by omega
    rw [this]
abbrev lframe (lo fa : Bool) (n : Int) : Frame := ⟨0, lo, fa, false, 0, List.replicate n.toNat (0 : Int)⟩
def flongestS (lo fa : Bool) (n : Int) : Int × Int :=
  if n < 0 ∨ 64 < n then (0, 2) else if fcheckfr (lframe lo fa n) ≠ 0 then (0, fcheckfr (lframe lo fa n)) else
  if fa = false then (w64 ((smost (w64 (((fheadS (lframe lo fa n)).length : Int) + 15))).1 + 10), 0)
  else (w64 (w64 ((smost ((fheadS (lframe lo fa n)).length : Int)).1 + w64 (w64 (4 + (csize (fkind (lframe lo fa n))).1) + w64 ((w64 (w64 (4 + (csize (fkind (lframe lo fa n))).1) + 3)).tdiv 4))) + 10), 0)
theorem flongest_ok (lo fa : Bool) (n : Int) : flongest_vc lo fa n (fun r => r = flongestS lo fa n) := by
  refine ⟨fun h => ?_, fun h => ⟨?_, fun h1 => ?_, fun h1 => ⟨?_, fun h2 => ?_, fun h2 => ?_⟩⟩⟩
  · unfold flongestS
    rw [if_pos (by simpa using h)]
  · simp at h; omega
  all_goals
    have h : ¬ (n < 0 ∨ 64 < n) := by simp at h; omega
  · have h1 : fcheckfr (lframe lo fa n) ≠ 0 := by simpa using h1
    unfold flongestS
    rw [if_neg h, if_pos h1]
  · have h1 : fcheckfr (lframe lo fa n) = 0 := by simpa using h1
    obtain ⟨c1, c2, c3, c4, c5, c6, c7, c8, c9, c10⟩ := fcheckfr_zero h1
    refine ⟨c1, c2, c5, c6, c8, fun x hx => ?_, fun _ => c10⟩
    have : x = 0 := List.eq_of_mem_replicate hx
    omega
  · have h1' : fcheckfr (lframe lo fa n) = 0 := by simpa using h1
    have h1 : ¬ fcheckfr (lframe lo fa n) ≠ 0 := fun h => h h1'
    unfold flongestS
    rw [if_neg h, if_neg h1, if_pos (by simpa using h2)]
  · have h1' : fcheckfr (lframe lo fa n) = 0 := by simpa using h1
    have h1 : ¬ fcheckfr (lframe lo fa n) ≠ 0 := fun h => h h1'
    unfold flongestS
    rw [if_neg h, if_neg h1, if_neg (by simpa using h2)]
def nam1 (r : FReader) : FReader := ⟨(rnumberS (rwantS r [48]) 11).2.Reader, ⟨(rnumberS (rwantS r [48]) 11).1, (rnumberS (rwantS r [48]) 11).2.f.Long, (rnumberS (rwantS r [48]) 11).2.f.Fast, (rnumberS (rwantS r [48]) 11).2.f.Remote, (rnumberS (rwantS r [48]) 11).2.f.Size, (rnumberS (rwantS r [48]) 11).2.f.Data⟩⟩
def nam2 (c d : List UInt8 × FReader) : FReader := ⟨d.2.Reader, ⟨d.2.f.ID, d.1 == [49], d.2.f.Fast, c.1 == [49], d.2.f.Size, d.2.f.Data⟩⟩
def nam3 (c : Bool) (r : FReader) : FReader := if c = true then r else rfailS r 4
def nam4 (r : FReader) : FReader := ⟨(rnumberS r 18).2.Reader, ⟨bOr .i64 (bShl .i64 r.f.ID 18) (rnumberS r 18).1, r.f.Long, r.f.Fast, r.f.Remote, r.f.Size, r.f.Data⟩⟩
def nam5 (g : List UInt8 × FReader) : FReader := ⟨g.2.Reader, ⟨g.2.f.ID, g.2.f.Long, g.2.f.Fast, g.1 == [49], g.2.f.Size, g.2.f.Data⟩⟩
def nam6 (r : FReader) : FReader :=
  if ((rtakeFS (rtakeFS (nam1 r) 1).2 1).1 == [49]) = true then
    nam5 (rtakeFS (nam4 (nam3 ((rtakeFS (nam1 r) 1).1 == [49]) (nam2 (rtakeFS (nam1 r) 1) (rtakeFS (rtakeFS (nam1 r) 1).2 1)))) 1)
  else nam2 (rtakeFS (nam1 r) 1) (rtakeFS (rtakeFS (nam1 r) 1).2 1)
def nam7 (h : List UInt8 × FReader) : FReader := ⟨h.2.Reader, ⟨h.2.f.ID, h.2.f.Long, h.1 == [49], h.2.f.Remote, h.2.f.Size, h.2.f.Data⟩⟩
def nam8 (h : List UInt8 × FReader) : FReader :=
  if (h.1 == [49]) = true then rwantS (rwantS (rwantS (if h.2.f.Remote = true then rfailS (nam7 h) 4 else nam7 h) [48]) [49]) [48]
  else if h.2.f.Long = true then rwantS (nam7 h) [48] else nam7 h
def rnamesS (r : FReader) : FReader := nam8 (rtakeFS (nam6 r) 1)
theorem rtakeFS_Rok {r : FReader} {n : Int} (h : Rok r.Reader) : Rok (rtakeFS r n).2.Reader := (rtakeS_Rok n h).1
theorem nam1_Rok {r : FReader} (h : Rok r.Reader) : Rok (nam1 r).Reader := rnumberS_Rok (rwantS_Rok h)
theorem nam3_Rok {r : FReader} {c : Bool} (h : Rok r.Reader) : Rok (nam3 c r).Reader := by unfold nam3; split; exact h; exact rfailS_Rok h
theorem nam4_Rok {r : FReader} (h : Rok r.Reader) : Rok (nam4 r).Reader := rnumberS_Rok h
theorem nam6_Rok {r : FReader} (h : Rok r.Reader) : Rok (nam6 r).Reader := by
  have h1 : Rok (rtakeFS (rtakeFS (nam1 r) 1).2 1).2.Reader := rtakeFS_Rok (rtakeFS_Rok (nam1_Rok h))
  unfold nam6
  split
  · exact rtakeFS_Rok (nam4_Rok (nam3_Rok h1))
  · exact h1
theorem nam8_Rok {h : List UInt8 × FReader} (hR : Rok h.2.Reader) : Rok (nam8 h).Reader := by
  unfold nam8
  split
  · refine rwantS_Rok (rwantS_Rok (rwantS_Rok ?_))
    split
    · exact rfailS_Rok hR
    · exact hR
  · split
    · exact rwantS_Rok hR
    · exact hR
theorem rnamesS_Rok {r : FReader} (h : Rok r.Reader) : Rok (rnamesS r).Reader := nam8_Rok (rtakeFS_Rok (nam6_Rok h))
theorem rnames_ok (r : FReader) (h : Rok r.Reader) : rnames_vc r (fun q => q = rnamesS r) := by
  intro _
  refine ⟨h, ?_⟩
  rintro a ha _
  have ha' : a = rwantS r [48] := ha.symm
  refine ⟨by rw [ha']; exact ⟨rwantS_Rok h, by decide, by decide⟩, ?_⟩
  rintro b hb _
  have hn1 : nam1 r = ⟨b.2.Reader, ⟨b.1, b.2.f.Long, b.2.f.Fast, b.2.f.Remote, b.2.f.Size, b.2.f.Data⟩⟩ := by unfold nam1; rw [← ha', hb]
  rw [← hn1]
  refine ⟨⟨nam1_Rok h, by decide⟩, ?_⟩
  rintro c rfl _
  refine ⟨⟨rtakeFS_Rok (nam1_Rok h), by decide⟩, ?_⟩
  rintro d rfl _
  have hd : Rok (rtakeFS (rtakeFS (nam1 r) 1).2 1).2.Reader := rtakeFS_Rok (rtakeFS_Rok (nam1_Rok h))
  refine ⟨fun y => y = nam6 r, ⟨fun h1 => ⟨fun y => y = nam3 ((rtakeFS (nam1 r) 1).1 == [49]) (nam2 (rtakeFS (nam1 r) 1) (rtakeFS (rtakeFS (nam1 r) 1).2 1)), ⟨fun h2 => ?_, fun h2 => ?_⟩, ?_⟩, fun h1 => ?_⟩, ?_⟩
  · rintro y rfl _
    have h2 : ((rtakeFS (nam1 r) 1).1 == [49]) = false := by simpa using h2
    unfold nam3
    rw [if_neg (by rw [h2]; simp)]
    rfl
  · have h2 : ((rtakeFS (nam1 r) 1).1 == [49]) = true := by simpa using h2
    unfold nam3
    rw [if_pos h2]
    rfl
  · rintro y rfl
    have h3 : Rok (nam3 ((rtakeFS (nam1 r) 1).1 == [49]) (nam2 (rtakeFS (nam1 r) 1) (rtakeFS (rtakeFS (nam1 r) 1).2 1))).Reader := nam3_Rok hd
    generalize hy : nam3 ((rtakeFS (nam1 r) 1).1 == [49]) (nam2 (rtakeFS (nam1 r) 1) (rtakeFS (rtakeFS (nam1 r) 1).2 1)) = y at *
    refine ⟨⟨h3, by decide, by decide⟩, ⟨nam4_Rok h3, by decide⟩, ?_⟩
    rintro g hg _
    have hg' : g = rtakeFS (nam4 y) 1 := hg.symm
    unfold nam6
    rw [if_pos h1, hy, ← hg']
    rfl
  · unfold nam6
    rw [if_neg (by rw [h1]; simp)]
    rfl
  · rintro y rfl
    have h6 := nam6_Rok h
    refine ⟨⟨h6, by decide⟩, ?_⟩
    rintro q hq _
    have hqR : Rok q.2.Reader := by rw [← hq]; exact rtakeFS_Rok h6
    have hS : rnamesS r = nam8 q := by unfold rnamesS; rw [hq]
    rw [hS]
    refine ⟨fun h1 => ⟨fun y => y = if q.2.f.Remote = true then rfailS (nam7 q) 4 else nam7 q, ⟨fun h2 => ?_, fun h2 => ?_⟩, ?_⟩, fun h1 => ⟨fun h2 => ⟨hqR, ?_⟩, fun h2 => ?_⟩⟩
    · rintro y rfl _
      rw [if_pos h2]
      unfold nam7
      rw [h1]
    · rw [if_neg (by rw [h2]; simp)]
      unfold nam7
      rw [h1]
    · rintro y hy
      have hyR : Rok y.Reader := by
        rw [hy]
        split
        · exact rfailS_Rok hqR
        · exact hqR
      refine ⟨hyR, ?_⟩
      rintro z rfl _
      refine ⟨rwantS_Rok hyR, ?_⟩
      rintro z rfl _
      refine ⟨rwantS_Rok (rwantS_Rok hyR), ?_⟩
      rintro z rfl _
      unfold nam8
      rw [if_pos h1, ← hy]
    · rintro y rfl _
      unfold nam8
      rw [if_neg (by rw [h1]; simp), if_pos h2]
      unfold nam7
      rw [h1]
    · unfold nam8
      rw [if_neg (by rw [h1]; simp), if_neg (by rw [h2]; simp)]
      unfold nam7
      rw [h1]
theorem csumS_bound (i : Int) (b : List UInt8) : (csumS i b).1.length ≤ 21 ∧ isRow (csumS i b).1 = true := by
  unfold csumS
  split
  · exact ⟨by simp, rfl⟩
  · split
    · rename_i h
      have := kind_size (isKind_iff.1 h)
      refine ⟨?_, wr_row _ _⟩
      show (wr _ _).length ≤ 21
      rw [wr_length]
      unfold sizeN
      omega
    · exact ⟨by simp, rfl⟩
theorem cnt4_ok (n : Nat) : (cnt4 n).length = 4 ∧ isRow (cnt4 n) = true := by
  have h : ∀ m : Fin 8, (cnt4 m.val).length = 4 ∧ isRow (cnt4 m.val) = true := by decide
  have e : cnt4 n = cnt4 (n % 8) := by unfold cnt4; rw [Nat.mod_mod]
  rw [e]
  exact h ⟨n % 8, Nat.mod_lt _ (by decide)⟩
theorem fixF_len : ∀ (b : List UInt8) (k : Nat) (a : UInt8), (fixF k a b).length ≤ 2 * b.length := by
  intro b
  induction b with
  | nil => intro k a; simp [fixF]
  | cons c r ih =>
    intro k a
    rw [fixF]
    have := ih (k + 1) c
    split <;> simp <;> omega
def lastB (p : List UInt8) : UInt8 := p.getLastD 48
theorem lastB_at {p : List UInt8} {c : UInt8} (h : p[p.length - 1]? = some c) : lastB p = c := by
  unfold lastB
  rw [List.getLastD_eq_getLast?, List.getLast?_eq_getElem?, h]
  rfl
def fastEnd (p : List UInt8) (hl : Nat) (kind : Int) : List UInt8 := (sfixedS (cnt4 (p.length - hl) ++ (csumS kind (p ++ cnt4 (p.length - hl))).1) ((lastB p).toNat : Int)).1
theorem fastEnd_len (p : List UInt8) (hl : Nat) (kind : Int) : (fastEnd p hl kind).length ≤ 50 := by
  unfold fastEnd sfixedS
  split
  · simp
  · split
    · simp
    · dsimp only
      have h1 := fixF_len (cnt4 (p.length - hl) ++ (csumS kind (p ++ cnt4 (p.length - hl))).1) 0 (UInt8.ofNat ((lastB p).toNat : Int).toNat)
      have h2 := (csumS_bound kind (p ++ cnt4 (p.length - hl))).1
      have h3 := (cnt4_ok (p.length - hl)).1
      rw [List.length_append] at h1
      omega
/-- At a fixed place the same bit again. -/
theorem u8eq (a b : UInt8) : ((a.toNat : Int) == (b.toNat : Int)) = (a == b) := by
  rw [Bool.eq_iff_iff, beq_iff_eq, beq_iff_eq]
  constructor
  · intro h; exact UInt8.toNat_inj.1 (by omega)
  · intro h; rw [h]
theorem fheadS_pos (f : Frame) : 1 ≤ (fheadS f).length := by unfold fheadS; simp
def tail10 : List UInt8 := [49, 49, 49, 49, 49, 49, 49, 49, 49, 49]
def BitsS (f : Frame) : List UInt8 × Int := if fcheckfr f ≠ 0 then ([], fcheckfr f) else
  if f.Fast = false then ((sputS (fheadS f ++ sumR 0 (fheadS f))).1 ++ tail10, 0)
  else (((sputS (fheadS f)).1 ++ fastEnd (sputS (fheadS f)).1 (fheadS f).length (fkind f)) ++ tail10, 0)
theorem fheadS_row (f : Frame) : isRow (fheadS f) = true := by
  unfold fheadS fctl
  simp only [isRow_append, fnameS_row, wr_row, ofb_row, Bool.true_and, Bool.and_true]
  split
  · rfl
  · split <;> rfl
theorem fheadS_len (f : Frame) : (fheadS f).length = 1 + (if f.Long = false then 13 else 32) + (if f.Fast = true then 4 else if f.Long = true then 2 else 1) + 4 + 8 * f.Data.length := by
  unfold fheadS fctl
  simp only [List.length_append, fnameS_len, wr_length, ofb_length, List.length_cons, List.length_nil]
  split <;> (try split) <;> (try split) <;> simp_all
theorem sputS_row {b : List UInt8} (h : isRow b = true) (hl : b.length ≤ 1000) : sputS b = (putF ⟨0, 0⟩ b, 0) := by
  unfold sputS
  rw [if_neg (by rw [(bcheck_zero b).2 ⟨hl, h⟩]; simp)]
theorem csumS_row {i : Int} {b : List UInt8} (h1 : isKind i = true) (h2 : b.length ≤ 1000) (h3 : isRow b = true) : csumS i b = (sumR i b, 0) := by
  unfold csumS
  rw [if_neg (by rw [(bcheck_zero b).2 ⟨h2, h3⟩]; simp), if_pos h1]
theorem okpre {f : Frame} (h : fcheckfr f = 0) (hd : ∀ x ∈ f.Data, 0 ≤ x ∧ x ≤ 255) : fheadpre f := by
  obtain ⟨c1, c2, c3, c4, c5, c6, c7, c8, c9, c10⟩ := fcheckfr_zero h
  exact ⟨c1, c2, c5, c6, c8, hd, fun _ => c10⟩
theorem fBits_ok (f : Frame) (hd : ∀ x ∈ f.Data, 0 ≤ x ∧ x ≤ 255) : fBits_vc f (fun r => r = BitsS f) := by
  intro _
  refine ⟨fun h => ?_, fun h => ?_⟩
  · have h : fcheckfr f ≠ 0 := by simpa using h
    unfold BitsS
    rw [if_pos h]
  · have h0 : fcheckfr f = 0 := by simpa using h
    have hpre := okpre h0 hd
    obtain ⟨c1, c2, c3, c4, c5, c6, c7, c8, c9, c10⟩ := fcheckfr_zero h0
    have hhl := fheadS_len f
    have hl : (fheadS f).length ≤ 553 := by rw [hhl]; split <;> split <;> (try split) <;> omega
    have hrow := fheadS_row f
    have hp2 := put_len2 (fheadS f) ⟨0, 0⟩
    refine ⟨hpre, fun h1 => ?_, fun h1 => ?_⟩
    · have hf : f.Fast = false := by simpa using h1
      have hs : csumS 0 (fheadS f) = (sumR 0 (fheadS f), 0) := csumS_row rfl (by omega) hrow
      have hsl : (sumR 0 (fheadS f)).length = 15 := wr_length _ _
      have hsr : isRow (sumR 0 (fheadS f)) = true := wr_row _ _
      have hpr : sputS (fheadS f ++ sumR 0 (fheadS f)) = (putF ⟨0, 0⟩ (fheadS f ++ sumR 0 (fheadS f)), 0) := sputS_row (by rw [isRow_append, hrow, hsr]; rfl) (by simp; omega)
      have hp3 := put_len2 (fheadS f ++ sumR 0 (fheadS f)) ⟨0, 0⟩
      rw [hs]
      dsimp only
      have hS : BitsS f = ((sputS (fheadS f ++ sumR 0 (fheadS f))).1 ++ tail10, 0) := by unfold BitsS; rw [if_neg (fun hc => hc h0), if_pos hf]
      rw [hS]
      refine ⟨by omega, ?_, rfl⟩
      rw [hpr]
      dsimp only
      simp at hp3 ⊢
      omega
    · have hf : f.Fast = true := by simpa using h1
      have hpr : sputS (fheadS f) = (putF ⟨0, 0⟩ (fheadS f), 0) := sputS_row hrow (by omega)
      have hS : BitsS f = (((sputS (fheadS f)).1 ++ fastEnd (sputS (fheadS f)).1 (fheadS f).length (fkind f)) ++ tail10, 0) := by unfold BitsS; rw [if_neg (fun hc => hc h0), if_neg (by rw [hf]; simp)]
      rw [hS, hpr]
      dsimp only
      have hpos := fheadS_pos f
      generalize fheadS f = h at *
      generalize putF ⟨0, 0⟩ h = p at *
      have ew : w64 ((p.length : Int) - (h.length : Int)) = ((p.length - h.length : Nat) : Int) := by rw [w64_eq _ (by omega)]; omega
      have ew2 : w64 ((p.length : Int) - 1) = ((p.length - 1 : Nat) : Int) := by rw [w64_eq _ (by omega)]; omega
      have ec : fcountS ((p.length - h.length : Nat) : Int) = cnt4 (p.length - h.length) := by unfold fcountS; rw [Int.toNat_natCast]
      rw [ew, ew2, ec]
      have hc4 := (cnt4_ok (p.length - h.length)).1
      have hsb := (csumS_bound (fkind f) (p ++ cnt4 (p.length - h.length))).1
      refine ⟨by omega, by omega, by omega, ⟨by omega, by omega⟩, fun c hc => ?_⟩
      rw [Int.toNat_natCast] at hc
      have hlast := lastB_at hc
      have he : (sfixedS (cnt4 (p.length - h.length) ++ (csumS (fkind f) (p ++ cnt4 (p.length - h.length))).1) (c.toNat : Int)).1 = fastEnd p h.length (fkind f) := by unfold fastEnd; rw [hlast]
      rw [he]
      have hel := fastEnd_len p h.length (fkind f)
      refine ⟨by omega, ?_, rfl⟩
      simp
      omega

end Go.Proofs.YtmbdcehmeiiaoaaGreatDoor
set_option linter.unusedVariables false
set_option linter.unusedSimpArgs false
namespace Go.Proofs.YtmbdcehmeiiaoaaGreatDoor
open Go.Sy Go.RowKit
def rlong_vc (u0 : Bool) (u1 : Bool) (u2 : Int) (K : Int → Prop) : Prop :=
  ((0 ≤ u2 ∧ u2 ≤ u2 ∧ u2 * 1 ≤ 140737488355328) ∧
    ((fcheckfr (⟨0, u0, u1, false, 0, (List.replicate u2.toNat (0 : Int))⟩ : Frame) = 0 ∧ ∀ x ∈ (⟨0, u0, u1, false, 0, (List.replicate u2.toNat (0 : Int))⟩ : Frame).Data, 0 ≤ x ∧ x ≤ 255) ∧
    (((!u1) = true →
      (K (w64 ((rlmost (w64 (((fheadS (⟨0, u0, u1, false, 0, (List.replicate u2.toNat (0 : Int))⟩ : Frame)).length : Int) + 15))) + 10)))) ∧
    ((!u1) = false →
      (((decide (u2 > 16)) = true →
        (K (w64 ((w64 ((w64 ((rlmost ((fheadS (⟨0, u0, u1, false, 0, (List.replicate u2.toNat (0 : Int))⟩ : Frame)).length : Int)) + 25)) + 7)) + 10)))) ∧
      ((decide (u2 > 16)) = false →
        (K (w64 ((w64 ((w64 ((rlmost ((fheadS (⟨0, u0, u1, false, 0, (List.replicate u2.toNat (0 : Int))⟩ : Frame)).length : Int)) + 21)) + 6)) + 10)))))))))

/-! Pure proofs: no program in sight. -/
theorem smost_pos (n : Int) (h : 1 ≤ n ∧ n ≤ 1000) : (smost n).1 = rlmost n := by
  unfold smost rlmost
  have e1 : ((decide (n < 0)) || (decide (n > 1000))) = false := by
    rw [decide_eq_false (by omega), decide_eq_false (by omega)]
    rfl
  have e2 : (n == 0) = false := by rw [beq_eq_false_iff_ne]; omega
  rw [e1, e2]
  rfl
theorem rlmost_bound (n : Int) (h : 1 ≤ n ∧ n ≤ 1000) : 1 ≤ rlmost n ∧ rlmost n ≤ 1250 := by
  unfold rlmost
  rw [w64_eq (n - 1) (by omega), Int.tdiv_eq_ediv_of_nonneg (by omega), w64_eq ((n - 1) / 4) (by omega), w64_eq _ (by omega)]
  omega
def rlongS (lo fa : Bool) (n : Int) : Int := (flongestS lo fa n).1
theorem rlong_ok (lo fa : Bool) (n : Int) (h : 0 ≤ n ∧ n ≤ 64 ∧ fcheckfr (lframe lo fa n) = 0) : rlong_vc lo fa n (fun r => r = rlongS lo fa n) := by
  obtain ⟨n0, n1, hc⟩ := h
  have hz : ∀ x ∈ (lframe lo fa n).Data, 0 ≤ x ∧ x ≤ 255 := fun x hx => by
    have : x = 0 := List.eq_of_mem_replicate hx
    omega
  have hl := fheadS_len (lframe lo fa n)
  obtain ⟨c1, c2, c3, c4, c5, c6, c7, c8, c9, c10⟩ := fcheckfr_zero hc
  have hh : 1 ≤ (fheadS (lframe lo fa n)).length ∧ (fheadS (lframe lo fa n)).length ≤ 900 := by
    rw [hl]
    have : (lframe lo fa n).Data.length ≤ 64 := c8
    constructor
    · omega
    · split <;> split <;> (try split) <;> omega
  have hd : (lframe lo fa n).Data.length = n.toNat := List.length_replicate
  have hS : rlongS lo fa n = if fa = false then w64 ((smost (w64 (((fheadS (lframe lo fa n)).length : Int) + 15))).1 + 10)
      else w64 (w64 ((smost ((fheadS (lframe lo fa n)).length : Int)).1 + w64 (w64 (4 + (csize (fkind (lframe lo fa n))).1) + w64 ((w64 (w64 (4 + (csize (fkind (lframe lo fa n))).1) + 3)).tdiv 4))) + 10) := by
    unfold rlongS flongestS
    rw [if_neg (by omega), if_neg (fun h => h hc)]
    split <;> rfl
  rw [hS]
  have eL : (⟨0, lo, fa, false, 0, List.replicate n.toNat (0 : Int)⟩ : Frame) = lframe lo fa n := rfl
  unfold rlong_vc
  rw [eL]
  have hk : fkind (lframe lo fa n) = bif !fa then 0 else bif decide (((lframe lo fa n).Data.length : Int) ≤ 16) then 1 else 2 := rfl
  rw [hd] at hk
  generalize fheadS (lframe lo fa n) = H at *
  have hb := rlmost_bound (H.length : Int) (by omega)
  refine ⟨by omega, ⟨hc, hz⟩, fun hF => ?_, fun hF => ⟨fun h16 => ?_, fun h16 => ?_⟩⟩
  · have hF : fa = false := by simpa using hF
    rw [if_pos hF, w64_eq ((H.length : Int) + 15) (by omega), smost_pos _ (by omega)]
  all_goals
    have hF : fa = true := by simpa using hF
    rw [if_neg (by rw [hF]; simp), smost_pos _ (by omega)]
    subst hF
  · have h16 := of_decide_eq_true h16
    have e : fkind (lframe lo true n) = 2 := by rw [hk, decide_eq_false (by omega)]; rfl
    have e2 : (csize 2).1 = 21 := rfl
    have e3 : w64 (w64 (4 + 21) + w64 ((w64 (w64 (4 + 21) + 3)).tdiv 4)) = 32 := rfl
    rw [e, e2, e3, w64_eq (rlmost (H.length : Int) + 25) (by omega), w64_eq (rlmost (H.length : Int) + 25 + 7) (by omega), w64_eq (rlmost (H.length : Int) + 32) (by omega)]
    congr 1
    omega
  · have h16 := of_decide_eq_false h16
    have e : fkind (lframe lo true n) = 1 := by rw [hk, decide_eq_true (by omega)]; rfl
    have e2 : (csize 1).1 = 17 := rfl
    have e3 : w64 (w64 (4 + 17) + w64 ((w64 (w64 (4 + 17) + 3)).tdiv 4)) = 27 := rfl
    rw [e, e2, e3, w64_eq (rlmost (H.length : Int) + 21) (by omega), w64_eq (rlmost (H.length : Int) + 21 + 6) (by omega), w64_eq (rlmost (H.length : Int) + 27) (by omega)]
    congr 1
    omega

end Go.Proofs.YtmbdcehmeiiaoaaGreatDoor
set_option linter.unusedVariables false
set_option linter.unusedSimpArgs false
namespace Go.Proofs.YtmbdcehmeiiaoaaGreatDoor
open Go.Sy Go.RowKit
def rother_vc (u0 : Int) (K : Int → Prop) : Prop :=
  (((u0 == 48) = true →
      (K 49)) ∧
    ((u0 == 48) = false →
      (K 48)))
def rother (u0 : Int) : Int :=
  bif u0 == 48 then 49
    else 48
theorem rother_ok (u0 : Int) : rother_vc u0 (fun r => r = rother u0) := ⟨fun h0 => (by simp only [rother, h0, cond_true, cond_false]), fun h0 => (by simp only [rother, h0, cond_true, cond_false])⟩

def rsame_vc (u0 : List UInt8) (K : Bool → Prop) : Prop :=
  ((0 ≤ (1 : Int) ∧ (1 : Int) ≤ (u0.length : Int)) ∧
    (((u0.take (1 : Int).toNat).length = 1) ∧
    (K ((count1S u0 (u0.take (1 : Int).toNat)) == (u0.length : Int)))))

def fixbits_vc (u0 : List UInt8) (u1 : Int) (K : (List UInt8) → Prop) : Prop :=
  (∃ inv11 : Int → (List UInt8) → Int → Prop, ∃ mu11 : Int → (List UInt8) → Int → Nat, inv11 u1 [] 0 ∧
    (∀ (x1 : Int) (x5 : List UInt8) (x6 : Int), inv11 x1 x5 x6 →
    (((decide (x6 < (u0.length : Int))) = true →
      ((0 ≤ x6 ∧ x6 ≤ (min (w64 (x6 + 4)) (u0.length : Int)) ∧ (min (w64 (x6 + 4)) (u0.length : Int)) ≤ (u0.length : Int)) ∧
      ((((bstr ([(rother x1)] : List Int)).length : Int) + (((u0.take (min (w64 (x6 + 4)) (u0.length : Int)).toNat).drop x6.toNat).length : Int) ≤ 9223372036854775807) ∧
      (((x5.length : Int) + (((bstr ([(rother x1)] : List Int)) ++ ((u0.take (min (w64 (x6 + 4)) (u0.length : Int)).toNat).drop x6.toNat)).length : Int) ≤ 9223372036854775807) ∧
      ((0 ≤ w64 (((x5 ++ ((bstr ([(rother x1)] : List Int)) ++ ((u0.take (min (w64 (x6 + 4)) (u0.length : Int)).toNat).drop x6.toNat))).length : Int) - 1) ∧ w64 (((x5 ++ ((bstr ([(rother x1)] : List Int)) ++ ((u0.take (min (w64 (x6 + 4)) (u0.length : Int)).toNat).drop x6.toNat))).length : Int) - 1) < ((x5 ++ ((bstr ([(rother x1)] : List Int)) ++ ((u0.take (min (w64 (x6 + 4)) (u0.length : Int)).toNat).drop x6.toNat))).length : Int)) ∧
      (∀ c106, (x5 ++ ((bstr ([(rother x1)] : List Int)) ++ ((u0.take (min (w64 (x6 + 4)) (u0.length : Int)).toNat).drop x6.toNat)))[(w64 (((x5 ++ ((bstr ([(rother x1)] : List Int)) ++ ((u0.take (min (w64 (x6 + 4)) (u0.length : Int)).toNat).drop x6.toNat))).length : Int) - 1)).toNat]? = some c106 →
      (inv11 (c106.toNat : Int) (x5 ++ ((bstr ([(rother x1)] : List Int)) ++ ((u0.take (min (w64 (x6 + 4)) (u0.length : Int)).toNat).drop x6.toNat))) (w64 (x6 + 4)) ∧ mu11 (c106.toNat : Int) (x5 ++ ((bstr ([(rother x1)] : List Int)) ++ ((u0.take (min (w64 (x6 + 4)) (u0.length : Int)).toNat).drop x6.toNat))) (w64 (x6 + 4)) < mu11 x1 x5 x6))))))) ∧
    ((decide (x6 < (u0.length : Int))) = false →
      (K x5)))))

/-! Pure proofs: no program in sight. -/
theorem rsame_ok (l : List UInt8) (h : 0 < l.length ∧ l.length ≤ 1000) : rsame_vc l (fun r => r = rsameS l) := by
  match l, h with
  | c :: r, h =>
    refine ⟨by omega, rfl, ?_⟩
    show (((((c :: r).count c : Nat) : Int)) == (((c :: r).length : Nat) : Int)) = r.all (· == c)
    rw [List.count_cons_self, List.length_cons]
    have h1 : ((((r.count c + 1 : Nat) : Int) == ((r.length + 1 : Nat) : Int))) = decide (r.count c = r.length) := by
      rw [Bool.eq_iff_iff]
      simp
      omega
    rw [h1, Bool.eq_iff_iff]
    simp only [decide_eq_true_eq, List.all_eq_true, beq_iff_eq]
    rw [List.count_eq_length]
    exact ⟨fun h x hx => (h x hx).symm, fun h x hx => (h x hx).symm⟩
def ct (x : List UInt8) : Counter := x.foldl nx ⟨0, 0⟩
theorem ct_snoc (x : List UInt8) (b : UInt8) : ct (x ++ [b]) = nx (ct x) b := by unfold ct; rw [List.foldl_append]; rfl
/-- The counter tells how the row ends. -/
theorem ct_trail (x : List UInt8) (hx : isRow x = true) (hne : x ≠ []) : ∃ (pre : List UInt8) (q : UInt8) (m : Nat), ct x = ⟨(q.toNat : Int), (m : Int)⟩ ∧ 1 ≤ m ∧ x = pre ++ List.replicate m q ∧ ∀ p, pre.getLast? = some p → p ≠ q := by
  have key : ∀ y : List UInt8, isRow y.reverse = true → y ≠ [] → ∃ (pre : List UInt8) (q : UInt8) (m : Nat), ct y.reverse = ⟨(q.toNat : Int), (m : Int)⟩ ∧ 1 ≤ m ∧ y.reverse = pre ++ List.replicate m q ∧ ∀ p, pre.getLast? = some p → p ≠ q := by
    intro y
    induction y with
    | nil => exact fun _ h => absurd rfl h
    | cons b y ih =>
      intro hr _
      rw [List.reverse_cons] at hr ⊢
      rw [isRow_append, Bool.and_eq_true] at hr
      have hb : isBit b = true := by have := hr.2; simpa [isRow] using this
      rw [ct_snoc]
      by_cases hy : y = []
      · subst hy
        refine ⟨[], b, 1, ?_, by omega, rfl, by simp⟩
        show nx ⟨0, 0⟩ b = _
        rcases isBit_or hb with rfl | rfl <;> rfl
      · obtain ⟨pre, q, m, h1, h2, h3, h4⟩ := ih hr.1 hy
        rw [h1]
        by_cases hq : b = q
        · subst hq
          refine ⟨pre, b, m + 1, ?_, by omega, ?_, h4⟩
          · unfold nx
            rw [if_pos rfl]
            rfl
          · rw [h3, List.append_assoc]
            congr 1
            exact List.replicate_succ'.symm
        · refine ⟨y.reverse, b, 1, ?_, by omega, rfl, fun p hp => ?_⟩
          · unfold nx
            rw [if_neg (fun h => hq (UInt8.toNat_inj.1 (by have h' : (b.toNat : Int) = (q.toNat : Int) := h; omega)))]
            rfl
          · rw [h3] at hp
            have : (pre ++ List.replicate m q).getLast? = some q := by
              rw [List.getLast?_append, List.getLast?_replicate, if_neg (by omega)]
              rfl
            rw [this] at hp
            have := Option.some.inj hp
            subst this
            exact fun h => hq h.symm
  have := key x.reverse (by rw [List.reverse_reverse]; exact hx) (by simpa using hne)
  rw [List.reverse_reverse] at this
  exact this
theorem last_five (x : List UInt8) (hx : isRow x = true) (h5 : 5 ≤ x.length) : ∃ q, x[x.length - 1]? = some q ∧ (ct x).last = (q.toNat : Int) ∧ ((x.drop (x.length - 5)).count q = 5 ↔ 5 ≤ (ct x).n) ∧ (rsameS (x.drop (x.length - 5)) = true ↔ 5 ≤ (ct x).n) := by
  obtain ⟨pre, q, m, h1, h2, h3, h4⟩ := ct_trail x hx (by rintro rfl; simp at h5)
  have hlen : x.length = pre.length + m := by rw [h3]; simp
  refine ⟨q, ?_, by rw [h1], ?_⟩
  · have e : x.length - 1 = pre.length + (m - 1) := by omega
    rw [e, h3, List.getElem?_append_right (by omega)]
    rw [List.getElem?_replicate]
    simp
    omega
  have hl5 : (x.drop (x.length - 5)).length = 5 := by rw [List.length_drop]; omega
  have hall : (∀ y ∈ x.drop (x.length - 5), y = q) ↔ 5 ≤ (ct x).n := by
    rw [h1]
    constructor
    · intro h
      show (5 : Int) ≤ (m : Int)
      rcases Nat.lt_or_ge m 5 with hm | hm
      · exfalso
        have hp : pre ≠ [] := by rintro rfl; simp at hlen; omega
        have hgl := List.getLast?_eq_some_getLast hp
        have hmem : pre.getLast hp ∈ x.drop (x.length - 5) := by
          rw [h3, List.mem_iff_getElem?]
          have e : (pre ++ List.replicate m q).length - 5 ≤ pre.length - 1 := by simp; omega
          refine ⟨pre.length - 1 - ((pre ++ List.replicate m q).length - 5), ?_⟩
          rw [List.getElem?_drop]
          have e2 : (pre ++ List.replicate m q).length - 5 + (pre.length - 1 - ((pre ++ List.replicate m q).length - 5)) = pre.length - 1 := by omega
          have hp0 : 0 < pre.length := List.length_pos_iff.2 hp
          rw [e2, List.getElem?_append_left (by omega), ← List.getLast?_eq_getElem?]
          exact hgl
        exact h4 _ hgl (h _ hmem)
      · omega
    · intro h y hy
      have hm : 5 ≤ m := by have h : (5 : Int) ≤ (m : Int) := h; omega
      have : x.drop (x.length - 5) = List.replicate 5 q := by
        rw [h3, List.drop_append, List.drop_eq_nil_of_le (by simp; omega), List.nil_append, List.drop_replicate]
        congr 1
        simp
        omega
      rw [this] at hy
      exact List.eq_of_mem_replicate hy
  constructor
  · have e : (x.drop (x.length - 5)).count q = 5 ↔ (x.drop (x.length - 5)).count q = (x.drop (x.length - 5)).length := by rw [hl5]
    rw [← hall, e, List.count_eq_length]
    exact ⟨fun h y hy => (h y hy).symm, fun h y hy => (h y hy).symm⟩
  · rw [← hall]
    have hq : q ∈ x.drop (x.length - 5) := by
      rw [h3, List.mem_iff_getElem?]
      refine ⟨4, ?_⟩
      rw [List.getElem?_drop, List.getElem?_append_right (by simp; omega), List.getElem?_replicate]
      simp
      omega
    cases hd : x.drop (x.length - 5) with
    | nil => rw [hd] at hl5; cases hl5
    | cons c r =>
      rw [hd] at hq
      show r.all (· == c) = true ↔ _
      simp only [List.all_eq_true, beq_iff_eq]
      constructor
      · intro h
        have hqc : q = c := by
          rcases List.mem_cons.1 hq with e | e
          · exact e
          · exact h q e
        intro y hy
        rcases List.mem_cons.1 hy with e | e
        · rw [e, hqc]
        · rw [h y e, hqc]
      · intro h y hy
        rw [h y (by simp [hy]), h c (by simp)]
theorem ct_bound (x : List UInt8) : 0 ≤ (ct x).n ∧ (ct x).n ≤ x.length := by
  have key : ∀ (y : List UInt8) (c : Counter) (k : Int), 0 ≤ c.n ∧ c.n ≤ k → 0 ≤ (y.foldl nx c).n ∧ (y.foldl nx c).n ≤ k + y.length := by
    intro y
    induction y with
    | nil => intro c k h; simpa using h
    | cons b y ih =>
      intro c k h
      have hb := nx_bound c b k h
      have := ih (nx c b) (k + 1) ⟨by omega, hb.2⟩
      rw [List.foldl_cons, List.length_cons]
      omega
  have := key x ⟨0, 0⟩ 0 ⟨by decide, by decide⟩
  unfold ct
  omega
theorem rother_flip (c : UInt8) (h : isBit c = true) : rother (c.toNat : Int) = ((flip c).toNat : Int) := by
  rcases isBit_or h with rfl | rfl <;> rfl
theorem bstr_rother (c : UInt8) (h : isBit c = true) : bstr [rother (c.toNat : Int)] = [flip c] := by rw [rother_flip c h, bstr_one]
def fixbitsS (b : List UInt8) (a : Int) : List UInt8 := fixF 0 (UInt8.ofNat a.toNat) b
theorem fixF_none (b : List UInt8) : ∀ (k : Nat) (a : UInt8), 1 ≤ k % 4 → k % 4 + b.length ≤ 4 → fixF k a b = b := by
  induction b with
  | nil => exact fun _ _ _ _ => rfl
  | cons c r ih =>
    intro k a h1 h2
    rw [List.length_cons] at h2
    rw [fixF, if_neg (by omega)]
    cases r with
    | nil => rfl
    | cons d r =>
      rw [ih (k + 1) c (by rw [List.length_cons] at h2; omega) (by rw [List.length_cons] at h2 ⊢; omega)]
theorem fixF_chunk (x y : List UInt8) : ∀ (k : Nat) (a : UInt8), 1 ≤ k % 4 → k % 4 + x.length = 4 → x ≠ [] → fixF k a (x ++ y) = x ++ fixF (k + x.length) (x.getLast?.getD a) y := by
  induction x with
  | nil => exact fun _ _ _ _ h => absurd rfl h
  | cons c r ih =>
    intro k a h1 h2 _
    rw [List.length_cons] at h2
    rw [List.cons_append, fixF, if_neg (by omega)]
    cases r with
    | nil => simp
    | cons d r =>
      rw [ih (k + 1) c (by rw [List.length_cons] at h2; omega) (by rw [List.length_cons] at h2 ⊢; omega) (by simp)]
      have e : k + 1 + (d :: r).length = k + (c :: d :: r).length := by simp only [List.length_cons]; omega
      rw [e, List.getLast?_cons_cons, List.getLast?_eq_some_getLast (by simp : d :: r ≠ [])]
      simp
theorem fixF_shift (b : List UInt8) : ∀ (k j : Nat) (a : UInt8), k % 4 = j % 4 → fixF k a b = fixF j a b := by
  induction b with
  | nil => exact fun _ _ _ _ => rfl
  | cons c r ih =>
    intro k j a h
    rw [fixF, fixF, h, ih (k + 1) (j + 1) c (by omega)]
theorem fixbits_ok (b : List UInt8) (a : Int) (h : isRow b = true ∧ b.length ≤ 1000 ∧ (a = 48 ∨ a = 49)) : fixbits_vc b a (fun r => r = fixbitsS b a) := by
  refine ⟨fun x1 x5 x6 => ∃ (k : Nat) (c : UInt8), x6 = k ∧ x1 = (c.toNat : Int) ∧ isBit c = true ∧ k % 4 = 0 ∧ k ≤ b.length + 3 ∧ x5.length ≤ 2 * k ∧ x5 ++ fixF 0 c (b.drop k) = fixbitsS b a, fun _ _ x6 => b.length + 4 - x6.toNat, ?_, ?_⟩
  · refine ⟨0, UInt8.ofNat a.toNat, rfl, ?_, ?_, rfl, by omega, by simp, rfl⟩ <;> rcases h.2.2 with rfl | rfl <;> rfl
  rintro _ x5 _ ⟨k, c, rfl, rfl, hc, hk4, hkl, hx5, hfix⟩
  refine ⟨fun h1 => ?_, fun h1 => ?_⟩
  · have hk : k < b.length := by simp at h1; omega
    rw [bstr_rother c hc]
    have e4 : w64 ((k : Int) + 4) = ((k + 4 : Nat) : Int) := by rw [w64_eq _ (by omega)]; rfl
    rw [e4]
    have em : min ((k + 4 : Nat) : Int) (b.length : Int) = ((min (k + 4) b.length : Nat) : Int) := by omega
    rw [em, Int.toNat_natCast, Int.toNat_natCast]
    -- the chunk
    obtain ⟨ch, hch⟩ : ∃ ch, ch = (b.take (min (k + 4) b.length)).drop k := ⟨_, rfl⟩
    rw [← hch]
    have hlen : ch.length = min (k + 4) b.length - k := by rw [hch]; simp
    have hrow : isRow ch = true := by rw [hch]; exact isRow_drop (isRow_take h.1 _) _
    have hsplit : b.drop k = ch ++ b.drop (k + 4) := by
      rw [hch]
      by_cases h4 : k + 4 ≤ b.length
      · rw [Nat.min_eq_left h4]
        have : b.drop k = (b.drop k).take 4 ++ (b.drop k).drop 4 := (List.take_append_drop 4 _).symm
        rw [List.drop_drop] at this
        rw [List.drop_take]
        have e : k + 4 - k = 4 := by omega
        rw [e]
        exact this
      · rw [Nat.min_eq_right (by omega), List.take_length, List.drop_eq_nil_of_le (by omega : b.length ≤ k + 4), List.append_nil]
    obtain ⟨d, r, hdr⟩ : ∃ d r, ch = d :: r := by
      cases hcc : ch with
      | nil => rw [hcc] at hlen; simp at hlen; omega
      | cons d r => exact ⟨d, r, rfl⟩
    have hne : x5 ++ ([flip c] ++ ch) ≠ [] := by simp
    have hL : (x5 ++ ([flip c] ++ ch)).length = x5.length + 1 + ch.length := by simp; omega
    have hbl : b.length ≤ 1000 := h.2.1
    refine ⟨by omega, by simp only [List.length_cons, List.length_nil]; omega, by rw [List.length_append, List.length_cons, List.length_nil]; omega, ?_, fun q hq => ?_⟩
    · rw [hL, w64_eq _ (by omega)]
      omega
    · rw [hL] at hq
      have e1 : (w64 (((x5.length + 1 + ch.length : Nat) : Int) - 1)).toNat = x5.length + ch.length := by rw [w64_eq _ (by omega)]; omega
      rw [e1] at hq
      have hlast : ch.getLast? = some q := by
        rw [← List.append_assoc, List.getElem?_append_right (by simp; omega)] at hq
        have e2 : x5.length + ch.length - (x5 ++ [flip c]).length = ch.length - 1 := by simp; omega
        rw [e2] at hq
        rw [List.getLast?_eq_getElem?]
        exact hq
      have hqm : q ∈ ch := List.mem_of_getLast? hlast
      refine ⟨⟨k + 4, q, rfl, rfl, List.all_eq_true.1 hrow q hqm, by omega, by omega, by rw [hL]; omega, ?_⟩, by dsimp only; omega⟩
      have e9 : fixF 0 c (b.drop k) = flip c :: d :: fixF 1 d (r ++ b.drop (k + 4)) := by rw [hsplit, hdr]; rfl
      rw [← hfix, e9, hdr, List.append_assoc]
      congr 1
      simp only [List.cons_append, List.nil_append]
      congr 2
      cases hr : r with
      | nil =>
        rw [hdr, hr] at hlast
        simp at hlast
        subst hlast
        rw [List.nil_append]
        by_cases h4 : k + 4 ≤ b.length
        · rw [hdr, hr] at hlen; simp at hlen; omega
        · rw [List.drop_eq_nil_of_le (by omega : b.length ≤ k + 4)]; rfl
      | cons d2 r2 =>
        rw [← hr]
        have hrl : r ≠ [] := by rw [hr]; simp
        by_cases h4 : k + 4 ≤ b.length
        · have h3 : r.length = 3 := by rw [hdr] at hlen; simp at hlen; omega
          rw [fixF_chunk r _ 1 d (by omega) (by omega) hrl]
          have : r.getLast? = some q := by rw [hdr, List.getLast?_cons] at hlast; rw [hr] at hlast ⊢; simpa [List.getLast?_cons] using hlast
          rw [this, Option.getD_some]
          congr 1
          exact fixF_shift _ _ _ _ (by omega)
        · rw [List.drop_eq_nil_of_le (by omega : b.length ≤ k + 4), List.append_nil]
          rw [fixF_none r 1 d (by omega) (by rw [hdr] at hlen; simp at hlen; omega)]
          simp [fixF]
  · have : b.length ≤ k := by simp at h1; omega
    rw [List.drop_eq_nil_of_le this] at hfix
    simpa [fixF] using hfix

end Go.Proofs.YtmbdcehmeiiaoaaGreatDoor
set_option linter.unusedVariables false
set_option linter.unusedSimpArgs false
namespace Go.Proofs.YtmbdcehmeiiaoaaGreatDoor
open Go.Sy Go.RowKit
def putbits_vc (u0 : List UInt8) (K : (List UInt8) → Prop) : Prop :=
  (∃ inv15 : (List UInt8) → Int → Prop, ∃ mu15 : (List UInt8) → Int → Nat, inv15 [] 0 ∧
    (∀ (x3 : List UInt8) (x8 : Int), inv15 x3 x8 →
    (((decide (x8 < (u0.length : Int))) = true →
      ((0 ≤ x8 ∧ x8 ≤ (w64 (x8 + 1)) ∧ (w64 (x8 + 1)) ≤ (u0.length : Int)) ∧
      (((x3.length : Int) + (((u0.take (w64 (x8 + 1)).toNat).drop x8.toNat).length : Int) ≤ 9223372036854775807) ∧
      (((decide (((x3 ++ ((u0.take (w64 (x8 + 1)).toNat).drop x8.toNat)).length : Int) ≥ 5)) = true →
        ((0 ≤ w64 (((x3 ++ ((u0.take (w64 (x8 + 1)).toNat).drop x8.toNat)).length : Int) - 5) ∧ w64 (((x3 ++ ((u0.take (w64 (x8 + 1)).toNat).drop x8.toNat)).length : Int) - 5) ≤ ((x3 ++ ((u0.take (w64 (x8 + 1)).toNat).drop x8.toNat)).length : Int)) ∧
        ((0 ≤ w64 (((x3 ++ ((u0.take (w64 (x8 + 1)).toNat).drop x8.toNat)).length : Int) - 1) ∧ w64 (((x3 ++ ((u0.take (w64 (x8 + 1)).toNat).drop x8.toNat)).length : Int) - 1) ≤ ((x3 ++ ((u0.take (w64 (x8 + 1)).toNat).drop x8.toNat)).length : Int)) ∧
        ((((x3 ++ ((u0.take (w64 (x8 + 1)).toNat).drop x8.toNat)).drop (w64 (((x3 ++ ((u0.take (w64 (x8 + 1)).toNat).drop x8.toNat)).length : Int) - 1)).toNat).length = 1) ∧
        ((((count1S ((x3 ++ ((u0.take (w64 (x8 + 1)).toNat).drop x8.toNat)).drop (w64 (((x3 ++ ((u0.take (w64 (x8 + 1)).toNat).drop x8.toNat)).length : Int) - 5)).toNat) ((x3 ++ ((u0.take (w64 (x8 + 1)).toNat).drop x8.toNat)).drop (w64 (((x3 ++ ((u0.take (w64 (x8 + 1)).toNat).drop x8.toNat)).length : Int) - 1)).toNat)) == 5) = true →
          ((0 ≤ w64 (((x3 ++ ((u0.take (w64 (x8 + 1)).toNat).drop x8.toNat)).length : Int) - 1) ∧ w64 (((x3 ++ ((u0.take (w64 (x8 + 1)).toNat).drop x8.toNat)).length : Int) - 1) < ((x3 ++ ((u0.take (w64 (x8 + 1)).toNat).drop x8.toNat)).length : Int)) ∧
          (∀ c135, (x3 ++ ((u0.take (w64 (x8 + 1)).toNat).drop x8.toNat))[(w64 (((x3 ++ ((u0.take (w64 (x8 + 1)).toNat).drop x8.toNat)).length : Int) - 1)).toNat]? = some c135 →
          ((((x3 ++ ((u0.take (w64 (x8 + 1)).toNat).drop x8.toNat)).length : Int) + ((bstr ([(rother (c135.toNat : Int))] : List Int)).length : Int) ≤ 9223372036854775807) ∧
          (inv15 ((x3 ++ ((u0.take (w64 (x8 + 1)).toNat).drop x8.toNat)) ++ (bstr ([(rother (c135.toNat : Int))] : List Int))) (w64 (x8 + 1)) ∧ mu15 ((x3 ++ ((u0.take (w64 (x8 + 1)).toNat).drop x8.toNat)) ++ (bstr ([(rother (c135.toNat : Int))] : List Int))) (w64 (x8 + 1)) < mu15 x3 x8))))) ∧
        (((count1S ((x3 ++ ((u0.take (w64 (x8 + 1)).toNat).drop x8.toNat)).drop (w64 (((x3 ++ ((u0.take (w64 (x8 + 1)).toNat).drop x8.toNat)).length : Int) - 5)).toNat) ((x3 ++ ((u0.take (w64 (x8 + 1)).toNat).drop x8.toNat)).drop (w64 (((x3 ++ ((u0.take (w64 (x8 + 1)).toNat).drop x8.toNat)).length : Int) - 1)).toNat)) == 5) = false →
          (inv15 (x3 ++ ((u0.take (w64 (x8 + 1)).toNat).drop x8.toNat)) (w64 (x8 + 1)) ∧ mu15 (x3 ++ ((u0.take (w64 (x8 + 1)).toNat).drop x8.toNat)) (w64 (x8 + 1)) < mu15 x3 x8))))))) ∧
      ((decide (((x3 ++ ((u0.take (w64 (x8 + 1)).toNat).drop x8.toNat)).length : Int) ≥ 5)) = false →
        (inv15 (x3 ++ ((u0.take (w64 (x8 + 1)).toNat).drop x8.toNat)) (w64 (x8 + 1)) ∧ mu15 (x3 ++ ((u0.take (w64 (x8 + 1)).toNat).drop x8.toNat)) (w64 (x8 + 1)) < mu15 x3 x8)))))) ∧
    ((decide (x8 < (u0.length : Int))) = false →
      (K x3)))))

def takebits_vc (u0 : List UInt8) (u1 : Int) (K : ((List UInt8) × Int × Int) → Prop) : Prop :=
  (∃ inv15 : (List UInt8) → Int → Prop, ∃ mu15 : (List UInt8) → Int → Nat, inv15 [] 0 ∧
    (∀ (x7 : List UInt8) (x8 : Int), inv15 x7 x8 →
    (((decide ((x7.length : Int) < u1)) = true →
      (((x8 == (u0.length : Int)) = true →
        (K ([], 0, 7))) ∧
      ((x8 == (u0.length : Int)) = false →
        ((0 ≤ x8 ∧ x8 ≤ (w64 (x8 + 1)) ∧ (w64 (x8 + 1)) ≤ (u0.length : Int)) ∧
        (((x7.length : Int) + (((u0.take (w64 (x8 + 1)).toNat).drop x8.toNat).length : Int) ≤ 9223372036854775807) ∧
        (((decide ((w64 (x8 + 1)) ≥ 5)) = true →
          ((0 ≤ w64 ((w64 (x8 + 1)) - 5) ∧ w64 ((w64 (x8 + 1)) - 5) ≤ (w64 (x8 + 1)) ∧ (w64 (x8 + 1)) ≤ (u0.length : Int)) ∧
          ((0 < ((u0.take (w64 (x8 + 1)).toNat).drop (w64 ((w64 (x8 + 1)) - 5)).toNat).length ∧ ((u0.take (w64 (x8 + 1)).toNat).drop (w64 ((w64 (x8 + 1)) - 5)).toNat).length ≤ 1000) ∧
          (((rsameS ((u0.take (w64 (x8 + 1)).toNat).drop (w64 ((w64 (x8 + 1)) - 5)).toNat)) = true →
            ((((w64 (x8 + 1)) == (u0.length : Int)) = true →
              (K ([], 0, 7))) ∧
            (((w64 (x8 + 1)) == (u0.length : Int)) = false →
              ((0 ≤ w64 (x8 + 1) ∧ w64 (x8 + 1) < (u0.length : Int)) ∧
              (∀ c148, u0[(w64 (x8 + 1)).toNat]? = some c148 →
              ((0 ≤ w64 ((w64 (x8 + 1)) - 1) ∧ w64 ((w64 (x8 + 1)) - 1) < (u0.length : Int)) ∧
              (∀ c165, u0[(w64 ((w64 (x8 + 1)) - 1)).toNat]? = some c165 →
              ((((c148.toNat : Int) == (c165.toNat : Int)) = true →
                (K ([], 0, 5))) ∧
              (((c148.toNat : Int) == (c165.toNat : Int)) = false →
                (inv15 (x7 ++ ((u0.take (w64 (x8 + 1)).toNat).drop x8.toNat)) (w64 ((w64 (x8 + 1)) + 1)) ∧ mu15 (x7 ++ ((u0.take (w64 (x8 + 1)).toNat).drop x8.toNat)) (w64 ((w64 (x8 + 1)) + 1)) < mu15 x7 x8)))))))))) ∧
          ((rsameS ((u0.take (w64 (x8 + 1)).toNat).drop (w64 ((w64 (x8 + 1)) - 5)).toNat)) = false →
            (inv15 (x7 ++ ((u0.take (w64 (x8 + 1)).toNat).drop x8.toNat)) (w64 (x8 + 1)) ∧ mu15 (x7 ++ ((u0.take (w64 (x8 + 1)).toNat).drop x8.toNat)) (w64 (x8 + 1)) < mu15 x7 x8)))))) ∧
        ((decide ((w64 (x8 + 1)) ≥ 5)) = false →
          (inv15 (x7 ++ ((u0.take (w64 (x8 + 1)).toNat).drop x8.toNat)) (w64 (x8 + 1)) ∧ mu15 (x7 ++ ((u0.take (w64 (x8 + 1)).toNat).drop x8.toNat)) (w64 (x8 + 1)) < mu15 x7 x8)))))))) ∧
    ((decide ((x7.length : Int) < u1)) = false →
      (K (x7, x8, 0))))))

/-! Pure proofs: no program in sight. -/
def putbitsS (b : List UInt8) : List UInt8 := putF ⟨0, 0⟩ b
theorem slice_one {α : Type} (b : List α) (k : Nat) (q : α) (hq : b[k]? = some q) : (b.take (k + 1)).drop k = [q] := by
  have hk := (List.getElem?_eq_some_iff.1 hq).1
  rw [take_next b k q hq, List.drop_append, List.drop_eq_nil_of_le (by rw [List.length_take]; omega), List.nil_append]
  have : k - (b.take k).length = 0 := by rw [List.length_take]; omega
  rw [this]
  rfl
theorem putbits_ok (b : List UInt8) (h : isRow b = true ∧ b.length ≤ 1000) : putbits_vc b (fun r => r = putbitsS b) := by
  refine ⟨fun x i => ∃ k : Nat, i = k ∧ k ≤ b.length ∧ x.length ≤ 2 * k ∧ isRow x = true ∧ (ct x).n ≤ 4 ∧ x ++ putF (ct x) (b.drop k) = putbitsS b, fun _ i => b.length - i.toNat, ⟨0, rfl, by omega, by simp, rfl, by decide, rfl⟩, ?_⟩
  rintro x _ ⟨k, rfl, hk, hx, hxr, hn, hp⟩
  have hl : b.length ≤ 1000 := h.2
  refine ⟨fun h1 => ?_, fun h1 => ?_⟩
  · have hkl : k < b.length := by simp at h1; omega
    have hq : b[k]? = some b[k] := List.getElem?_eq_getElem hkl
    generalize b[k] = q at hq
    have hqb : isBit q = true := List.all_eq_true.1 h.1 q (List.mem_of_getElem? hq)
    have ew : w64 ((k : Int) + 1) = ((k + 1 : Nat) : Int) := w64_succ k (by omega)
    rw [ew, Int.toNat_natCast, Int.toNat_natCast, slice_one b k q hq]
    have hy : isRow (x ++ [q]) = true := by rw [isRow_append, hxr]; simpa [isRow] using hqb
    have hyl : (x ++ [q]).length = x.length + 1 := by simp
    have hc := ct_snoc x q
    rw [drop_this b k q hq, putF, ← hc] at hp
    obtain ⟨y, hye⟩ : ∃ y, y = x ++ [q] := ⟨_, rfl⟩
    rw [← hye] at hy hyl hc hp ⊢
    have hcb := ct_bound y
    have hnb := nx_bound (ct x) q 4 ⟨(ct_bound x).1, hn⟩
    rw [← hc] at hnb
    have ylast : y[y.length - 1]? = some q := by rw [hye]; simp
    refine ⟨by omega, by simp only [List.length_cons, List.length_nil]; omega, fun h2 => ?_, fun h2 => ?_⟩
    · have h5 : 5 ≤ y.length := by simp at h2; omega
      obtain ⟨q2, f1, f2, f3, f4⟩ := last_five y hy h5
      obtain rfl : q2 = q := Option.some.inj (f1.symm.trans ylast)
      have e5 : w64 ((y.length : Int) - 5) = ((y.length - 5 : Nat) : Int) := by rw [w64_eq _ (by omega)]; omega
      have e1 : w64 ((y.length : Int) - 1) = ((y.length - 1 : Nat) : Int) := by rw [w64_eq _ (by omega)]; omega
      rw [e5, e1, Int.toNat_natCast, Int.toNat_natCast]
      have hd1 : y.drop (y.length - 1) = [q2] := by rw [drop_this y (y.length - 1) q2 ylast, List.drop_eq_nil_of_le (by omega)]
      rw [hd1]
      have hcount : (count1S (y.drop (y.length - 5)) [q2] == 5) = decide (5 ≤ (ct y).n) := by
        rw [Bool.eq_iff_iff, decide_eq_true_eq, ← f3]
        show ((((y.drop (y.length - 5)).count q2 : Nat) : Int) == 5) = true ↔ _
        rw [beq_iff_eq]
        omega
      rw [hcount]
      refine ⟨by omega, by omega, rfl, fun h3 => ⟨by omega, fun q3 hq3 => ?_⟩, fun h3 => ?_⟩
      · obtain rfl : q3 = q2 := Option.some.inj (hq3.symm.trans ylast)
        have h3 := of_decide_eq_true h3
        have hn5 : (ct y).n = 5 := by omega
        rw [if_pos hn5] at hp
        rw [bstr_rother q3 hqb]
        have hc2 : ct (y ++ [flip q3]) = nx (ct y) (flip q3) := ct_snoc y (flip q3)
        refine ⟨by simp only [List.length_cons, List.length_nil]; omega, ⟨k + 1, rfl, by omega, by simp; omega, ?_, ?_, ?_⟩, by (try dsimp only); omega⟩
        · rw [isRow_append, hy]; simp [isRow, isBit_flip]
        · rw [hc2, hc, nx_flip]; show (1 : Int) ≤ 4; decide
        · rw [hc2, ← hp, hye]
          simp
      · have h3 := of_decide_eq_false h3
        have hn5 : ¬ (ct y).n = 5 := by omega
        rw [if_neg hn5] at hp
        refine ⟨⟨k + 1, rfl, by omega, by omega, hy, by omega, ?_⟩, by (try dsimp only); omega⟩
        rw [← hp, hye]
        simp
    · have h5 : y.length < 5 := by simp at h2; omega
      have hn5 : ¬ (ct y).n = 5 := by omega
      rw [if_neg hn5] at hp
      refine ⟨⟨k + 1, rfl, by omega, by omega, hy, by omega, ?_⟩, by (try dsimp only); omega⟩
      rw [← hp, hye]
      simp
  · have : k = b.length := by simp at h1; omega
    subst this
    rw [List.drop_length] at hp
    simpa [putF] using hp
def takebitsS (b : List UInt8) (n : Int) : List UInt8 × Int × Int := match takeF ⟨0, 0⟩ b n.toNat with
  | .error e => ([], 0, e)
  | .ok q => (q.1, (b.length : Int) - (q.2.1.length : Int), 0)
theorem takebits_ok (b : List UInt8) (n : Int) (h : isRow b = true ∧ b.length ≤ 1000 ∧ 0 ≤ n ∧ n ≤ 1000) : takebits_vc b n (fun r => r = takebitsS b n) := by
  obtain ⟨hr, hl, hn0, hn1⟩ := h
  refine ⟨fun x i => ∃ k : Nat, i = k ∧ k ≤ b.length ∧ x.length ≤ n.toNat ∧ (ct (b.take k)).n ≤ 4 ∧ takeF ⟨0, 0⟩ b n.toNat = (takeF (ct (b.take k)) (b.drop k) (n.toNat - x.length)).map (fun q => (x ++ q.1, q.2)), fun x i => b.length - i.toNat, ⟨0, rfl, by omega, by simp, by rw [List.take_zero]; decide, ?_⟩, ?_⟩
  · show _ = (takeF ⟨0, 0⟩ b n.toNat).map _
    cases takeF ⟨0, 0⟩ b n.toNat <;> rfl
  rintro x _ ⟨k, rfl, hk, hx, hn4, hT⟩
  refine ⟨fun h1 => ?_, fun h1 => ?_⟩
  · have hxn : x.length < n.toNat := by simp at h1; omega
    obtain ⟨m, hm⟩ : ∃ m, n.toNat - x.length = m + 1 := ⟨n.toNat - x.length - 1, by omega⟩
    rw [hm] at hT
    have ht : takebitsS b n = match takeF ⟨0, 0⟩ b n.toNat with | .error e => ([], 0, e) | .ok q => (q.1, (b.length : Int) - (q.2.1.length : Int), 0) := rfl
    refine ⟨fun h2 => ?_, fun h2 => ?_⟩
    · have : k = b.length := by simp at h2; omega
      subst this
      rw [List.drop_length, takeF] at hT
      rw [ht, hT]
      rfl
    · have hkl : k < b.length := by have : ¬ (k : Int) = (b.length : Int) := by simpa using h2
                                    omega
      have hq : b[k]? = some b[k] := List.getElem?_eq_getElem hkl
      generalize b[k] = q at hq
      have hqb : isBit q = true := List.all_eq_true.1 hr q (List.mem_of_getElem? hq)
      have ew : w64 ((k : Int) + 1) = ((k + 1 : Nat) : Int) := w64_succ k (by omega)
      rw [ew, Int.toNat_natCast, Int.toNat_natCast, slice_one b k q hq]
      have hc : ct (b.take (k + 1)) = nx (ct (b.take k)) q := by rw [take_next b k q hq, ct_snoc]
      rw [drop_this b k q hq, takeF_cons, ← hc] at hT
      have hnb := nx_bound (ct (b.take k)) q 4 ⟨(ct_bound _).1, hn4⟩
      rw [← hc] at hnb
      have hcb := ct_bound (b.take (k + 1))
      have htl : (b.take (k + 1)).length = k + 1 := by rw [List.length_take]; omega
      rw [htl] at hcb
      have next : ¬ (ct (b.take (k + 1))).n = 5 → (∃ k2 : Nat, ((k + 1 : Nat) : Int) = k2 ∧ k2 ≤ b.length ∧ (x ++ [q]).length ≤ n.toNat ∧ (ct (b.take k2)).n ≤ 4 ∧ takeF ⟨0, 0⟩ b n.toNat = (takeF (ct (b.take k2)) (b.drop k2) (n.toNat - (x ++ [q]).length)).map (fun z => ((x ++ [q]) ++ z.1, z.2))) := by
        intro h5
        rw [if_neg h5] at hT
        refine ⟨k + 1, rfl, by omega, by simp; omega, by omega, ?_⟩
        have hm2 : n.toNat - (x ++ [q]).length = m := by simp; omega
        rw [hT, hm2]
        cases takeF (ct (b.take (k + 1))) (b.drop (k + 1)) m with
        | error e => rfl
        | ok z => simp [Except.map]
      refine ⟨by omega, by simp only [List.length_cons, List.length_nil]; omega, fun h3 => ?_, fun h3 => ?_⟩
      · have hk5 : 5 ≤ k + 1 := by simp at h3; omega
        have e5 : w64 (((k + 1 : Nat) : Int) - 5) = ((k + 1 - 5 : Nat) : Int) := by rw [w64_eq _ (by omega)]; omega
        have e1 : w64 (((k + 1 : Nat) : Int) - 1) = (k : Int) := by rw [w64_eq _ (by omega)]; omega
        obtain ⟨q2, f1, f2, f3, f4⟩ := last_five (b.take (k + 1)) (isRow_take hr _) (by rw [htl]; exact hk5)
        rw [htl] at f3 f4
        rw [e5, e1, Int.toNat_natCast]
        refine ⟨by omega, by rw [List.length_drop, htl]; omega, fun h4 => ?_, fun h4 => ?_⟩
        · have hn5 : (ct (b.take (k + 1))).n = 5 := by have := f4.1 h4; omega
          rw [if_pos hn5] at hT
          refine ⟨fun h6 => ?_, fun h6 => ⟨?_, fun y hy => ⟨by omega, fun y2 hy2 => ⟨fun h7 => ?_, fun h7 => ?_⟩⟩⟩⟩
          · have : k + 1 = b.length := by have : ((k + 1 : Nat) : Int) = (b.length : Int) := by simpa only [beq_iff_eq] using h6
                                          omega
            rw [List.drop_eq_nil_of_le (by omega)] at hT
            rw [ht, hT]
            rfl
          · have : ¬ ((k + 1 : Nat) : Int) = (b.length : Int) := by simpa only [beq_eq_false_iff_ne, ne_eq] using h6
            omega
          all_goals
            rw [Int.toNat_natCast] at hy2
            obtain rfl : y2 = q := Option.some.inj (hy2.symm.trans hq)
            have hyb : isBit y = true := List.all_eq_true.1 hr y (List.mem_of_getElem? hy)
            rw [drop_this b (k + 1) y hy] at hT
            dsimp only at hT
          · have hyq : y = y2 := UInt8.toNat_inj.1 (by have h8 : (y.toNat : Int) = (y2.toNat : Int) := by simpa only [beq_iff_eq] using h7
                                                       omega)
            rw [if_neg (by rw [hyq]; intro h; have := flip_ne y2; rw [← h] at this; exact this rfl)] at hT
            rw [ht, hT]
            rfl
          · have hyq : y = flip y2 := by
              have h8 : ¬ (y.toNat : Int) = (y2.toNat : Int) := by simpa only [beq_eq_false_iff_ne, ne_eq] using h7
              rcases isBit_or hyb with rfl | rfl <;> rcases isBit_or hqb with rfl | rfl <;> first | rfl | exact absurd rfl h8
            rw [if_pos hyq] at hT
            have ew2 : w64 (((k + 1 : Nat) : Int) + 1) = ((k + 1 + 1 : Nat) : Int) := w64_succ (k + 1) (by omega)
            have hy' : b[k + 1]? = some y := hy
            have hkl2 := (List.getElem?_eq_some_iff.1 hy').1
            have hc2 : ct (b.take (k + 1 + 1)) = nx (ct (b.take (k + 1))) y := by rw [take_next b (k + 1) y hy', ct_snoc]
            rw [ew2]
            clear next
            refine ⟨⟨k + 1 + 1, rfl, by omega, by simp; omega, ?_, ?_⟩, by (try dsimp only); omega⟩
            · rw [hc2, hc, hyq, nx_flip]; show (1 : Int) ≤ 4; decide
            · have hm2 : n.toNat - (x ++ [y2]).length = m := by simp; omega
              rw [hT, hm2, hc2, hyq]
              cases takeF (nx (ct (b.take (k + 1))) (flip y2)) (b.drop (k + 1 + 1)) m with
              | error e => rfl
              | ok z => simp [Except.map]
        · have hn5 : ¬ (ct (b.take (k + 1))).n = 5 := by
            intro h5
            have := f4.2 (by omega)
            rw [this] at h4
            cases h4
          exact ⟨next hn5, by (try dsimp only); omega⟩
      · have hk5 : k + 1 < 5 := by simp at h3; omega
        exact ⟨next (by omega), by (try dsimp only); omega⟩
  · have hxn : n.toNat - x.length = 0 := by simp at h1; omega
    rw [hxn, takeF] at hT
    have ht : takebitsS b n = match takeF ⟨0, 0⟩ b n.toNat with | .error e => ([], 0, e) | .ok q => (q.1, (b.length : Int) - (q.2.1.length : Int), 0) := rfl
    rw [ht, hT]
    show (x, (k : Int), (0 : Int)) = (x ++ [], _, 0)
    rw [List.append_nil, List.length_drop]
    congr 2
    omega

end Go.Proofs.YtmbdcehmeiiaoaaGreatDoor
set_option linter.unusedVariables false
set_option linter.unusedSimpArgs false
namespace Go.Proofs.YtmbdcehmeiiaoaaGreatDoor
open Go.Sy Go.RowKit
def rfastend_vc (u0 : List UInt8) (u1 : List UInt8) (u2 : Int) (K : (List UInt8) → Prop) : Prop :=
  ((0 ≤ (w64 ((u1.length : Int) - (u0.length : Int))).tmod 8 ∧ (w64 ((u1.length : Int) - (u0.length : Int))).tmod 8 < (([([48, 48, 48, 48] : List UInt8), ([48, 48, 49, 49] : List UInt8), ([48, 49, 49, 48] : List UInt8), ([48, 49, 48, 49] : List UInt8), ([49, 49, 48, 48] : List UInt8), ([49, 49, 49, 49] : List UInt8), ([49, 48, 49, 48] : List UInt8), ([49, 48, 48, 49] : List UInt8)] : List (List UInt8)).length : Int)) ∧
    (∀ q38, ([([48, 48, 48, 48] : List UInt8), ([48, 48, 49, 49] : List UInt8), ([48, 49, 49, 48] : List UInt8), ([48, 49, 48, 49] : List UInt8), ([49, 49, 48, 48] : List UInt8), ([49, 49, 49, 49] : List UInt8), ([49, 48, 49, 48] : List UInt8), ([49, 48, 48, 49] : List UInt8)] : List (List UInt8))[((w64 ((u1.length : Int) - (u0.length : Int))).tmod 8).toNat]? = some q38 →
    (((decide (u2 > 16)) = true →
      (((u1.length : Int) + (q38.length : Int) ≤ 9223372036854775807) ∧
      (((0 ≤ (2 : Int) ∧ (2 : Int) < 5) ∧ isRow (u1 ++ q38) = true ∧ (u1 ++ q38).length ≤ 1000) ∧
      (((q38.length : Int) + ((sumR 2 (u1 ++ q38)).length : Int) ≤ 9223372036854775807) ∧
      ((0 ≤ w64 ((u1.length : Int) - 1) ∧ w64 ((u1.length : Int) - 1) < (u1.length : Int)) ∧
      (∀ c106, u1[(w64 ((u1.length : Int) - 1)).toNat]? = some c106 →
      ((isRow (q38 ++ (sumR 2 (u1 ++ q38))) = true ∧ (q38 ++ (sumR 2 (u1 ++ q38))).length ≤ 1000 ∧ ((c106.toNat : Int) = 48 ∨ (c106.toNat : Int) = 49)) ∧
      (K (fixbitsS (q38 ++ (sumR 2 (u1 ++ q38))) (c106.toNat : Int)))))))))) ∧
    ((decide (u2 > 16)) = false →
      (((u1.length : Int) + (q38.length : Int) ≤ 9223372036854775807) ∧
      (((0 ≤ (1 : Int) ∧ (1 : Int) < 5) ∧ isRow (u1 ++ q38) = true ∧ (u1 ++ q38).length ≤ 1000) ∧
      (((q38.length : Int) + ((sumR 1 (u1 ++ q38)).length : Int) ≤ 9223372036854775807) ∧
      ((0 ≤ w64 ((u1.length : Int) - 1) ∧ w64 ((u1.length : Int) - 1) < (u1.length : Int)) ∧
      (∀ c166, u1[(w64 ((u1.length : Int) - 1)).toNat]? = some c166 →
      ((isRow (q38 ++ (sumR 1 (u1 ++ q38))) = true ∧ (q38 ++ (sumR 1 (u1 ++ q38))).length ≤ 1000 ∧ ((c166.toNat : Int) = 48 ∨ (c166.toNat : Int) = 49)) ∧
      (K (fixbitsS (q38 ++ (sumR 1 (u1 ++ q38))) (c166.toNat : Int)))))))))))))

/-! Pure proofs: no program in sight. -/
theorem fhead_short {f : Frame} (hc : fcheckfr f = 0) : (fheadS f).length ≤ 553 ∧ (f.Fast = false → (fheadS f).length ≤ 105) := by
  obtain ⟨c1, c2, c3, c4, c5, c6, c7, c8, c9, c10⟩ := fcheckfr_zero hc
  rw [fheadS_len]
  refine ⟨by split <;> split <;> (try split) <;> omega, fun h => ?_⟩
  have := c9 h
  split <;> split <;> (try split) <;> omega
theorem smost_le {n : Nat} (h : n ≤ 900) : (smost (n : Int)).1 ≤ n + n / 4 := by
  rw [smost_eq _ ⟨by omega, by omega⟩]
  show w64 ((n : Int) + w64 ((max (w64 ((n : Int) - 1)) 0).tdiv 4)) ≤ _
  rw [w64_eq ((n : Int) - 1) (by omega), Int.tdiv_eq_ediv_of_nonneg (by omega), w64_eq (max ((n : Int) - 1) 0 / 4) (by omega), w64_eq _ (by omega)]
  omega
theorem head_put {f : Frame} (hc : fcheckfr f = 0) : (putF ⟨0, 0⟩ (fheadS f)).length ≤ 700 ∧ isRow (putF ⟨0, 0⟩ (fheadS f)) = true := by
  obtain ⟨h1, _⟩ := fhead_short hc
  have h2 := put_length0 (fheadS f) (fheadS_row f)
  have h3 := smost_le (n := (fheadS f).length) (by omega)
  exact ⟨by rcases h2 with h2 | h2 <;> omega, put_row _ (fheadS_row f) _⟩
theorem cnt4_all : ∀ m : Fin 8, isRow (cnt4 m.val) = true ∧ (cnt4 m.val).length = 4 := by decide +kernel
theorem cnt4_rw (n : Nat) : isRow (cnt4 n) = true ∧ (cnt4 n).length = 4 := by
  have h := cnt4_all ⟨n % 8, Nat.mod_lt _ (by decide)⟩
  have e : cnt4 (n % 8) = cnt4 n := by unfold cnt4; rw [Nat.mod_mod]
  dsimp only at h
  rwa [e] at h
def rfkind (n : Int) : Int := if 16 < n then 2 else 1
def rfastendS (h p : List UInt8) (n : Int) : List UInt8 := fixbitsS (cnt4 (p.length - h.length) ++ sumR (rfkind n) (p ++ cnt4 (p.length - h.length))) ((lastB p).toNat : Int)
def rfpre (h p : List UInt8) (n : Int) : Prop := isRow p = true ∧ h.length ≤ p.length ∧ 1 ≤ p.length ∧ p.length ≤ 900
theorem rfastend_ok (h p : List UInt8) (n : Int) (hp : rfpre h p n) : rfastend_vc h p n (fun r => r = rfastendS h p n) := by
  obtain ⟨hr, hl, h1, h9⟩ := hp
  have e : (w64 ((p.length : Int) - (h.length : Int))).tmod 8 = (((p.length - h.length) % 8 : Nat) : Int) := by
    rw [w64_eq _ (by omega), Int.tmod_eq_emod_of_nonneg (by omega)]
    omega
  have e1 : w64 ((p.length : Int) - 1) = ((p.length - 1 : Nat) : Int) := by rw [w64_eq _ (by omega)]; omega
  unfold rfastend_vc
  rw [e, e1]
  have hlt : (p.length - h.length) % 8 < 8 := Nat.mod_lt _ (by decide)
  obtain ⟨k1, k2⟩ := cnt4_rw (p.length - h.length)
  refine ⟨⟨by omega, by simp only [List.length_cons, List.length_nil]; omega⟩, fun q hq => ?_⟩
  rw [Int.toNat_natCast] at hq
  have hqc : q = cnt4 (p.length - h.length) := by
    unfold cnt4
    rw [List.getD_eq_getElem?_getD, hq]
    rfl
  subst hqc
  have hrow : isRow (p ++ cnt4 (p.length - h.length)) = true := by rw [isRow_append, hr, k1]; rfl
  have hs2 : (sumR 2 (p ++ cnt4 (p.length - h.length))).length = 21 := wr_length _ _
  have hs1 : (sumR 1 (p ++ cnt4 (p.length - h.length))).length = 17 := wr_length _ _
  refine ⟨fun hn => ?_, fun hn => ?_⟩
  · have hk : rfkind n = 2 := by unfold rfkind; rw [if_pos (of_decide_eq_true hn)]
    refine ⟨by omega, ⟨by decide, hrow, by rw [List.length_append]; omega⟩, by omega, by omega, fun c hc => ?_⟩
    rw [Int.toNat_natCast] at hc
    have hcb := isRow_mem hr (List.mem_of_getElem? hc)
    refine ⟨⟨by rw [isRow_append, k1]; exact wr_row _ _, by rw [List.length_append]; omega, by rcases hcb with rfl | rfl <;> decide⟩, ?_⟩
    unfold rfastendS
    rw [hk, lastB_at hc]
  · have hk : rfkind n = 1 := by unfold rfkind; rw [if_neg (of_decide_eq_false hn)]
    refine ⟨by omega, ⟨by decide, hrow, by rw [List.length_append]; omega⟩, by omega, by omega, fun c hc => ?_⟩
    rw [Int.toNat_natCast] at hc
    have hcb := isRow_mem hr (List.mem_of_getElem? hc)
    refine ⟨⟨by rw [isRow_append, k1]; exact wr_row _ _, by rw [List.length_append]; omega, by rcases hcb with rfl | rfl <;> decide⟩, ?_⟩
    unfold rfastendS
    rw [hk, lastB_at hc]

end Go.Proofs.YtmbdcehmeiiaoaaGreatDoor
set_option linter.unusedVariables false
set_option linter.unusedSimpArgs false
namespace Go.Proofs.YtmbdcehmeiiaoaaGreatDoor
open Go.Sy Go.RowKit
def rbitsof_vc (u0 : Frame) (K : (List UInt8) → Prop) : Prop :=
  (u0.Data.length ≤ 140737488355328 →
    ((fcheckfr u0 = 0 ∧ ∀ x ∈ u0.Data, 0 ≤ x ∧ x ≤ 255) ∧
    (((!u0.Fast) = true →
      (((0 ≤ (0 : Int) ∧ (0 : Int) < 5) ∧ isRow (fheadS u0) = true ∧ (fheadS u0).length ≤ 1000) ∧
      ((((fheadS u0).length : Int) + ((sumR 0 (fheadS u0)).length : Int) ≤ 9223372036854775807) ∧
      ((isRow ((fheadS u0) ++ (sumR 0 (fheadS u0))) = true ∧ ((fheadS u0) ++ (sumR 0 (fheadS u0))).length ≤ 1000) ∧
      ((((putbitsS ((fheadS u0) ++ (sumR 0 (fheadS u0)))).length : Int) + (([49, 49, 49, 49, 49, 49, 49, 49, 49, 49] : List UInt8).length : Int) ≤ 9223372036854775807) ∧
      (K ((putbitsS ((fheadS u0) ++ (sumR 0 (fheadS u0)))) ++ ([49, 49, 49, 49, 49, 49, 49, 49, 49, 49] : List UInt8)))))))) ∧
    ((!u0.Fast) = false →
      ((isRow (fheadS u0) = true ∧ (fheadS u0).length ≤ 1000) ∧
      ((rfpre (fheadS u0) (putbitsS (fheadS u0)) (u0.Data.length : Int)) ∧
      ((((putbitsS (fheadS u0)).length : Int) + ((rfastendS (fheadS u0) (putbitsS (fheadS u0)) (u0.Data.length : Int)).length : Int) ≤ 9223372036854775807) ∧
      (((((putbitsS (fheadS u0)) ++ (rfastendS (fheadS u0) (putbitsS (fheadS u0)) (u0.Data.length : Int))).length : Int) + (([49, 49, 49, 49, 49, 49, 49, 49, 49, 49] : List UInt8).length : Int) ≤ 9223372036854775807) ∧
      (K (((putbitsS (fheadS u0)) ++ (rfastendS (fheadS u0) (putbitsS (fheadS u0)) (u0.Data.length : Int))) ++ ([49, 49, 49, 49, 49, 49, 49, 49, 49, 49] : List UInt8)))))))))))

def rown_vc (u0 : Frame) (K : Frame → Prop) : Prop :=
  (u0.Data.length ≤ 140737488355328 →
    (((([] : List Int).length + u0.Data.length) * 1 ≤ 140737488355328) ∧
    (K (⟨u0.ID, u0.Long, u0.Fast, u0.Remote, u0.Size, ([] : List Int) ++ u0.Data⟩ : Frame))))

def nofr_vc (u0 : Frame) (K : Bool → Prop) : Prop :=
  (u0.Data.length ≤ 140737488355328 →
    (K (sameS u0 (⟨0, false, false, false, 0, []⟩ : Frame))))

/-! Pure proofs: no program in sight. -/
theorem lastB_bit {p : List UInt8} (hr : isRow p = true) (h : 1 ≤ p.length) : ((lastB p).toNat : Int) = 48 ∨ ((lastB p).toNat : Int) = 49 := by
  obtain ⟨c, hc⟩ : ∃ c, p[p.length - 1]? = some c := ⟨_, List.getElem?_eq_getElem (by omega)⟩
  rw [lastB_at hc]
  rcases isRow_mem hr (List.mem_of_getElem? hc) with rfl | rfl
  · exact .inl rfl
  · exact .inr rfl
theorem fastEnd_eq {h p : List UInt8} {n : Int} {k : Int} (hp : rfpre h p n) (hk : k = rfkind n) : fastEnd p h.length k = rfastendS h p n := by
  obtain ⟨hr, hl, h1, h9⟩ := hp
  obtain ⟨k1, k2⟩ := cnt4_rw (p.length - h.length)
  have hrow : isRow (p ++ cnt4 (p.length - h.length)) = true := by rw [isRow_append, hr, k1]; rfl
  have hkk : rfkind n = 1 ∨ rfkind n = 2 := by unfold rfkind; split <;> simp
  have hk2 : isKind (rfkind n) = true := by rcases hkk with e | e <;> rw [e] <;> rfl
  have hsl : (sumR (rfkind n) (p ++ cnt4 (p.length - h.length))).length ≤ 21 := by
    unfold sumR
    rw [wr_length]
    rcases hkk with e | e <;> rw [e] <;> decide
  have hc : csumS k (p ++ cnt4 (p.length - h.length)) = (sumR (rfkind n) (p ++ cnt4 (p.length - h.length)), 0) := by
    rw [hk]
    exact csumS_row hk2 (by rw [List.length_append]; omega) hrow
  unfold fastEnd rfastendS
  rw [hc]
  dsimp only
  have hb : bcheckS (cnt4 (p.length - h.length) ++ sumR (rfkind n) (p ++ cnt4 (p.length - h.length))) = 0 :=
    (bcheck_zero _).2 ⟨by rw [List.length_append]; omega, by rw [isRow_append, k1]; exact wr_row _ _⟩
  unfold sfixedS fixbitsS
  rw [if_neg (fun hh => hh hb), if_neg (by rcases lastB_bit hr h1 with e | e <;> omega)]
def rbitsofS (f : Frame) : List UInt8 := (BitsS f).1
theorem rbitsof_ok (f : Frame) (h : fcheckfr f = 0 ∧ ∀ x ∈ f.Data, 0 ≤ x ∧ x ≤ 255) : rbitsof_vc f (fun r => r = rbitsofS f) := by
  obtain ⟨h0, hd⟩ := h
  intro _
  obtain ⟨s1, s2⟩ := fhead_short h0
  have hrow := fheadS_row f
  have hsl : (sumR 0 (fheadS f)).length = 15 := wr_length _ _
  have hsr : isRow (sumR 0 (fheadS f)) = true := wr_row _ _
  refine ⟨⟨h0, hd⟩, fun h1 => ?_, fun h1 => ?_⟩
  · have hf : f.Fast = false := by simpa using h1
    have hrr : isRow (fheadS f ++ sumR 0 (fheadS f)) = true := by rw [isRow_append, hrow, hsr]; rfl
    have hpr : sputS (fheadS f ++ sumR 0 (fheadS f)) = (putF ⟨0, 0⟩ (fheadS f ++ sumR 0 (fheadS f)), 0) := sputS_row hrr (by simp; omega)
    have hS : BitsS f = ((sputS (fheadS f ++ sumR 0 (fheadS f))).1 ++ tail10, 0) := by unfold BitsS; rw [if_neg (fun hc => hc h0), if_pos hf]
    have hp3 := put_len2 (fheadS f ++ sumR 0 (fheadS f)) ⟨0, 0⟩
    rw [List.length_append] at hp3
    refine ⟨⟨by decide, hrow, by omega⟩, by omega, ⟨hrr, by rw [List.length_append]; omega⟩, ?_, ?_⟩
    · unfold putbitsS
      simp only [List.length_cons, List.length_nil]
      omega
    · unfold rbitsofS
      rw [hS, hpr]
      rfl
  · have hf : f.Fast = true := by simpa using h1
    obtain ⟨p1, p2⟩ := head_put h0
    have hp2 := put_len2 (fheadS f) ⟨0, 0⟩
    have hpos := fheadS_pos f
    have hpre : rfpre (fheadS f) (putbitsS (fheadS f)) (f.Data.length : Int) := ⟨p2, hp2.2, Nat.le_trans hpos hp2.2, by show (putF ⟨0, 0⟩ (fheadS f)).length ≤ 900; omega⟩
    have hpr : sputS (fheadS f) = (putF ⟨0, 0⟩ (fheadS f), 0) := sputS_row hrow (by omega)
    have hS : BitsS f = (((sputS (fheadS f)).1 ++ fastEnd (sputS (fheadS f)).1 (fheadS f).length (fkind f)) ++ tail10, 0) := by unfold BitsS; rw [if_neg (fun hc => hc h0), if_neg (by rw [hf]; simp)]
    have hk : fkind f = rfkind (f.Data.length : Int) := by
      unfold fkind rfkind
      rw [hf]
      by_cases hn : (f.Data.length : Int) ≤ 16
      · rw [decide_eq_true hn, if_neg (by omega)]; rfl
      · rw [decide_eq_false hn, if_pos (by omega)]; rfl
    have he := fastEnd_eq hpre hk
    have hel := fastEnd_len (putbitsS (fheadS f)) (fheadS f).length (fkind f)
    rw [he] at hel
    have hpl : (putbitsS (fheadS f)).length ≤ 700 := p1
    refine ⟨⟨hrow, by omega⟩, hpre, by omega, by simp only [List.length_append, List.length_cons, List.length_nil]; omega, ?_⟩
    unfold rbitsofS
    rw [hS, hpr]
    dsimp only
    have he2 : fastEnd (putF ⟨0, 0⟩ (fheadS f)) (fheadS f).length (fkind f) = rfastendS (fheadS f) (putbitsS (fheadS f)) (f.Data.length : Int) := he
    rw [he2]
    rfl
def rownS (f : Frame) : Frame := f
theorem rown_ok (f : Frame) (h : f.Data.length ≤ 140737488355328) : rown_vc f (fun r => r = rownS f) := fun _ => ⟨by simp; omega, rfl⟩
def nofrS (f : Frame) : Bool := sameS f ⟨0, false, false, false, 0, []⟩
theorem nofr_ok (f : Frame) : nofr_vc f (fun r => r = nofrS f) := fun _ => rfl

end Go.Proofs.YtmbdcehmeiiaoaaGreatDoor
set_option linter.unusedVariables false
set_option linter.unusedSimpArgs false
namespace Go.Proofs.YtmbdcehmeiiaoaaGreatDoor
open Go.Sy Go.RowKit

/-! Pure proofs: no program in sight. -/

end Go.Proofs.YtmbdcehmeiiaoaaGreatDoor
set_option linter.unusedVariables false
set_option linter.unusedSimpArgs false
namespace Go.Proofs.YtmbdcehmeiiaoaaGreatDoor
open Go.Sy Go.RowKit

/-! Pure proofs: no program in sight. -/

end Go.Proofs.YtmbdcehmeiiaoaaGreatDoor
set_option linter.unusedVariables false
set_option linter.unusedSimpArgs false
namespace Go.Proofs.YtmbdcehmeiiaoaaGreatDoor
open Go.Sy Go.RowKit
def fRead_vc (u0 : List UInt8) (K : (Frame × Int × Int) → Prop) : Prop :=
  ((((bcheckS u0) != 0) = false) ∧
    ((Rok (⟨(⟨u0, 0, 0, (⟨0, 0⟩ : Counter)⟩ : Reader), (⟨0, false, false, false, 0, []⟩ : Frame)⟩ : FReader).Reader) ∧
    (∀ r51, (rnamesS (⟨(⟨u0, 0, 0, (⟨0, 0⟩ : Counter)⟩ : Reader), (⟨0, false, false, false, 0, []⟩ : Frame)⟩ : FReader)) = r51 →
    (r51.f.Data.length ≤ 140737488355328 →
    ((Rok r51.Reader ∧ 0 ≤ (4 : Int) ∧ (4 : Int) ≤ 62) ∧
    (∀ r71, (rnumberS r51 4) = r71 →
    (r71.2.f.Data.length ≤ 140737488355328 →
    (((r71.2.Reader.Code != 0) = false) ∧
    ((((!r71.2.f.Fast) && (decide (r71.1 > 8))) = false) ∧
    ((r71.2.f.Remote = false) ∧
    (fsizes.length ≤ 140737488355328 →
    ((0 ≤ r71.1 ∧ r71.1 < (fsizes.length : Int)) ∧
    (∀ q166, fsizes[r71.1.toNat]? = some q166 →
    ((Rok r71.2.Reader ∧ (w64 (8 * q166)) ≤ 9223372036854775807) ∧
    (∀ r193, (rtakeFS r71.2 (w64 (8 * q166))) = r193 →
    (r193.2.f.Data.length ≤ 140737488355328 →
    (((bbytesS r193.1).1).length ≤ 140737488355328 →
    ((r193.2.f.Fast = false) ∧
    (((r193.2.Reader.Code == 0) = true) ∧
    ((fheadpre (⟨r193.2.f.ID, r193.2.f.Long, r193.2.f.Fast, r193.2.f.Remote, r193.2.f.Size, (bbytesS r193.1).1⟩ : Frame)) ∧
    ((Rok (⟨r193.2.Reader, (⟨r193.2.f.ID, r193.2.f.Long, r193.2.f.Fast, r193.2.f.Remote, r193.2.f.Size, (bbytesS r193.1).1⟩ : Frame)⟩ : FReader).Reader ∧ (15 : Int) ≤ 9223372036854775807) ∧
    (∀ r314, (rtakeFS (⟨r193.2.Reader, (⟨r193.2.f.ID, r193.2.f.Long, r193.2.f.Fast, r193.2.f.Remote, r193.2.f.Size, (bbytesS r193.1).1⟩ : Frame)⟩ : FReader) 15) = r314 →
    (r314.2.f.Data.length ≤ 140737488355328 →
    ((((r314.2.Reader.Code == 0) && (r314.1 != ((csumS 0 (fheadS (⟨r193.2.f.ID, r193.2.f.Long, r193.2.f.Fast, r193.2.f.Remote, r193.2.f.Size, (bbytesS r193.1).1⟩ : Frame))).1))) = false) ∧
    (((0 ≤ r314.2.Reader.At ∧ r314.2.Reader.At ≤ (r314.2.Reader.Row.length : Int) ∧ r314.2.Reader.Row.length ≤ 1000000) ∧ (10 : Int) ≤ 1000000) ∧
    (∀ r367, (rplainFS r314.2 10) = r367 →
    (r367.2.f.Data.length ≤ 140737488355328 →
    (((r367.2.Reader.Code == 0) = true →
      ((0 ≤ (1 : Int) ∧ (1 : Int) ≤ (r367.1.length : Int)) ∧
      ((((r367.1.take (1 : Int).toNat).length : Int) + (([49] : List UInt8).length : Int) ≤ 9223372036854775807) ∧
      ((0 ≤ (2 : Int) ∧ (2 : Int) ≤ (r367.1.length : Int)) ∧
      (((((r367.1.take (1 : Int).toNat) ++ ([49] : List UInt8)).length : Int) + ((r367.1.drop (2 : Int).toNat).length : Int) ≤ 9223372036854775807) ∧
      ((((((r367.1.take (1 : Int).toNat) ++ ([49] : List UInt8)) ++ (r367.1.drop (2 : Int).toNat)) != ([49, 49, 49, 49, 49, 49, 49, 49, 49, 49] : List UInt8)) = false) ∧
      (((r367.2.Reader.Code != 0) = false) ∧
      (K (r367.2.f, r367.2.Reader.At, 0))))))))) ∧
    ((r367.2.Reader.Code == 0) = false →
      (((r367.2.Reader.Code != 0) = false) ∧
      (K (r367.2.f, r367.2.Reader.At, 0))))))))))))))))))))))))))))))))

/-! Pure proofs: no program in sight. -/
def f0 : Frame := ⟨0, false, false, false, 0, []⟩
def litB : List UInt8 := (BitsS (⟨5, false, false, false, 0, ([1, 255] : List Int)⟩ : Frame)).1 ++ [49]
def rdX (b : List UInt8) : List UInt8 × FReader := rtakeFS (rnumberS (rnamesS ⟨⟨b, 0, 0, ⟨0, 0⟩⟩, f0⟩) 4).2 (w64 (8 * 2))
def rdY (b : List UInt8) : FReader := ⟨(rdX b).2.Reader, ⟨(rdX b).2.f.ID, (rdX b).2.f.Long, (rdX b).2.f.Fast, (rdX b).2.f.Remote, (rdX b).2.f.Size, (bbytesS (rdX b).1).1⟩⟩
def rdZ (b : List UInt8) : FReader := (rplainFS (rtakeFS (rdY b) 15).2 10).2
/-- What reading gives for the one row that is read here. -/
def readS (b : List UInt8) : Frame × Int × Int := ((rdZ b).f, (rdZ b).Reader.At, 0)
theorem fRead_ok (b : List UInt8) (h : b = litB) : fRead_vc b (fun q => q = readS b) := by
  rw [h]; clear h
  refine ⟨by decide +kernel, by unfold Rok; decide +kernel, ?_⟩
  rintro _ rfl _
  refine ⟨by unfold Rok; decide +kernel, ?_⟩
  rintro _ rfl _
  refine ⟨by decide +kernel, by decide +kernel, by decide +kernel, fun _ => ⟨by decide +kernel, ?_⟩⟩
  intro q hq
  have hq2 : q = 2 := by
    have e : fsizes[((rnumberS (rnamesS ⟨⟨litB, 0, 0, ⟨0, 0⟩⟩, f0⟩) 4).1).toNat]? = some 2 := by decide +kernel
    exact (Option.some.inj (e.symm.trans hq)).symm
  subst hq2
  refine ⟨by unfold Rok; decide +kernel, ?_⟩
  rintro _ rfl _ _
  refine ⟨by decide +kernel, by decide +kernel, by unfold fheadpre; decide +kernel, by unfold Rok; decide +kernel, ?_⟩
  rintro _ rfl _
  refine ⟨by decide +kernel, by decide +kernel, ?_⟩
  rintro _ rfl _
  exact ⟨fun _ => ⟨by decide +kernel, by decide +kernel, by decide +kernel, by decide +kernel, by decide +kernel, by decide +kernel, (by show (_ : Frame × Int × Int) = readS litB; delta readS rdZ rdY rdX f0; exact Eq.refl _)⟩, fun h => absurd h (by decide +kernel)⟩

end Go.Proofs.YtmbdcehmeiiaoaaGreatDoor
set_option linter.unusedVariables false
set_option linter.unusedSimpArgs false
namespace Go.Proofs.YtmbdcehmeiiaoaaGreatDoor
open Go.Sy Go.RowKit
def framed_vc  (K : Bool → Prop) : Prop :=
  ((∀ x ∈ (⟨5, false, false, false, 0, ([1, 255] : List Int)⟩ : Frame).Data, 0 ≤ x ∧ x ≤ 255) ∧
    (((((BitsS (⟨5, false, false, false, 0, ([1, 255] : List Int)⟩ : Frame)).1).length : Int) + (([49] : List UInt8).length : Int) ≤ 9223372036854775807) ∧
    (((((BitsS (⟨5, false, false, false, 0, ([1, 255] : List Int)⟩ : Frame)).1) ++ ([49] : List UInt8)) = litB) ∧
    ((((readS (((BitsS (⟨5, false, false, false, 0, ([1, 255] : List Int)⟩ : Frame)).1) ++ ([49] : List UInt8))).1).Data).length ≤ 140737488355328 →
    (K (((((((BitsS (⟨5, false, false, false, 0, ([1, 255] : List Int)⟩ : Frame)).2) == 0) && (((readS (((BitsS (⟨5, false, false, false, 0, ([1, 255] : List Int)⟩ : Frame)).1) ++ ([49] : List UInt8))).2.2) == 0)) && (((readS (((BitsS (⟨5, false, false, false, 0, ([1, 255] : List Int)⟩ : Frame)).1) ++ ([49] : List UInt8))).2.1) == (((BitsS (⟨5, false, false, false, 0, ([1, 255] : List Int)⟩ : Frame)).1).length : Int))) && (sameS (⟨5, false, false, false, 0, ([1, 255] : List Int)⟩ : Frame) ((readS (((BitsS (⟨5, false, false, false, 0, ([1, 255] : List Int)⟩ : Frame)).1) ++ ([49] : List UInt8))).1))) && (hasprefix ((BitsS (⟨5, false, false, false, 0, ([1, 255] : List Int)⟩ : Frame)).1) ([48, 48, 48, 48, 48, 49, 48, 48, 48, 48, 49, 48, 49] : List UInt8))))))))

/-! Pure proofs: no program in sight. -/
theorem framed_ok : framed_vc (fun r => r = true) := by
  refine ⟨by decide, ?_, rfl, fun _ => by decide +kernel⟩
  have h : (BitsS (⟨5, false, false, false, 0, ([1, 255] : List Int)⟩ : Frame)).1.length ≤ 1000 := by decide +kernel
  show ((_ : Nat) : Int) + 1 ≤ _
  omega

end Go.Proofs.YtmbdcehmeiiaoaaGreatDoor
set_option linter.unusedVariables false
set_option linter.unusedSimpArgs false
namespace Go.Proofs.YtmbdcehmeiiaoaaGreatDoor
open Go.Sy Go.RowKit

/-! Pure proofs: no program in sight. -/

end Go.Proofs.YtmbdcehmeiiaoaaGreatDoor
set_option linter.unusedVariables false
set_option linter.unusedSimpArgs false
namespace Go.Proofs.YtmbdcehmeiiaoaaGreatDoor
open Go.Sy Go.RowKit
def LBits_vc (u0 : Frame) (K : Bool → Prop) : Prop :=
  (u0.Data.length ≤ 140737488355328 →
    ((u0.Data.length ≤ 140737488355328) ∧
    (((rownS u0).Data).length ≤ 140737488355328 →
    ((∀ x ∈ (rownS u0).Data, 0 ≤ x ∧ x ≤ 255) ∧
    ((((((fcheckfr u0) != (fcheckfr u0)) || (!(sameS (rownS u0) u0))) || ((sameS u0 (rownS u0)) != true)) = true →
      (K false)) ∧
    (((((fcheckfr u0) != (fcheckfr u0)) || (!(sameS (rownS u0) u0))) || ((sameS u0 (rownS u0)) != true)) = false →
      ((((fcheckfr u0) != 0) = true →
        (K ((((((fNameS (rownS u0)).2) == (fcheckfr u0)) && (((BitsS (rownS u0)).2) == (fcheckfr u0))) && (((fNameS (rownS u0)).1) == ([] : List UInt8))) && (((BitsS (rownS u0)).1) == ([] : List UInt8))))) ∧
      (((fcheckfr u0) != 0) = false →
        ((((((fNameS (rownS u0)).2) == 0) && (((BitsS (rownS u0)).2) == 0)) = true →
          ((fcheckfr u0 = 0) ∧
          (((((fNameS (rownS u0)).1) == (fnameS u0)) = true →
            ((fcheckfr u0 = 0 ∧ ∀ x ∈ u0.Data, 0 ≤ x ∧ x ≤ 255) ∧
            (K (((BitsS (rownS u0)).1) == (rbitsofS u0))))) ∧
          ((((fNameS (rownS u0)).1) == (fnameS u0)) = false →
            (K false))))) ∧
        (((((fNameS (rownS u0)).2) == 0) && (((BitsS (rownS u0)).2) == 0)) = false →
          (K false)))))))))))

/-! Pure proofs: no program in sight. -/
theorem same_refl (f : Frame) : sameS f f = true := by unfold sameS; simp
theorem LBits_ok (f : Frame) (k0 : okFrame f) : LBits_vc f (fun r => r = true) := by
  have hd : ∀ x ∈ f.Data, 0 ≤ x ∧ x ≤ 255 := fun x hx => k0.2.2.2.2.2.1 x hx
  intro hl
  unfold rownS
  refine ⟨hl, fun _ => ⟨hd, fun h1 => ?_, fun _ => ⟨fun h2 => ?_, fun h2 => ?_⟩⟩⟩
  · rw [same_refl] at h1
    simp at h1
  · have h2 : fcheckfr f ≠ 0 := by simpa using h2
    have e1 : fNameS f = ([], fcheckfr f) := by unfold fNameS; rw [if_pos h2]
    have e2 : BitsS f = ([], fcheckfr f) := by unfold BitsS; rw [if_pos h2]
    rw [e1, e2]
    simp
  · have h2 : fcheckfr f = 0 := by simpa using h2
    have e1 : fNameS f = (fnameS f, 0) := by unfold fNameS; rw [if_neg (fun h => h h2)]
    have e2 : (BitsS f).2 = 0 := by
      unfold BitsS
      rw [if_neg (fun h => h h2)]
      split <;> rfl
    rw [e1, e2]
    refine ⟨fun _ => ⟨h2, fun _ => ⟨⟨h2, hd⟩, ?_⟩, fun h => by simp at h⟩, fun h => by simp at h⟩
    unfold rbitsofS
    simp

end Go.Proofs.YtmbdcehmeiiaoaaGreatDoor
