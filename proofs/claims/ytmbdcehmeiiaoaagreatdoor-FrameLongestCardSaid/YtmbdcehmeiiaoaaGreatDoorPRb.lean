/- What must hold so that each function ends well: pure predicates, made by program. -/
import Derived.Test.YtmbdcehmeiiaoaaGreatDoorPRa
set_option linter.unusedVariables false
set_option linter.unusedSimpArgs false
namespace Go.Proofs.YtmbdcehmeiiaoaaGreatDoor
open Go.Sy Go.RowKit
def rhead_vc (u0 : Frame) (K : (List UInt8) → Prop) : Prop :=
  (u0.Data.length ≤ 140737488355328 →
    ((fcheckfr u0 = 0) ∧
    (((([48] : List UInt8).length : Int) + ((fnameS u0).length : Int) ≤ 9223372036854775807) ∧
    ((u0.Fast = true →
      ((((([48] : List UInt8) ++ (fnameS u0)).length : Int) + (([49, 48, 49, 48] : List UInt8).length : Int) ≤ 9223372036854775807) ∧
      (((!u0.Remote) = true →
        (((sindexS rsizes (u0.Data.length : Int)) ≤ 9223372036854775807 ∧ (4 : Int) ≤ 1000000) ∧
        (((((([48] : List UInt8) ++ (fnameS u0)) ++ ([49, 48, 49, 48] : List UInt8)).length : Int) + (((rrowS (sindexS rsizes (u0.Data.length : Int)) 4).1).length : Int) ≤ 9223372036854775807) ∧
        (((∀ x ∈ u0.Data, 0 ≤ x ∧ x ≤ 255) ∧ u0.Data.length ≤ 1000) ∧
        ((((((([48] : List UInt8) ++ (fnameS u0)) ++ ([49, 48, 49, 48] : List UInt8)) ++ ((rrowS (sindexS rsizes (u0.Data.length : Int)) 4).1)).length : Int) + ((ofb u0.Data).length : Int) ≤ 9223372036854775807) ∧
        (K ((((([48] : List UInt8) ++ (fnameS u0)) ++ ([49, 48, 49, 48] : List UInt8)) ++ ((rrowS (sindexS rsizes (u0.Data.length : Int)) 4).1)) ++ (ofb u0.Data)))))))) ∧
      ((!u0.Remote) = false →
        ((u0.Size ≤ 9223372036854775807 ∧ (4 : Int) ≤ 1000000) ∧
        (((((([48] : List UInt8) ++ (fnameS u0)) ++ ([49, 48, 49, 48] : List UInt8)).length : Int) + (((rrowS u0.Size 4).1).length : Int) ≤ 9223372036854775807) ∧
        (((∀ x ∈ u0.Data, 0 ≤ x ∧ x ≤ 255) ∧ u0.Data.length ≤ 1000) ∧
        ((((((([48] : List UInt8) ++ (fnameS u0)) ++ ([49, 48, 49, 48] : List UInt8)) ++ ((rrowS u0.Size 4).1)).length : Int) + ((ofb u0.Data).length : Int) ≤ 9223372036854775807) ∧
        (K ((((([48] : List UInt8) ++ (fnameS u0)) ++ ([49, 48, 49, 48] : List UInt8)) ++ ((rrowS u0.Size 4).1)) ++ (ofb u0.Data))))))))))) ∧
    (u0.Fast = false →
      ((u0.Long = true →
        ((((([48] : List UInt8) ++ (fnameS u0)).length : Int) + (([48, 48] : List UInt8).length : Int) ≤ 9223372036854775807) ∧
        (((!u0.Remote) = true →
          (((sindexS rsizes (u0.Data.length : Int)) ≤ 9223372036854775807 ∧ (4 : Int) ≤ 1000000) ∧
          (((((([48] : List UInt8) ++ (fnameS u0)) ++ ([48, 48] : List UInt8)).length : Int) + (((rrowS (sindexS rsizes (u0.Data.length : Int)) 4).1).length : Int) ≤ 9223372036854775807) ∧
          (((∀ x ∈ u0.Data, 0 ≤ x ∧ x ≤ 255) ∧ u0.Data.length ≤ 1000) ∧
          ((((((([48] : List UInt8) ++ (fnameS u0)) ++ ([48, 48] : List UInt8)) ++ ((rrowS (sindexS rsizes (u0.Data.length : Int)) 4).1)).length : Int) + ((ofb u0.Data).length : Int) ≤ 9223372036854775807) ∧
          (K ((((([48] : List UInt8) ++ (fnameS u0)) ++ ([48, 48] : List UInt8)) ++ ((rrowS (sindexS rsizes (u0.Data.length : Int)) 4).1)) ++ (ofb u0.Data)))))))) ∧
        ((!u0.Remote) = false →
          ((u0.Size ≤ 9223372036854775807 ∧ (4 : Int) ≤ 1000000) ∧
          (((((([48] : List UInt8) ++ (fnameS u0)) ++ ([48, 48] : List UInt8)).length : Int) + (((rrowS u0.Size 4).1).length : Int) ≤ 9223372036854775807) ∧
          (((∀ x ∈ u0.Data, 0 ≤ x ∧ x ≤ 255) ∧ u0.Data.length ≤ 1000) ∧
          ((((((([48] : List UInt8) ++ (fnameS u0)) ++ ([48, 48] : List UInt8)) ++ ((rrowS u0.Size 4).1)).length : Int) + ((ofb u0.Data).length : Int) ≤ 9223372036854775807) ∧
          (K ((((([48] : List UInt8) ++ (fnameS u0)) ++ ([48, 48] : List UInt8)) ++ ((rrowS u0.Size 4).1)) ++ (ofb u0.Data))))))))))) ∧
      (u0.Long = false →
        ((((([48] : List UInt8) ++ (fnameS u0)).length : Int) + (([48] : List UInt8).length : Int) ≤ 9223372036854775807) ∧
        (((!u0.Remote) = true →
          (((sindexS rsizes (u0.Data.length : Int)) ≤ 9223372036854775807 ∧ (4 : Int) ≤ 1000000) ∧
          (((((([48] : List UInt8) ++ (fnameS u0)) ++ ([48] : List UInt8)).length : Int) + (((rrowS (sindexS rsizes (u0.Data.length : Int)) 4).1).length : Int) ≤ 9223372036854775807) ∧
          (((∀ x ∈ u0.Data, 0 ≤ x ∧ x ≤ 255) ∧ u0.Data.length ≤ 1000) ∧
          ((((((([48] : List UInt8) ++ (fnameS u0)) ++ ([48] : List UInt8)) ++ ((rrowS (sindexS rsizes (u0.Data.length : Int)) 4).1)).length : Int) + ((ofb u0.Data).length : Int) ≤ 9223372036854775807) ∧
          (K ((((([48] : List UInt8) ++ (fnameS u0)) ++ ([48] : List UInt8)) ++ ((rrowS (sindexS rsizes (u0.Data.length : Int)) 4).1)) ++ (ofb u0.Data)))))))) ∧
        ((!u0.Remote) = false →
          ((u0.Size ≤ 9223372036854775807 ∧ (4 : Int) ≤ 1000000) ∧
          (((((([48] : List UInt8) ++ (fnameS u0)) ++ ([48] : List UInt8)).length : Int) + (((rrowS u0.Size 4).1).length : Int) ≤ 9223372036854775807) ∧
          (((∀ x ∈ u0.Data, 0 ≤ x ∧ x ≤ 255) ∧ u0.Data.length ≤ 1000) ∧
          ((((((([48] : List UInt8) ++ (fnameS u0)) ++ ([48] : List UInt8)) ++ ((rrowS u0.Size 4).1)).length : Int) + ((ofb u0.Data).length : Int) ≤ 9223372036854775807) ∧
          (K ((((([48] : List UInt8) ++ (fnameS u0)) ++ ([48] : List UInt8)) ++ ((rrowS u0.Size 4).1)) ++ (ofb u0.Data)))))))))))))))))

def rlmost_vc (u0 : Int) (K : Int → Prop) : Prop :=
  (K (w64 (u0 + (w64 ((w64 (u0 - 1)).tdiv 4)))))
def rlmost (u0 : Int) : Int :=
  w64 (u0 + (w64 ((w64 (u0 - 1)).tdiv 4)))
theorem rlmost_ok (u0 : Int) : rlmost_vc u0 (fun r => r = rlmost u0) := (by rfl)

/-! Pure proofs: no program in sight. -/
theorem rname_ok (f : Frame) (h : fcheckfr f = 0) : rname_vc f (fun r => r = fnameS f) := by
  obtain ⟨c1, c2, c3, c4, c5, c6, c7, c8, c9, c10⟩ := fcheckfr_zero h
  intro _
  have p29 : (2 : Nat) ^ 29 = 536870912 := rfl
  have p11 : (2 : Nat) ^ 11 = 2048 := rfl
  have hl : rrowS f.ID 29 = (wr 29 f.ID.toNat, true) := rrow_wr c1 (by decide) (by show _ < 2 ^ 29; omega)
  have hs : f.Long = false → rrowS f.ID 11 = (wr 11 f.ID.toNat, true) := fun e => rrow_wr c1 (by decide) (by have := c3 e; show _ < 2 ^ 11; omega)
  have hsp : wr 29 f.ID.toNat = wr 11 (f.ID.toNat / 2 ^ 18) ++ wr 18 f.ID.toNat := wr_split f.ID.toNat 18 11
  have e11 : (11 : Int).toNat = 11 := rfl
  have ht : (wr 29 f.ID.toNat).take 11 = wr 11 (f.ID.toNat / 2 ^ 18) := by rw [hsp]; exact List.take_left' (wr_length _ _)
  have hdr : (wr 29 f.ID.toNat).drop 11 = wr 18 f.ID.toNat := by rw [hsp]; exact List.drop_left' (wr_length _ _)
  rw [hl]
  dsimp only
  rw [e11, ht, hdr]
  refine ⟨fun hR => ⟨fun hL => ?_, fun hL => ?_⟩, fun hR => ⟨fun hL => ?_, fun hL => ?_⟩⟩
  · refine ⟨by omega, by rw [wr_length]; omega, by rw [wr_length]; simp, by rw [wr_length]; omega, by simp [wr_length], by simp [wr_length], ?_⟩
    unfold fnameS
    rw [if_neg (by rw [hL]; simp), hR]
    rfl
  · rw [hs hL]
    refine ⟨by omega, by simp [wr_length], by simp [wr_length], ?_⟩
    unfold fnameS
    rw [if_pos hL, hR]
    rfl
  · refine ⟨by omega, by rw [wr_length]; omega, by rw [wr_length]; simp, by rw [wr_length]; omega, by simp [wr_length], by simp [wr_length], ?_⟩
    unfold fnameS
    rw [if_neg (by rw [hL]; simp), hR]
    rfl
  · rw [hs hL]
    refine ⟨by omega, by simp [wr_length], by simp [wr_length], ?_⟩
    unfold fnameS
    rw [if_pos hL, hR]
    rfl
theorem fcheck_eq (f : Frame) (c1 c2 c3 c4 : Bool) (h1 : c1 = (((decide (f.ID < 0)) || ((!f.Long) && (decide (f.ID > 2047)))) || (decide (f.ID > 536870911)))) (h2 : c2 = (f.Remote && (f.Fast || (decide ((f.Data.length : Int) > 0)))))
    (h3 : c3 = (((decide (f.Size < 0)) || (decide (f.Size > 8))) || ((!f.Remote) && (f.Size != 0)))) (h4 : c4 = ((decide ((f.Data.length : Int) > 64)) || ((!f.Fast) && (decide ((f.Data.length : Int) > 8))))) :
    fcheckfr f = bif c1 then 3 else bif c2 then 4 else bif c3 then 3 else bif c4 then 2 else bif !(scontainsS rsizes (f.Data.length : Int)) then 4 else 0 := by
  subst h1 h2 h3 h4
  rfl
theorem rcheckfr_ok (f : Frame) : rcheckfr_vc f (fun r => r = fcheckfr f) := by
  intro _
  have e2 : (f.Remote && (f.Fast || ((f.Data.length : Int) != 0))) = (f.Remote && (f.Fast || (decide ((f.Data.length : Int) > 0)))) := by
    congr 2
    rw [Bool.eq_iff_iff, bne_iff_ne, decide_eq_true_eq]
    omega
  have e3 : (((decide (f.Size < 0)) || (decide (f.Size > 8))) || ((decide (f.Size > 0)) && (!f.Remote))) = (((decide (f.Size < 0)) || (decide (f.Size > 8))) || ((!f.Remote) && (f.Size != 0))) := by
    cases f.Remote
    · rw [Bool.eq_iff_iff]
      simp
      omega
    · simp
  have e4 : ((decide ((f.Data.length : Int) > 64)) || ((decide ((f.Data.length : Int) > 8)) && (!f.Fast))) = ((decide ((f.Data.length : Int) > 64)) || ((!f.Fast) && (decide ((f.Data.length : Int) > 8)))) := by
    rw [Bool.and_comm (decide ((f.Data.length : Int) > 8))]
  refine ⟨fun hL => ?_, fun hL => ?_⟩
  · have e1 : ((decide (f.ID < 0)) || (decide (f.ID > 536870911))) = (((decide (f.ID < 0)) || ((!f.Long) && (decide (f.ID > 2047)))) || (decide (f.ID > 536870911))) := by rw [hL]; simp
    have e := fcheck_eq f _ _ _ _ e1 e2 e3 e4
    rw [e]
    refine ⟨fun g1 => by rw [g1]; rfl, fun g1 => ⟨fun g2 => by rw [g1, g2]; rfl, fun g2 => ⟨fun g3 => by rw [g1, g2, g3]; rfl, fun g3 => ⟨fun g4 => by rw [g1, g2, g3, g4]; rfl, fun g4 => ⟨fun g5 => by rw [g1, g2, g3, g4, g5]; rfl, fun g5 => by rw [g1, g2, g3, g4, g5]; rfl⟩⟩⟩⟩⟩
  · have e1 : ((decide (f.ID < 0)) || (decide (f.ID > 2047))) = (((decide (f.ID < 0)) || ((!f.Long) && (decide (f.ID > 2047)))) || (decide (f.ID > 536870911))) := by
      rw [hL, Bool.eq_iff_iff]
      simp
      omega
    have e := fcheck_eq f _ _ _ _ e1 e2 e3 e4
    rw [e]
    refine ⟨fun g1 => by rw [g1]; rfl, fun g1 => ⟨fun g2 => by rw [g1, g2]; rfl, fun g2 => ⟨fun g3 => by rw [g1, g2, g3]; rfl, fun g3 => ⟨fun g4 => by rw [g1, g2, g3, g4]; rfl, fun g4 => ⟨fun g5 => by rw [g1, g2, g3, g4, g5]; rfl, fun g5 => by rw [g1, g2, g3, g4, g5]; rfl⟩⟩⟩⟩⟩
theorem rhead_ok (f : Frame) (h : fcheckfr f = 0 ∧ ∀ x ∈ f.Data, 0 ≤ x ∧ x ≤ 255) : rhead_vc f (fun r => r = fheadS f) := by
  obtain ⟨h0, hb⟩ := h
  obtain ⟨c1, c2, c3, c4, c5, c6, c7, c8, c9, c10⟩ := fcheckfr_zero h0
  have hrs : rsizes = fsizes := rfl
  have hnl : (fnameS f).length ≤ 32 := by rw [fnameS_len]; split <;> omega
  have hofl := ofb_length f.Data
  have p4 : (2 : Nat) ^ 4 = 16 := rfl
  have key : ∀ c : List UInt8, c = fctl f → c.length ≤ 4 → ∀ n : Int, 0 ≤ n → n ≤ 15 → n.toNat = fcode f →
      ((n ≤ 9223372036854775807 ∧ (4 : Int) ≤ 1000000) ∧
        (((((([48] : List UInt8) ++ (fnameS f)) ++ c).length : Int) + (((rrowS n 4).1).length : Int) ≤ 9223372036854775807) ∧
        (((∀ x ∈ f.Data, 0 ≤ x ∧ x ≤ 255) ∧ f.Data.length ≤ 1000) ∧
        ((((((([48] : List UInt8) ++ (fnameS f)) ++ c) ++ ((rrowS n 4).1)).length : Int) + ((ofb f.Data).length : Int) ≤ 9223372036854775807) ∧
        ((((([48] : List UInt8) ++ (fnameS f)) ++ c) ++ ((rrowS n 4).1)) ++ (ofb f.Data)) = fheadS f)))) := by
    intro c hc hcl n n0 n1 hn
    have hr : rrowS n 4 = (wr 4 n.toNat, true) := rrow_wr n0 (by decide) (by show n.toNat < 2 ^ 4; omega)
    rw [hr]
    dsimp only
    refine ⟨⟨by omega, by decide⟩, ?_, ⟨hb, by omega⟩, ?_, ?_⟩
    · simp only [List.length_append, List.length_cons, List.length_nil, wr_length]; omega
    · simp only [List.length_append, List.length_cons, List.length_nil, wr_length]; omega
    · rw [hn, hc]
      rfl
  have two : ∀ c : List UInt8, c = fctl f → c.length ≤ 4 →
      (((!f.Remote) = true →
        (((sindexS rsizes (f.Data.length : Int)) ≤ 9223372036854775807 ∧ (4 : Int) ≤ 1000000) ∧
        (((((([48] : List UInt8) ++ (fnameS f)) ++ c).length : Int) + (((rrowS (sindexS rsizes (f.Data.length : Int)) 4).1).length : Int) ≤ 9223372036854775807) ∧
        (((∀ x ∈ f.Data, 0 ≤ x ∧ x ≤ 255) ∧ f.Data.length ≤ 1000) ∧
        ((((((([48] : List UInt8) ++ (fnameS f)) ++ c) ++ ((rrowS (sindexS rsizes (f.Data.length : Int)) 4).1)).length : Int) + ((ofb f.Data).length : Int) ≤ 9223372036854775807) ∧
        ((((([48] : List UInt8) ++ (fnameS f)) ++ c) ++ ((rrowS (sindexS rsizes (f.Data.length : Int)) 4).1)) ++ (ofb f.Data)) = fheadS f))))) ∧
      ((!f.Remote) = false →
        ((f.Size ≤ 9223372036854775807 ∧ (4 : Int) ≤ 1000000) ∧
        (((((([48] : List UInt8) ++ (fnameS f)) ++ c).length : Int) + (((rrowS f.Size 4).1).length : Int) ≤ 9223372036854775807) ∧
        (((∀ x ∈ f.Data, 0 ≤ x ∧ x ≤ 255) ∧ f.Data.length ≤ 1000) ∧
        ((((((([48] : List UInt8) ++ (fnameS f)) ++ c) ++ ((rrowS f.Size 4).1)).length : Int) + ((ofb f.Data).length : Int) ≤ 9223372036854775807) ∧
        ((((([48] : List UInt8) ++ (fnameS f)) ++ c) ++ ((rrowS f.Size 4).1)) ++ (ofb f.Data)) = fheadS f)))))) := by
    intro c hc hcl
    refine ⟨fun hR => ?_, fun hR => ?_⟩
    · have hR : f.Remote = false := by simpa using hR
      have hs := sindexS_sizes (f.Data.length : Int)
      have hge : 0 ≤ sindexS fsizes (f.Data.length : Int) := by
        have := sidx_ge (fun q => (f.Data.length : Int) == q) fsizes
        unfold scontainsS at c10
        rw [c10] at this
        exact of_decide_eq_true this
      rw [hrs]
      exact key c hc hcl _ hge hs.2 (by unfold fcode; rw [if_pos hR])
    · have hR : f.Remote = true := by simpa using hR
      exact key c hc hcl _ c5 (by omega) (by unfold fcode; rw [if_neg (by rw [hR]; simp)])
  intro _
  refine ⟨h0, by simp only [List.length_cons, List.length_nil]; omega, fun hF => ?_, fun hF => ⟨fun hL => ?_, fun hL => ?_⟩⟩
  · refine ⟨by simp only [List.length_append, List.length_cons, List.length_nil]; omega, ?_⟩
    exact two _ (by unfold fctl; rw [if_pos hF]) (by decide)
  · refine ⟨by simp only [List.length_append, List.length_cons, List.length_nil]; omega, ?_⟩
    exact two _ (by unfold fctl; rw [if_neg (by rw [hF]; simp), if_pos hL]) (by decide)
  · refine ⟨by simp only [List.length_append, List.length_cons, List.length_nil]; omega, ?_⟩
    exact two _ (by unfold fctl; rw [if_neg (by rw [hF]; simp), if_neg (by rw [hL]; simp)]) (by decide)

end Go.Proofs.YtmbdcehmeiiaoaaGreatDoor
