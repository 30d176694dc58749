/- Texts put together (pure ones, or walks made by program). -/
import Derived.Test.YtmbdcehmeiiaoaaGreatDoorCore
import Derived.Test.YtmbdcehmeiiaoaaGreatDoorK1
set_option linter.unusedVariables false
set_option linter.unusedSimpArgs false
namespace Go.Proofs.YtmbdcehmeiiaoaaGreatDoor
open Go.Sy Go.RowKit
def rhead_vc (u0 : Frame) (K : (List UInt8) → Prop) : Prop :=
  (u0.Data.length ≤ 140737488355328 →
    ((fcheckfr u0 = 0) ∧
    (((([48] : List UInt8).length : Int) + ((fnameS u0).length : Int) ≤ 9223372036854775807) ∧
    ((u0.Fast = true →
      ((((([48] : List UInt8) ++ (fnameS u0)).length : Int) + (([49, 48, 49, 48] : List UInt8).length : Int) ≤ 9223372036854775807) ∧
      (((!u0.Remote) = true →
        (((sindexS rsizes (u0.Data.length : Int)) ≤ 9223372036854775807 ∧ (4 : Int) ≤ 1000000) ∧
        (((((([48] : List UInt8) ++ (fnameS u0)) ++ ([49, 48, 49, 48] : List UInt8)).length : Int) + ((rrowS (sindexS rsizes (u0.Data.length : Int)) 4).1.length : Int) ≤ 9223372036854775807) ∧
        (((∀ x ∈ u0.Data, 0 ≤ x ∧ x ≤ 255) ∧ u0.Data.length ≤ 1000) ∧
        ((((((([48] : List UInt8) ++ (fnameS u0)) ++ ([49, 48, 49, 48] : List UInt8)) ++ (rrowS (sindexS rsizes (u0.Data.length : Int)) 4).1).length : Int) + ((ofb u0.Data).length : Int) ≤ 9223372036854775807) ∧
        (K ((((([48] : List UInt8) ++ (fnameS u0)) ++ ([49, 48, 49, 48] : List UInt8)) ++ (rrowS (sindexS rsizes (u0.Data.length : Int)) 4).1) ++ (ofb u0.Data)))))))) ∧
      ((!u0.Remote) = false →
        ((u0.Size ≤ 9223372036854775807 ∧ (4 : Int) ≤ 1000000) ∧
        (((((([48] : List UInt8) ++ (fnameS u0)) ++ ([49, 48, 49, 48] : List UInt8)).length : Int) + ((rrowS u0.Size 4).1.length : Int) ≤ 9223372036854775807) ∧
        (((∀ x ∈ u0.Data, 0 ≤ x ∧ x ≤ 255) ∧ u0.Data.length ≤ 1000) ∧
        ((((((([48] : List UInt8) ++ (fnameS u0)) ++ ([49, 48, 49, 48] : List UInt8)) ++ (rrowS u0.Size 4).1).length : Int) + ((ofb u0.Data).length : Int) ≤ 9223372036854775807) ∧
        (K ((((([48] : List UInt8) ++ (fnameS u0)) ++ ([49, 48, 49, 48] : List UInt8)) ++ (rrowS u0.Size 4).1) ++ (ofb u0.Data))))))))))) ∧
    (u0.Fast = false →
      ((u0.Long = true →
        ((((([48] : List UInt8) ++ (fnameS u0)).length : Int) + (([48, 48] : List UInt8).length : Int) ≤ 9223372036854775807) ∧
        (((!u0.Remote) = true →
          (((sindexS rsizes (u0.Data.length : Int)) ≤ 9223372036854775807 ∧ (4 : Int) ≤ 1000000) ∧
          (((((([48] : List UInt8) ++ (fnameS u0)) ++ ([48, 48] : List UInt8)).length : Int) + ((rrowS (sindexS rsizes (u0.Data.length : Int)) 4).1.length : Int) ≤ 9223372036854775807) ∧
          (((∀ x ∈ u0.Data, 0 ≤ x ∧ x ≤ 255) ∧ u0.Data.length ≤ 1000) ∧
          ((((((([48] : List UInt8) ++ (fnameS u0)) ++ ([48, 48] : List UInt8)) ++ (rrowS (sindexS rsizes (u0.Data.length : Int)) 4).1).length : Int) + ((ofb u0.Data).length : Int) ≤ 9223372036854775807) ∧
          (K ((((([48] : List UInt8) ++ (fnameS u0)) ++ ([48, 48] : List UInt8)) ++ (rrowS (sindexS rsizes (u0.Data.length : Int)) 4).1) ++ (ofb u0.Data)))))))) ∧
        ((!u0.Remote) = false →
          ((u0.Size ≤ 9223372036854775807 ∧ (4 : Int) ≤ 1000000) ∧
          (((((([48] : List UInt8) ++ (fnameS u0)) ++ ([48, 48] : List UInt8)).length : Int) + ((rrowS u0.Size 4).1.length : Int) ≤ 9223372036854775807) ∧
          (((∀ x ∈ u0.Data, 0 ≤ x ∧ x ≤ 255) ∧ u0.Data.length ≤ 1000) ∧
          ((((((([48] : List UInt8) ++ (fnameS u0)) ++ ([48, 48] : List UInt8)) ++ (rrowS u0.Size 4).1).length : Int) + ((ofb u0.Data).length : Int) ≤ 9223372036854775807) ∧
          (K ((((([48] : List UInt8) ++ (fnameS u0)) ++ ([48, 48] : List UInt8)) ++ (rrowS u0.Size 4).1) ++ (ofb u0.Data))))))))))) ∧
      (u0.Long = false →
        ((((([48] : List UInt8) ++ (fnameS u0)).length : Int) + (([48] : List UInt8).length : Int) ≤ 9223372036854775807) ∧
        (((!u0.Remote) = true →
          (((sindexS rsizes (u0.Data.length : Int)) ≤ 9223372036854775807 ∧ (4 : Int) ≤ 1000000) ∧
          (((((([48] : List UInt8) ++ (fnameS u0)) ++ ([48] : List UInt8)).length : Int) + ((rrowS (sindexS rsizes (u0.Data.length : Int)) 4).1.length : Int) ≤ 9223372036854775807) ∧
          (((∀ x ∈ u0.Data, 0 ≤ x ∧ x ≤ 255) ∧ u0.Data.length ≤ 1000) ∧
          ((((((([48] : List UInt8) ++ (fnameS u0)) ++ ([48] : List UInt8)) ++ (rrowS (sindexS rsizes (u0.Data.length : Int)) 4).1).length : Int) + ((ofb u0.Data).length : Int) ≤ 9223372036854775807) ∧
          (K ((((([48] : List UInt8) ++ (fnameS u0)) ++ ([48] : List UInt8)) ++ (rrowS (sindexS rsizes (u0.Data.length : Int)) 4).1) ++ (ofb u0.Data)))))))) ∧
        ((!u0.Remote) = false →
          ((u0.Size ≤ 9223372036854775807 ∧ (4 : Int) ≤ 1000000) ∧
          (((((([48] : List UInt8) ++ (fnameS u0)) ++ ([48] : List UInt8)).length : Int) + ((rrowS u0.Size 4).1.length : Int) ≤ 9223372036854775807) ∧
          (((∀ x ∈ u0.Data, 0 ≤ x ∧ x ≤ 255) ∧ u0.Data.length ≤ 1000) ∧
          ((((((([48] : List UInt8) ++ (fnameS u0)) ++ ([48] : List UInt8)) ++ (rrowS u0.Size 4).1).length : Int) + ((ofb u0.Data).length : Int) ≤ 9223372036854775807) ∧
          (K ((((([48] : List UInt8) ++ (fnameS u0)) ++ ([48] : List UInt8)) ++ (rrowS u0.Size 4).1) ++ (ofb u0.Data)))))))))))))))))

def rlmost_vc (u0 : Int) (K : Int → Prop) : Prop :=
  (K (w64 (u0 + (w64 ((w64 (u0 - 1)).tdiv 4)))))
def rlmost (u0 : Int) : Int :=
  w64 (u0 + (w64 ((w64 (u0 - 1)).tdiv 4)))
theorem rlmost_ok (u0 : Int) : rlmost_vc u0 (fun r => r = rlmost u0) := (by rfl)

/-! Pure proofs: no program in sight. -/
theorem rname_ok (f : Frame) (h : fcheckfr f = 0) : rname_vc f (fun r => r = fnameS f) := by
  obtain ⟨c1, c2, c3, c4, c5, c6, c7, c8, c9, c10⟩ := fcheckfr_zero h
  intro _
  have p29 : (2 : Nat) ^ 29 = 536870912 := rfl
  have p11 : (2 : Nat) ^ 11 = 2048 := rfl
  have hl : rrowS f.ID 29 = (wr 29 f.ID.toNat, true) := rrow_wr c1 (by decide) (by show _ < 2 ^ 29; omega)
  have hs : f.Long = false → rrowS f.ID 11 = (wr 11 f.ID.toNat, true) := fun e => rrow_wr c1 (by decide) (by have := c3 e; show _ < 2 ^ 11; omega)
  have hsp : wr 29 f.ID.toNat = wr 11 (f.ID.toNat / 2 ^ 18) ++ wr 18 f.ID.toNat := wr_split f.ID.toNat 18 11
  have e11 : (11 : Int).toNat = 11 := rfl
  have ht : (wr 29 f.ID.toNat).take 11 = wr 11 (f.ID.toNat / 2 ^ 18) := by rw [hsp]; exact List.take_left' (wr_length _ _)
  have hdr : (wr 29 f.ID.toNat).drop 11 = wr 18 f.ID.toNat := by rw [hsp]; exact List.drop_left' (wr_length _ _)
  rw [hl]
  dsimp only
  rw [e11, ht, hdr]
  refine ⟨fun hR => ⟨fun hL => ?_, fun hL => ?_⟩, fun hR => ⟨fun hL => ?_, fun hL => ?_⟩⟩
  · refine ⟨by omega, by rw [wr_length]; omega, by rw [wr_length]; simp, by rw [wr_length]; omega, by simp [wr_length], by simp [wr_length], ?_⟩
    unfold fnameS
    rw [if_neg (by rw [hL]; simp), hR]
    rfl
  · rw [hs hL]
    refine ⟨by omega, by simp [wr_length], by simp [wr_length], ?_⟩
    unfold fnameS
    rw [if_pos hL, hR]
    rfl
  · refine ⟨by omega, by rw [wr_length]; omega, by rw [wr_length]; simp, by rw [wr_length]; omega, by simp [wr_length], by simp [wr_length], ?_⟩
    unfold fnameS
    rw [if_neg (by rw [hL]; simp), hR]
    rfl
  · rw [hs hL]
    refine ⟨by omega, by simp [wr_length], by simp [wr_length], ?_⟩
    unfold fnameS
    rw [if_pos hL, hR]
    rfl
theorem fcheck_eq (f : Frame) (c1 c2 c3 c4 : Bool) (h1 : c1 = (((decide (f.ID < 0)) || ((!f.Long) && (decide (f.ID > 2047)))) || (decide (f.ID > 536870911)))) (h2 : c2 = (f.Remote && (f.Fast || (decide ((f.Data.length : Int) > 0)))))
    (h3 : c3 = (((decide (f.Size < 0)) || (decide (f.Size > 8))) || ((!f.Remote) && (f.Size != 0)))) (h4 : c4 = ((decide ((f.Data.length : Int) > 64)) || ((!f.Fast) && (decide ((f.Data.length : Int) > 8))))) :
    fcheckfr f = bif c1 then 3 else bif c2 then 4 else bif c3 then 3 else bif c4 then 2 else bif !(scontainsS rsizes (f.Data.length : Int)) then 4 else 0 := by
  subst h1 h2 h3 h4
  rfl
theorem rcheckfr_ok (f : Frame) : rcheckfr_vc f (fun r => r = fcheckfr f) := by
  intro _
  have e2 : (f.Remote && (f.Fast || ((f.Data.length : Int) != 0))) = (f.Remote && (f.Fast || (decide ((f.Data.length : Int) > 0)))) := by
    congr 2
    rw [Bool.eq_iff_iff, bne_iff_ne, decide_eq_true_eq]
    omega
  have e3 : (((decide (f.Size < 0)) || (decide (f.Size > 8))) || ((decide (f.Size > 0)) && (!f.Remote))) = (((decide (f.Size < 0)) || (decide (f.Size > 8))) || ((!f.Remote) && (f.Size != 0))) := by
    cases f.Remote
    · rw [Bool.eq_iff_iff]
      simp
      omega
    · simp
  have e4 : ((decide ((f.Data.length : Int) > 64)) || ((decide ((f.Data.length : Int) > 8)) && (!f.Fast))) = ((decide ((f.Data.length : Int) > 64)) || ((!f.Fast) && (decide ((f.Data.length : Int) > 8)))) := by
    rw [Bool.and_comm (decide ((f.Data.length : Int) > 8))]
  refine ⟨fun hL => ?_, fun hL => ?_⟩
  · have e1 : ((decide (f.ID < 0)) || (decide (f.ID > 536870911))) = (((decide (f.ID < 0)) || ((!f.Long) && (decide (f.ID > 2047)))) || (decide (f.ID > 536870911))) := by rw [hL]; simp
    have e := fcheck_eq f _ _ _ _ e1 e2 e3 e4
    rw [e]
    refine ⟨fun g1 => by rw [g1]; rfl, fun g1 => ⟨fun g2 => by rw [g1, g2]; rfl, fun g2 => ⟨fun g3 => by rw [g1, g2, g3]; rfl, fun g3 => ⟨fun g4 => by rw [g1, g2, g3, g4]; rfl, fun g4 => ⟨fun g5 => by rw [g1, g2, g3, g4, g5]; rfl, fun g5 => by rw [g1, g2, g3, g4, g5]; rfl⟩⟩⟩⟩⟩
  · have e1 : ((decide (f.ID < 0)) || (decide (f.ID > 2047))) = (((decide (f.ID < 0)) || ((!f.Long) && (decide (f.ID > 2047)))) || (decide (f.ID > 536870911))) := by
      rw [hL, Bool.eq_iff_iff]
      simp
      omega
    have e := fcheck_eq f _ _ _ _ e1 e2 e3 e4
    rw [e]
    refine ⟨fun g1 => by rw [g1]; rfl, fun g1 => ⟨fun g2 => by rw [g1, g2]; rfl, fun g2 => ⟨fun g3 => by rw [g1, g2, g3]; rfl, fun g3 => ⟨fun g4 => by rw [g1, g2, g3, g4]; rfl, fun g4 => ⟨fun g5 => by rw [g1, g2, g3, g4, g5]; rfl, fun g5 => by rw [g1, g2, g3, g4, g5]; rfl⟩⟩⟩⟩⟩
theorem rhead_ok (f : Frame) (h : fcheckfr f = 0 ∧ ∀ x ∈ f.Data, 0 ≤ x ∧ x ≤ 255) : rhead_vc f (fun r => r = fheadS f) := by
  obtain ⟨h0, hb⟩ := h
  obtain ⟨c1, c2, c3, c4, c5, c6, c7, c8, c9, c10⟩ := fcheckfr_zero h0
  have hrs : rsizes = fsizes := rfl
  have hnl : (fnameS f).length ≤ 32 := by rw [fnameS_len]; split <;> omega
  have hofl := ofb_length f.Data
  have p4 : (2 : Nat) ^ 4 = 16 := rfl
  have key : ∀ c : List UInt8, c = fctl f → c.length ≤ 4 → ∀ n : Int, 0 ≤ n → n ≤ 15 → n.toNat = fcode f →
      ((n ≤ 9223372036854775807 ∧ (4 : Int) ≤ 1000000) ∧
        (((((([48] : List UInt8) ++ (fnameS f)) ++ c).length : Int) + (((rrowS n 4).1).length : Int) ≤ 9223372036854775807) ∧
        (((∀ x ∈ f.Data, 0 ≤ x ∧ x ≤ 255) ∧ f.Data.length ≤ 1000) ∧
        ((((((([48] : List UInt8) ++ (fnameS f)) ++ c) ++ ((rrowS n 4).1)).length : Int) + ((ofb f.Data).length : Int) ≤ 9223372036854775807) ∧
        ((((([48] : List UInt8) ++ (fnameS f)) ++ c) ++ ((rrowS n 4).1)) ++ (ofb f.Data)) = fheadS f)))) := by
    intro c hc hcl n n0 n1 hn
    have hr : rrowS n 4 = (wr 4 n.toNat, true) := rrow_wr n0 (by decide) (by show n.toNat < 2 ^ 4; omega)
    rw [hr]
    dsimp only
    refine ⟨⟨by omega, by decide⟩, ?_, ⟨hb, by omega⟩, ?_, ?_⟩
    · simp only [List.length_append, List.length_cons, List.length_nil, wr_length]; omega
    · simp only [List.length_append, List.length_cons, List.length_nil, wr_length]; omega
    · rw [hn, hc]
      rfl
  have two : ∀ c : List UInt8, c = fctl f → c.length ≤ 4 →
      (((!f.Remote) = true →
        (((sindexS rsizes (f.Data.length : Int)) ≤ 9223372036854775807 ∧ (4 : Int) ≤ 1000000) ∧
        (((((([48] : List UInt8) ++ (fnameS f)) ++ c).length : Int) + (((rrowS (sindexS rsizes (f.Data.length : Int)) 4).1).length : Int) ≤ 9223372036854775807) ∧
        (((∀ x ∈ f.Data, 0 ≤ x ∧ x ≤ 255) ∧ f.Data.length ≤ 1000) ∧
        ((((((([48] : List UInt8) ++ (fnameS f)) ++ c) ++ ((rrowS (sindexS rsizes (f.Data.length : Int)) 4).1)).length : Int) + ((ofb f.Data).length : Int) ≤ 9223372036854775807) ∧
        ((((([48] : List UInt8) ++ (fnameS f)) ++ c) ++ ((rrowS (sindexS rsizes (f.Data.length : Int)) 4).1)) ++ (ofb f.Data)) = fheadS f))))) ∧
      ((!f.Remote) = false →
        ((f.Size ≤ 9223372036854775807 ∧ (4 : Int) ≤ 1000000) ∧
        (((((([48] : List UInt8) ++ (fnameS f)) ++ c).length : Int) + (((rrowS f.Size 4).1).length : Int) ≤ 9223372036854775807) ∧
        (((∀ x ∈ f.Data, 0 ≤ x ∧ x ≤ 255) ∧ f.Data.length ≤ 1000) ∧
        ((((((([48] : List UInt8) ++ (fnameS f)) ++ c) ++ ((rrowS f.Size 4).1)).length : Int) + ((ofb f.Data).length : Int) ≤ 9223372036854775807) ∧
        ((((([48] : List UInt8) ++ (fnameS f)) ++ c) ++ ((rrowS f.Size 4).1)) ++ (ofb f.Data)) = fheadS f)))))) := by
    intro c hc hcl
    refine ⟨fun hR => ?_, fun hR => ?_⟩
    · have hR : f.Remote = false := by simpa using hR
      have hs := sindexS_sizes (f.Data.length : Int)
      have hge : 0 ≤ sindexS fsizes (f.Data.length : Int) := by
        have := sidx_ge (fun q => (f.Data.length : Int) == q) fsizes
        unfold scontainsS at c10
        rw [c10] at this
        exact of_decide_eq_true this
      rw [hrs]
      exact key c hc hcl _ hge hs.2 (by unfold fcode; rw [if_pos hR])
    · have hR : f.Remote = true := by simpa using hR
      exact key c hc hcl _ c5 (by omega) (by unfold fcode; rw [if_neg (by rw [hR]; simp)])
  intro _
  refine ⟨h0, by simp only [List.length_cons, List.length_nil]; omega, fun hF => ?_, fun hF => ⟨fun hL => ?_, fun hL => ?_⟩⟩
  · refine ⟨by simp only [List.length_append, List.length_cons, List.length_nil]; omega, ?_⟩
    exact two _ (by unfold fctl; rw [if_pos hF]) (by decide)
  · refine ⟨by simp only [List.length_append, List.length_cons, List.length_nil]; omega, ?_⟩
    exact two _ (by unfold fctl; rw [if_neg (by rw [hF]; simp), if_pos hL]) (by decide)
  · refine ⟨by simp only [List.length_append, List.length_cons, List.length_nil]; omega, ?_⟩
    exact two _ (by unfold fctl; rw [if_neg (by rw [hF]; simp), if_neg (by rw [hL]; simp)]) (by decide)

end Go.Proofs.YtmbdcehmeiiaoaaGreatDoor
set_option linter.unusedVariables false
set_option linter.unusedSimpArgs false
namespace Go.Proofs.YtmbdcehmeiiaoaaGreatDoor
open Go.Sy Go.RowKit
def rwant_vc (u0 : FReader) (u1 : List UInt8) (K : FReader → Prop) : Prop :=
  (u0.f.Data.length ≤ 140737488355328 →
    ((Rok u0.Reader ∧ (1 : Int) ≤ 9223372036854775807) ∧
    (∀ r19, (rtakeFS u0 1) = r19 →
    (r19.2.f.Data.length ≤ 140737488355328 →
    ((((r19.2.Reader.Code == 0) && (r19.1 != u1)) = true →
      (∀ r65, (rfailS r19.2 4) = r65 →
      (r65.f.Data.length ≤ 140737488355328 →
      (K r65)))) ∧
    (((r19.2.Reader.Code == 0) && (r19.1 != u1)) = false →
      (K r19.2)))))))

def rnumber_vc (u0 : FReader) (u1 : Int) (K : (Int × FReader) → Prop) : Prop :=
  (u0.f.Data.length ≤ 140737488355328 →
    ((Rok u0.Reader ∧ u1 ≤ 9223372036854775807) ∧
    (∀ r24, (rtakeFS u0 u1) = r24 →
    (r24.2.f.Data.length ≤ 140737488355328 →
    (((r24.2.Reader.Code != 0) = true →
      (K (0, r24.2))) ∧
    ((r24.2.Reader.Code != 0) = false →
      ((r24.1.length ≤ 62 ∧ isRow r24.1 = true) ∧
      (K (w64 (breadS r24.1), r24.2)))))))))

/-! Pure proofs: no program in sight. -/
def rwantS (r : FReader) (b : List UInt8) : FReader := if (rtakeFS r 1).2.Reader.Code = 0 ∧ (rtakeFS r 1).1 ≠ b then rfailS (rtakeFS r 1).2 4 else (rtakeFS r 1).2
theorem rwant_ok (r : FReader) (b : List UInt8) (h : Rok r.Reader) : rwant_vc r b (fun q => q = rwantS r b) := by
  intro hl
  refine ⟨⟨h, by decide⟩, ?_⟩
  rintro q rfl _
  refine ⟨fun h1 => ?_, fun h1 => ?_⟩
  · rintro s rfl _
    unfold rwantS
    rw [if_pos (by simpa using h1)]
  · unfold rwantS
    rw [if_neg]
    intro hc
    have : (((rtakeFS r 1).2.Reader.Code == 0) && ((rtakeFS r 1).1 != b)) = true := by simpa using hc
    rw [this] at h1
    cases h1
theorem rwantS_f (r : FReader) (b : List UInt8) : (rwantS r b).f = r.f := by
  unfold rwantS
  split
  · rw [rfailS_f]; rfl
  · rfl
theorem rwantS_Rok {r : FReader} {b : List UInt8} (h : Rok r.Reader) : Rok (rwantS r b).Reader := by
  have h1 := (rtakeS_Rok 1 h).1
  unfold rwantS
  split
  · exact rfailS_Rok h1
  · exact h1
def rnumberS (r : FReader) (n : Int) : Int × FReader := if (rtakeFS r n).2.Reader.Code ≠ 0 then (0, (rtakeFS r n).2) else ((val (rtakeFS r n).1 : Int), (rtakeFS r n).2)
theorem rnumber_ok (r : FReader) (n : Int) (h : Rok r.Reader ∧ 0 ≤ n ∧ n ≤ 62) : rnumber_vc r n (fun q => q = rnumberS r n) := by
  intro hl
  refine ⟨⟨h.1, by omega⟩, ?_⟩
  rintro q rfl _
  obtain ⟨k1, k2, _⟩ := rtakeS_row (n := n) h.1
  refine ⟨fun h1 => ?_, fun h1 => ⟨⟨by show (rtakeS r.Reader n).1.length ≤ 62; omega, k1⟩, ?_⟩⟩
  · unfold rnumberS
    rw [if_pos (by simpa using h1)]
  · unfold rnumberS
    rw [if_neg (by simpa using h1)]
    have hv := val_lt k1
    have hp : 2 ^ (rtakeS r.Reader n).1.length ≤ 2 ^ 62 := Nat.pow_le_pow_right (by omega) (by omega)
    have p62 : (2 : Nat) ^ 62 = 4611686018427387904 := rfl
    have e : breadS (rtakeFS r n).1 = ((val (rtakeS r.Reader n).1 : Nat) : Int) := rfl
    rw [e, w64_eq _ (by omega)]
    rfl
theorem rnumberS_f (r : FReader) (n : Int) : (rnumberS r n).2.f = r.f := by unfold rnumberS; split <;> rfl
theorem rnumberS_Rok {r : FReader} {n : Int} (h : Rok r.Reader) : Rok (rnumberS r n).2.Reader := by
  have h1 := (rtakeS_Rok n h).1
  unfold rnumberS
  split <;> exact h1
theorem rnumberS_bound {r : FReader} {n : Nat} (h : Rok r.Reader) : 0 ≤ (rnumberS r n).1 ∧ (rnumberS r n).1 < 2 ^ n := by
  obtain ⟨k1, k2, _⟩ := rtakeS_row (n := (n : Int)) h
  have hv := val_lt k1
  have hp : 2 ^ (rtakeS r.Reader n).1.length ≤ 2 ^ n := Nat.pow_le_pow_right (by omega) (by rw [Int.toNat_natCast] at k2; exact k2)
  unfold rnumberS
  split
  · exact ⟨Int.le_refl _, Int.pow_pos (by decide)⟩
  · have e : ((val (rtakeFS r n).1 : Nat) : Int) = ((val (rtakeS r.Reader n).1 : Nat) : Int) := rfl
    dsimp only
    rw [e]
    refine ⟨by omega, ?_⟩
    have : ((val (rtakeS r.Reader n).1 : Nat) : Int) < ((2 ^ n : Nat) : Int) := by omega
    exact_mod_cast this

end Go.Proofs.YtmbdcehmeiiaoaaGreatDoor
set_option linter.unusedVariables false
set_option linter.unusedSimpArgs false
namespace Go.Proofs.YtmbdcehmeiiaoaaGreatDoor
open Go.Sy Go.RowKit
def rnames_vc (u0 : FReader) (K : FReader → Prop) : Prop :=
  (u0.f.Data.length ≤ 140737488355328 →
    ((Rok u0.Reader) ∧
    (∀ r15, (rwantS u0 ([48] : List UInt8)) = r15 →
    (r15.f.Data.length ≤ 140737488355328 →
    ((Rok r15.Reader ∧ 0 ≤ (11 : Int) ∧ (11 : Int) ≤ 62) ∧
    (∀ r37, (rnumberS r15 11) = r37 →
    (r37.2.f.Data.length ≤ 140737488355328 →
    ((Rok (⟨r37.2.Reader, (⟨r37.1, r37.2.f.Long, r37.2.f.Fast, r37.2.f.Remote, r37.2.f.Size, r37.2.f.Data⟩ : Frame)⟩ : FReader).Reader ∧ (1 : Int) ≤ 9223372036854775807) ∧
    (∀ r70, (rtakeFS (⟨r37.2.Reader, (⟨r37.1, r37.2.f.Long, r37.2.f.Fast, r37.2.f.Remote, r37.2.f.Size, r37.2.f.Data⟩ : Frame)⟩ : FReader) 1) = r70 →
    (r70.2.f.Data.length ≤ 140737488355328 →
    ((Rok r70.2.Reader ∧ (1 : Int) ≤ 9223372036854775807) ∧
    (∀ r100, (rtakeFS r70.2 1) = r100 →
    (r100.2.f.Data.length ≤ 140737488355328 →
    (∃ inv148 : FReader → Prop,
    (((r100.1 == ([49] : List UInt8)) = true →
      (∃ inv379 : FReader → Prop,
      (((!(r70.1 == ([49] : List UInt8))) = true →
        (∀ r690, (rfailS (⟨r100.2.Reader, (⟨r100.2.f.ID, r100.1 == ([49] : List UInt8), r100.2.f.Fast, r70.1 == ([49] : List UInt8), r100.2.f.Size, r100.2.f.Data⟩ : Frame)⟩ : FReader) 4) = r690 →
        (r690.f.Data.length ≤ 140737488355328 →
        (inv379 r690)))) ∧
      ((!(r70.1 == ([49] : List UInt8))) = false →
        (inv379 (⟨r100.2.Reader, (⟨r100.2.f.ID, r100.1 == ([49] : List UInt8), r100.2.f.Fast, r70.1 == ([49] : List UInt8), r100.2.f.Size, r100.2.f.Data⟩ : Frame)⟩ : FReader)))) ∧
      (∀ (yb1v : FReader), inv379 yb1v →
        ((Rok yb1v.Reader ∧ 0 ≤ (18 : Int) ∧ (18 : Int) ≤ 62) ∧
        ((Rok (⟨(rnumberS yb1v 18).2.Reader, (⟨bOr .i64 (bShl .i64 yb1v.f.ID 18) (rnumberS yb1v 18).1, yb1v.f.Long, yb1v.f.Fast, yb1v.f.Remote, yb1v.f.Size, yb1v.f.Data⟩ : Frame)⟩ : FReader).Reader ∧ (1 : Int) ≤ 9223372036854775807) ∧
        (∀ r658, (rtakeFS (⟨(rnumberS yb1v 18).2.Reader, (⟨bOr .i64 (bShl .i64 yb1v.f.ID 18) (rnumberS yb1v 18).1, yb1v.f.Long, yb1v.f.Fast, yb1v.f.Remote, yb1v.f.Size, yb1v.f.Data⟩ : Frame)⟩ : FReader) 1) = r658 →
        (r658.2.f.Data.length ≤ 140737488355328 →
        (inv148 (⟨r658.2.Reader, (⟨r658.2.f.ID, r658.2.f.Long, r658.2.f.Fast, r658.1 == ([49] : List UInt8), r658.2.f.Size, r658.2.f.Data⟩ : Frame)⟩ : FReader))))))))) ∧
    ((r100.1 == ([49] : List UInt8)) = false →
      (inv148 (⟨r100.2.Reader, (⟨r100.2.f.ID, r100.1 == ([49] : List UInt8), r100.2.f.Fast, r70.1 == ([49] : List UInt8), r100.2.f.Size, r100.2.f.Data⟩ : Frame)⟩ : FReader)))) ∧
    (∀ (yb1 : FReader), inv148 yb1 →
      ((Rok yb1.Reader ∧ (1 : Int) ≤ 9223372036854775807) ∧
      (∀ r181, (rtakeFS yb1 1) = r181 →
      (r181.2.f.Data.length ≤ 140737488355328 →
      (((r181.1 == ([49] : List UInt8)) = true →
        (∃ inv230 : FReader → Prop,
        ((r181.2.f.Remote = true →
          (∀ r321, (rfailS (⟨r181.2.Reader, (⟨r181.2.f.ID, r181.2.f.Long, r181.1 == ([49] : List UInt8), r181.2.f.Remote, r181.2.f.Size, r181.2.f.Data⟩ : Frame)⟩ : FReader) 4) = r321 →
          (r321.f.Data.length ≤ 140737488355328 →
          (inv230 r321)))) ∧
        (r181.2.f.Remote = false →
          (inv230 (⟨r181.2.Reader, (⟨r181.2.f.ID, r181.2.f.Long, r181.1 == ([49] : List UInt8), r181.2.f.Remote, r181.2.f.Size, r181.2.f.Data⟩ : Frame)⟩ : FReader)))) ∧
        (∀ (yb1v : FReader), inv230 yb1v →
          ((Rok yb1v.Reader) ∧
          (∀ r260, (rwantS yb1v ([48] : List UInt8)) = r260 →
          (r260.f.Data.length ≤ 140737488355328 →
          ((Rok r260.Reader) ∧
          (∀ r280, (rwantS r260 ([49] : List UInt8)) = r280 →
          (r280.f.Data.length ≤ 140737488355328 →
          ((Rok r280.Reader) ∧
          (∀ r300, (rwantS r280 ([48] : List UInt8)) = r300 →
          (r300.f.Data.length ≤ 140737488355328 →
          (K r300))))))))))))) ∧
      ((r181.1 == ([49] : List UInt8)) = false →
        ((r181.2.f.Long = true →
          ((Rok (⟨r181.2.Reader, (⟨r181.2.f.ID, r181.2.f.Long, r181.1 == ([49] : List UInt8), r181.2.f.Remote, r181.2.f.Size, r181.2.f.Data⟩ : Frame)⟩ : FReader).Reader) ∧
          (∀ r358, (rwantS (⟨r181.2.Reader, (⟨r181.2.f.ID, r181.2.f.Long, r181.1 == ([49] : List UInt8), r181.2.f.Remote, r181.2.f.Size, r181.2.f.Data⟩ : Frame)⟩ : FReader) ([48] : List UInt8)) = r358 →
          (r358.f.Data.length ≤ 140737488355328 →
          (K r358))))) ∧
        (r181.2.f.Long = false →
          (K (⟨r181.2.Reader, (⟨r181.2.f.ID, r181.2.f.Long, r181.1 == ([49] : List UInt8), r181.2.f.Remote, r181.2.f.Size, r181.2.f.Data⟩ : Frame)⟩ : FReader))))))))))))))))))))))))

def fBits_vc (u0 : Frame) (K : ((List UInt8) × Int) → Prop) : Prop :=
  (u0.Data.length ≤ 140737488355328 →
    ((((fcheckfr u0) != 0) = true →
      (K ([], (fcheckfr u0)))) ∧
    (((fcheckfr u0) != 0) = false →
      ((fheadpre u0) ∧
      (((!u0.Fast) = true →
        ((((fheadS u0).length : Int) + ((csumS 0 (fheadS u0)).1.length : Int) ≤ 9223372036854775807) ∧
        ((((sputS ((fheadS u0) ++ (csumS 0 (fheadS u0)).1)).1.length : Int) + (([49, 49, 49, 49, 49, 49, 49, 49, 49, 49] : List UInt8).length : Int) ≤ 9223372036854775807) ∧
        (K ((sputS ((fheadS u0) ++ (csumS 0 (fheadS u0)).1)).1 ++ ([49, 49, 49, 49, 49, 49, 49, 49, 49, 49] : List UInt8), 0))))) ∧
      ((!u0.Fast) = false →
        ((0 ≤ (w64 (((sputS (fheadS u0)).1.length : Int) - ((fheadS u0).length : Int)))) ∧
        ((((sputS (fheadS u0)).1.length : Int) + ((fcountS (w64 (((sputS (fheadS u0)).1.length : Int) - ((fheadS u0).length : Int)))).length : Int) ≤ 9223372036854775807) ∧
        ((((fcountS (w64 (((sputS (fheadS u0)).1.length : Int) - ((fheadS u0).length : Int)))).length : Int) + ((csumS (fkind u0) ((sputS (fheadS u0)).1 ++ (fcountS (w64 (((sputS (fheadS u0)).1.length : Int) - ((fheadS u0).length : Int)))))).1.length : Int) ≤ 9223372036854775807) ∧
        ((0 ≤ w64 (((sputS (fheadS u0)).1.length : Int) - 1) ∧ w64 (((sputS (fheadS u0)).1.length : Int) - 1) < ((sputS (fheadS u0)).1.length : Int)) ∧
        (∀ c195, (sputS (fheadS u0)).1[(w64 (((sputS (fheadS u0)).1.length : Int) - 1)).toNat]? = some c195 →
        ((((sputS (fheadS u0)).1.length : Int) + ((sfixedS ((fcountS (w64 (((sputS (fheadS u0)).1.length : Int) - ((fheadS u0).length : Int)))) ++ (csumS (fkind u0) ((sputS (fheadS u0)).1 ++ (fcountS (w64 (((sputS (fheadS u0)).1.length : Int) - ((fheadS u0).length : Int)))))).1) (c195.toNat : Int)).1.length : Int) ≤ 9223372036854775807) ∧
        (((((sputS (fheadS u0)).1 ++ (sfixedS ((fcountS (w64 (((sputS (fheadS u0)).1.length : Int) - ((fheadS u0).length : Int)))) ++ (csumS (fkind u0) ((sputS (fheadS u0)).1 ++ (fcountS (w64 (((sputS (fheadS u0)).1.length : Int) - ((fheadS u0).length : Int)))))).1) (c195.toNat : Int)).1).length : Int) + (([49, 49, 49, 49, 49, 49, 49, 49, 49, 49] : List UInt8).length : Int) ≤ 9223372036854775807) ∧
        (K (((sputS (fheadS u0)).1 ++ (sfixedS ((fcountS (w64 (((sputS (fheadS u0)).1.length : Int) - ((fheadS u0).length : Int)))) ++ (csumS (fkind u0) ((sputS (fheadS u0)).1 ++ (fcountS (w64 (((sputS (fheadS u0)).1.length : Int) - ((fheadS u0).length : Int)))))).1) (c195.toNat : Int)).1) ++ ([49, 49, 49, 49, 49, 49, 49, 49, 49, 49] : List UInt8), 0)))))))))))))))

def flongest_vc (u0 : Bool) (u1 : Bool) (u2 : Int) (K : (Int × Int) → Prop) : Prop :=
  ((((decide (u2 < 0)) || (decide (u2 > 64))) = true →
      (K (0, 2))) ∧
    (((decide (u2 < 0)) || (decide (u2 > 64))) = false →
      ((0 ≤ u2 ∧ u2 ≤ u2 ∧ u2 * 1 ≤ 140737488355328) ∧
      ((((fcheckfr (⟨0, u0, u1, false, 0, (List.replicate u2.toNat (0 : Int))⟩ : Frame)) != 0) = true →
        (K (0, (fcheckfr (⟨0, u0, u1, false, 0, (List.replicate u2.toNat (0 : Int))⟩ : Frame))))) ∧
      (((fcheckfr (⟨0, u0, u1, false, 0, (List.replicate u2.toNat (0 : Int))⟩ : Frame)) != 0) = false →
        ((fheadpre (⟨0, u0, u1, false, 0, (List.replicate u2.toNat (0 : Int))⟩ : Frame)) ∧
        (((!u1) = true →
          (K (w64 ((smost (w64 (((fheadS (⟨0, u0, u1, false, 0, (List.replicate u2.toNat (0 : Int))⟩ : Frame)).length : Int) + 15))).1 + 10), 0))) ∧
        ((!u1) = false →
          (K (w64 ((w64 ((smost ((fheadS (⟨0, u0, u1, false, 0, (List.replicate u2.toNat (0 : Int))⟩ : Frame)).length : Int)).1 + (w64 ((w64 (4 + (csize (fkind (⟨0, u0, u1, false, 0, (List.replicate u2.toNat (0 : Int))⟩ : Frame))).1)) + (w64 ((w64 ((w64 (4 + (csize (fkind (⟨0, u0, u1, false, 0, (List.replicate u2.toNat (0 : Int))⟩ : Frame))).1)) + 3)).tdiv 4)))))) + 10), 0))))))))))

/-! Pure proofs: no program in sight. -/
theorem take_put (b : List UInt8) : ∀ (c : Counter) (r : List UInt8), ∃ c', takeF c (putF c b ++ r) b.length = .ok (b, r, c') := by
  induction b with
  | nil => intro c r; exact ⟨c, by simp [putF, takeF]⟩
  | cons x b ih =>
    intro c r
    rw [putF]
    by_cases h5 : (nx c x).n = 5
    · obtain ⟨c', hc⟩ := ih (nx (nx c x) (flip x)) r
      rw [if_pos h5]
      refine ⟨c', ?_⟩
      rw [List.cons_append, List.cons_append, List.length_cons, takeF_cons, if_pos h5]
      dsimp only
      rw [if_pos rfl, hc]
      rfl
    · obtain ⟨c', hc⟩ := ih (nx c x) r
      rw [if_neg h5]
      refine ⟨c', ?_⟩
      rw [List.cons_append, List.length_cons, takeF_cons, if_neg h5, hc]
      rfl
theorem put_row (b : List UInt8) (h : isRow b = true) : ∀ c, isRow (putF c b) = true := by
  induction b with
  | nil => exact fun _ => rfl
  | cons x b ih =>
    intro c
    rw [isRow_cons, Bool.and_eq_true] at h
    rw [putF]
    split
    · rw [isRow_cons, isRow_cons, h.1, isBit_flip, ih h.2]; rfl
    · rw [isRow_cons, h.1, ih h.2]; rfl
theorem put_best (b : List UInt8) : ∀ c : Counter, 0 ≤ c.n ∧ c.n ≤ 4 → bestF c (putF c b) ≤ 5 := by
  induction b with
  | nil => intro c h; simp [putF, bestF]
  | cons x b ih =>
    intro c h
    have hb := nx_bound c x 4 h
    rw [putF]
    split
    · rename_i h5
      rw [bestF, bestF]
      have e := nx_flip c x
      have := ih (nx (nx c x) (flip x)) (by rw [e]; exact ⟨by show (0 : Int) ≤ 1; decide, by show (1 : Int) ≤ 4; decide⟩)
      have e1 : (nx (nx c x) (flip x)).n = 1 := by rw [e]
      omega
    · rename_i h5
      rw [bestF]
      have := ih (nx c x) (by omega)
      omega
theorem put_length (b : List UInt8) : ∀ c : Counter, 1 ≤ c.n ∧ c.n ≤ 4 → ((putF c b).length : Int) ≤ b.length + (c.n - 1 + b.length) / 4 ∧ b.length ≤ (putF c b).length := by
  induction b with
  | nil => intro c h; simp [putF]; omega
  | cons x b ih =>
    intro c h
    have hb := nx_bound c x 4 ⟨by omega, by omega⟩
    have hn := nx_n c x
    rw [putF]
    split
    · rename_i h5
      have e := nx_flip c x
      have := ih (nx (nx c x) (flip x)) (by rw [e]; exact ⟨by show (1 : Int) ≤ 1; decide, by show (1 : Int) ≤ 4; decide⟩)
      have e1 : (nx (nx c x) (flip x)).n = 1 := by rw [e]
      rw [e1] at this
      have hc4 : c.n = 4 := by
        rw [h5] at hn
        split at hn <;> omega
      simp only [List.length_cons]
      omega
    · rename_i h5
      have := ih (nx c x) (by omega)
      have hle : (nx c x).n ≤ c.n + 1 := by rw [hn]; split <;> omega
      simp only [List.length_cons]
      omega
theorem put_length0 (b : List UInt8) (h : isRow b = true) : ((putF ⟨0, 0⟩ b).length : Int) ≤ (smost b.length).1 ∨ 1000 < b.length := by
  rcases Nat.lt_or_ge 1000 b.length with h1 | h1
  · exact .inr h1
  · left
    cases b with
    | nil => decide
    | cons x b =>
      rw [isRow_cons, Bool.and_eq_true] at h
      rw [List.length_cons] at h1
      have e0 : nx ⟨0, 0⟩ x = ⟨(x.toNat : Int), 1⟩ := by rcases isBit_or h.1 with rfl | rfl <;> rfl
      have := put_length b (nx ⟨0, 0⟩ x) (by rw [e0]; exact ⟨by show (1 : Int) ≤ 1; decide, by show (1 : Int) ≤ 4; decide⟩)
      have e1 : (nx ⟨0, 0⟩ x).n = 1 := by rw [e0]
      rw [e1] at this
      rw [putF, if_neg (by rw [e1]; decide)]
      have hs : (smost ((x :: b).length : Nat)).1 = ((b.length + 1 : Nat) : Int) + (b.length : Int) / 4 := by
        unfold smost
        have g1 : ((decide ((((x :: b).length : Nat) : Int) < 0)) || (decide ((((x :: b).length : Nat) : Int) > 1000))) = false := by simp; omega
        have g2 : ((((x :: b).length : Nat) : Int) == 0) = false := by simp; omega
        rw [g1, g2]
        show w64 ((((x :: b).length : Nat) : Int) + w64 ((w64 ((((x :: b).length : Nat) : Int) - 1)).tdiv 4)) = _
        rw [List.length_cons]
        have e3 : w64 (((b.length + 1 : Nat) : Int) - 1) = (b.length : Int) := by rw [w64_eq _ (by omega)]; omega
        rw [e3, Int.tdiv_eq_ediv_of_nonneg (by omega), w64_eq ((b.length : Int) / 4) (by omega), w64_eq _ (by omega)]
      rw [hs, List.length_cons]
      omega
theorem sputS_ok {b : List UInt8} (h : (sputS b).2 = 0) : bcheckS b = 0 ∧ b.length ≤ 1000 ∧ isRow b = true ∧ sputS b = (putF ⟨0, 0⟩ b, 0) := by
  unfold sputS at h ⊢
  by_cases h1 : bcheckS b ≠ 0
  · rw [if_pos h1] at h; exact absurd h h1
  · rw [if_neg h1]
    have h2 : bcheckS b = 0 := by simpa using h1
    exact ⟨h2, ((bcheck_zero b).1 h2).1, ((bcheck_zero b).1 h2).2, rfl⟩
theorem put_len2 (b : List UInt8) : ∀ c, (putF c b).length ≤ 2 * b.length ∧ b.length ≤ (putF c b).length := by
  induction b with
  | nil => intro c; simp [putF]
  | cons x b ih =>
    intro c
    rw [putF]
    split
    · have := ih (nx (nx c x) (flip x)); simp only [List.length_cons]; omega
    · have := ih (nx c x); simp only [List.length_cons]; omega
theorem smost_eq (n : Int) (h : 0 ≤ n ∧ n ≤ 1000) : smost n = (w64 (n + w64 ((max (w64 (n - 1)) 0).tdiv 4)), 0) := by
  unfold smost
  have g1 : ((decide (n < 0)) || (decide (n > 1000))) = false := by simp; omega
  rw [g1]
  by_cases h0 : n = 0
  · subst h0; rfl
  · have g2 : (n == 0) = false := by simpa using h0
    rw [g2]
    show (w64 (n + w64 ((w64 (n - 1)).tdiv 4)), (0 : Int)) = _
    rw [w64_eq (n - 1) (by omega)]
    have : max (n - 1) 0 = n - 1 := by omega
    rw [this]
abbrev lframe (lo fa : Bool) (n : Int) : Frame := ⟨0, lo, fa, false, 0, List.replicate n.toNat (0 : Int)⟩
def flongestS (lo fa : Bool) (n : Int) : Int × Int :=
  if n < 0 ∨ 64 < n then (0, 2) else if fcheckfr (lframe lo fa n) ≠ 0 then (0, fcheckfr (lframe lo fa n)) else
  if fa = false then (w64 ((smost (w64 (((fheadS (lframe lo fa n)).length : Int) + 15))).1 + 10), 0)
  else (w64 (w64 ((smost ((fheadS (lframe lo fa n)).length : Int)).1 + w64 (w64 (4 + (csize (fkind (lframe lo fa n))).1) + w64 ((w64 (w64 (4 + (csize (fkind (lframe lo fa n))).1) + 3)).tdiv 4))) + 10), 0)
theorem flongest_ok (lo fa : Bool) (n : Int) : flongest_vc lo fa n (fun r => r = flongestS lo fa n) := by
  refine ⟨fun h => ?_, fun h => ⟨?_, fun h1 => ?_, fun h1 => ⟨?_, fun h2 => ?_, fun h2 => ?_⟩⟩⟩
  · unfold flongestS
    rw [if_pos (by simpa using h)]
  · simp at h; omega
  all_goals
    have h : ¬ (n < 0 ∨ 64 < n) := by simp at h; omega
  · have h1 : fcheckfr (lframe lo fa n) ≠ 0 := by simpa using h1
    unfold flongestS
    rw [if_neg h, if_pos h1]
  · have h1 : fcheckfr (lframe lo fa n) = 0 := by simpa using h1
    obtain ⟨c1, c2, c3, c4, c5, c6, c7, c8, c9, c10⟩ := fcheckfr_zero h1
    refine ⟨c1, c2, c5, c6, c8, fun x hx => ?_, fun _ => c10⟩
    have : x = 0 := List.eq_of_mem_replicate hx
    omega
  · have h1' : fcheckfr (lframe lo fa n) = 0 := by simpa using h1
    have h1 : ¬ fcheckfr (lframe lo fa n) ≠ 0 := fun h => h h1'
    unfold flongestS
    rw [if_neg h, if_neg h1, if_pos (by simpa using h2)]
  · have h1' : fcheckfr (lframe lo fa n) = 0 := by simpa using h1
    have h1 : ¬ fcheckfr (lframe lo fa n) ≠ 0 := fun h => h h1'
    unfold flongestS
    rw [if_neg h, if_neg h1, if_neg (by simpa using h2)]
def nam1 (r : FReader) : FReader := ⟨(rnumberS (rwantS r [48]) 11).2.Reader, ⟨(rnumberS (rwantS r [48]) 11).1, (rnumberS (rwantS r [48]) 11).2.f.Long, (rnumberS (rwantS r [48]) 11).2.f.Fast, (rnumberS (rwantS r [48]) 11).2.f.Remote, (rnumberS (rwantS r [48]) 11).2.f.Size, (rnumberS (rwantS r [48]) 11).2.f.Data⟩⟩
def nam2 (c d : List UInt8 × FReader) : FReader := ⟨d.2.Reader, ⟨d.2.f.ID, d.1 == [49], d.2.f.Fast, c.1 == [49], d.2.f.Size, d.2.f.Data⟩⟩
def nam3 (c : Bool) (r : FReader) : FReader := if c = true then r else rfailS r 4
def nam4 (r : FReader) : FReader := ⟨(rnumberS r 18).2.Reader, ⟨bOr .i64 (bShl .i64 r.f.ID 18) (rnumberS r 18).1, r.f.Long, r.f.Fast, r.f.Remote, r.f.Size, r.f.Data⟩⟩
def nam5 (g : List UInt8 × FReader) : FReader := ⟨g.2.Reader, ⟨g.2.f.ID, g.2.f.Long, g.2.f.Fast, g.1 == [49], g.2.f.Size, g.2.f.Data⟩⟩
def nam6 (r : FReader) : FReader :=
  if ((rtakeFS (rtakeFS (nam1 r) 1).2 1).1 == [49]) = true then
    nam5 (rtakeFS (nam4 (nam3 ((rtakeFS (nam1 r) 1).1 == [49]) (nam2 (rtakeFS (nam1 r) 1) (rtakeFS (rtakeFS (nam1 r) 1).2 1)))) 1)
  else nam2 (rtakeFS (nam1 r) 1) (rtakeFS (rtakeFS (nam1 r) 1).2 1)
def nam7 (h : List UInt8 × FReader) : FReader := ⟨h.2.Reader, ⟨h.2.f.ID, h.2.f.Long, h.1 == [49], h.2.f.Remote, h.2.f.Size, h.2.f.Data⟩⟩
def nam8 (h : List UInt8 × FReader) : FReader :=
  if (h.1 == [49]) = true then rwantS (rwantS (rwantS (if h.2.f.Remote = true then rfailS (nam7 h) 4 else nam7 h) [48]) [49]) [48]
  else if h.2.f.Long = true then rwantS (nam7 h) [48] else nam7 h
def rnamesS (r : FReader) : FReader := nam8 (rtakeFS (nam6 r) 1)
theorem rtakeFS_Rok {r : FReader} {n : Int} (h : Rok r.Reader) : Rok (rtakeFS r n).2.Reader := (rtakeS_Rok n h).1
theorem nam1_Rok {r : FReader} (h : Rok r.Reader) : Rok (nam1 r).Reader := rnumberS_Rok (rwantS_Rok h)
theorem nam3_Rok {r : FReader} {c : Bool} (h : Rok r.Reader) : Rok (nam3 c r).Reader := by unfold nam3; split; exact h; exact rfailS_Rok h
theorem nam4_Rok {r : FReader} (h : Rok r.Reader) : Rok (nam4 r).Reader := rnumberS_Rok h
theorem nam6_Rok {r : FReader} (h : Rok r.Reader) : Rok (nam6 r).Reader := by
  have h1 : Rok (rtakeFS (rtakeFS (nam1 r) 1).2 1).2.Reader := rtakeFS_Rok (rtakeFS_Rok (nam1_Rok h))
  unfold nam6
  split
  · exact rtakeFS_Rok (nam4_Rok (nam3_Rok h1))
  · exact h1
theorem nam8_Rok {h : List UInt8 × FReader} (hR : Rok h.2.Reader) : Rok (nam8 h).Reader := by
  unfold nam8
  split
  · refine rwantS_Rok (rwantS_Rok (rwantS_Rok ?_))
    split
    · exact rfailS_Rok hR
    · exact hR
  · split
    · exact rwantS_Rok hR
    · exact hR
theorem rnamesS_Rok {r : FReader} (h : Rok r.Reader) : Rok (rnamesS r).Reader := nam8_Rok (rtakeFS_Rok (nam6_Rok h))
theorem rnames_ok (r : FReader) (h : Rok r.Reader) : rnames_vc r (fun q => q = rnamesS r) := by
  intro _
  refine ⟨h, ?_⟩
  rintro a ha _
  have ha' : a = rwantS r [48] := ha.symm
  refine ⟨by rw [ha']; exact ⟨rwantS_Rok h, by decide, by decide⟩, ?_⟩
  rintro b hb _
  have hn1 : nam1 r = ⟨b.2.Reader, ⟨b.1, b.2.f.Long, b.2.f.Fast, b.2.f.Remote, b.2.f.Size, b.2.f.Data⟩⟩ := by unfold nam1; rw [← ha', hb]
  rw [← hn1]
  refine ⟨⟨nam1_Rok h, by decide⟩, ?_⟩
  rintro c rfl _
  refine ⟨⟨rtakeFS_Rok (nam1_Rok h), by decide⟩, ?_⟩
  rintro d rfl _
  have hd : Rok (rtakeFS (rtakeFS (nam1 r) 1).2 1).2.Reader := rtakeFS_Rok (rtakeFS_Rok (nam1_Rok h))
  refine ⟨fun y => y = nam6 r, ⟨fun h1 => ⟨fun y => y = nam3 ((rtakeFS (nam1 r) 1).1 == [49]) (nam2 (rtakeFS (nam1 r) 1) (rtakeFS (rtakeFS (nam1 r) 1).2 1)), ⟨fun h2 => ?_, fun h2 => ?_⟩, ?_⟩, fun h1 => ?_⟩, ?_⟩
  · rintro y rfl _
    have h2 : ((rtakeFS (nam1 r) 1).1 == [49]) = false := by simpa using h2
    unfold nam3
    rw [if_neg (by rw [h2]; simp)]
    rfl
  · have h2 : ((rtakeFS (nam1 r) 1).1 == [49]) = true := by simpa using h2
    unfold nam3
    rw [if_pos h2]
    rfl
  · rintro y rfl
    have h3 : Rok (nam3 ((rtakeFS (nam1 r) 1).1 == [49]) (nam2 (rtakeFS (nam1 r) 1) (rtakeFS (rtakeFS (nam1 r) 1).2 1))).Reader := nam3_Rok hd
    generalize hy : nam3 ((rtakeFS (nam1 r) 1).1 == [49]) (nam2 (rtakeFS (nam1 r) 1) (rtakeFS (rtakeFS (nam1 r) 1).2 1)) = y at *
    refine ⟨⟨h3, by decide, by decide⟩, ⟨nam4_Rok h3, by decide⟩, ?_⟩
    rintro g hg _
    have hg' : g = rtakeFS (nam4 y) 1 := hg.symm
    unfold nam6
    rw [if_pos h1, hy, ← hg']
    rfl
  · unfold nam6
    rw [if_neg (by rw [h1]; simp)]
    rfl
  · rintro y rfl
    have h6 := nam6_Rok h
    refine ⟨⟨h6, by decide⟩, ?_⟩
    rintro q hq _
    have hqR : Rok q.2.Reader := by rw [← hq]; exact rtakeFS_Rok h6
    have hS : rnamesS r = nam8 q := by unfold rnamesS; rw [hq]
    rw [hS]
    refine ⟨fun h1 => ⟨fun y => y = if q.2.f.Remote = true then rfailS (nam7 q) 4 else nam7 q, ⟨fun h2 => ?_, fun h2 => ?_⟩, ?_⟩, fun h1 => ⟨fun h2 => ⟨hqR, ?_⟩, fun h2 => ?_⟩⟩
    · rintro y rfl _
      rw [if_pos h2]
      unfold nam7
      rw [h1]
    · rw [if_neg (by rw [h2]; simp)]
      unfold nam7
      rw [h1]
    · rintro y hy
      have hyR : Rok y.Reader := by
        rw [hy]
        split
        · exact rfailS_Rok hqR
        · exact hqR
      refine ⟨hyR, ?_⟩
      rintro z rfl _
      refine ⟨rwantS_Rok hyR, ?_⟩
      rintro z rfl _
      refine ⟨rwantS_Rok (rwantS_Rok hyR), ?_⟩
      rintro z rfl _
      unfold nam8
      rw [if_pos h1, ← hy]
    · rintro y rfl _
      unfold nam8
      rw [if_neg (by rw [h1]; simp), if_pos h2]
      unfold nam7
      rw [h1]
    · unfold nam8
      rw [if_neg (by rw [h1]; simp), if_neg (by rw [h2]; simp)]
      unfold nam7
      rw [h1]
theorem csumS_bound (i : Int) (b : List UInt8) : (csumS i b).1.length ≤ 21 ∧ isRow (csumS i b).1 = true := by
  unfold csumS
  split
  · exact ⟨by simp, rfl⟩
  · split
    · rename_i h
      have := kind_size (isKind_iff.1 h)
      refine ⟨?_, wr_row _ _⟩
      show (wr _ _).length ≤ 21
      rw [wr_length]
      unfold sizeN
      omega
    · exact ⟨by simp, rfl⟩
theorem cnt4_ok (n : Nat) : (cnt4 n).length = 4 ∧ isRow (cnt4 n) = true := by
  have h : ∀ m : Fin 8, (cnt4 m.val).length = 4 ∧ isRow (cnt4 m.val) = true := by decide
  have e : cnt4 n = cnt4 (n % 8) := by unfold cnt4; rw [Nat.mod_mod]
  rw [e]
  exact h ⟨n % 8, Nat.mod_lt _ (by decide)⟩
theorem fixF_len : ∀ (b : List UInt8) (k : Nat) (a : UInt8), (fixF k a b).length ≤ 2 * b.length := by
  intro b
  induction b with
  | nil => intro k a; simp [fixF]
  | cons c r ih =>
    intro k a
    rw [fixF]
    have := ih (k + 1) c
    split <;> simp <;> omega
def lastB (p : List UInt8) : UInt8 := p.getLastD 48
theorem lastB_at {p : List UInt8} {c : UInt8} (h : p[p.length - 1]? = some c) : lastB p = c := by
  unfold lastB
  rw [List.getLastD_eq_getLast?, List.getLast?_eq_getElem?, h]
  rfl
def fastEnd (p : List UInt8) (hl : Nat) (kind : Int) : List UInt8 := (sfixedS (cnt4 (p.length - hl) ++ (csumS kind (p ++ cnt4 (p.length - hl))).1) ((lastB p).toNat : Int)).1
theorem fastEnd_len (p : List UInt8) (hl : Nat) (kind : Int) : (fastEnd p hl kind).length ≤ 50 := by
  unfold fastEnd sfixedS
  split
  · simp
  · split
    · simp
    · dsimp only
      have h1 := fixF_len (cnt4 (p.length - hl) ++ (csumS kind (p ++ cnt4 (p.length - hl))).1) 0 (UInt8.ofNat ((lastB p).toNat : Int).toNat)
      have h2 := (csumS_bound kind (p ++ cnt4 (p.length - hl))).1
      have h3 := (cnt4_ok (p.length - hl)).1
      rw [List.length_append] at h1
      omega
/-- At a fixed place the same bit again. -/
theorem u8eq (a b : UInt8) : ((a.toNat : Int) == (b.toNat : Int)) = (a == b) := by
  rw [Bool.eq_iff_iff, beq_iff_eq, beq_iff_eq]
  constructor
  · intro h; exact UInt8.toNat_inj.1 (by omega)
  · intro h; rw [h]
theorem fheadS_pos (f : Frame) : 1 ≤ (fheadS f).length := by unfold fheadS; simp
def tail10 : List UInt8 := [49, 49, 49, 49, 49, 49, 49, 49, 49, 49]
def BitsS (f : Frame) : List UInt8 × Int := if fcheckfr f ≠ 0 then ([], fcheckfr f) else
  if f.Fast = false then ((sputS (fheadS f ++ sumR 0 (fheadS f))).1 ++ tail10, 0)
  else (((sputS (fheadS f)).1 ++ fastEnd (sputS (fheadS f)).1 (fheadS f).length (fkind f)) ++ tail10, 0)
theorem fheadS_row (f : Frame) : isRow (fheadS f) = true := by
  unfold fheadS fctl
  simp only [isRow_append, fnameS_row, wr_row, ofb_row, Bool.true_and, Bool.and_true]
  split
  · rfl
  · split <;> rfl
theorem fheadS_len (f : Frame) : (fheadS f).length = 1 + (if f.Long = false then 13 else 32) + (if f.Fast = true then 4 else if f.Long = true then 2 else 1) + 4 + 8 * f.Data.length := by
  unfold fheadS fctl
  simp only [List.length_append, fnameS_len, wr_length, ofb_length, List.length_cons, List.length_nil]
  split <;> (try split) <;> (try split) <;> simp_all
theorem sputS_row {b : List UInt8} (h : isRow b = true) (hl : b.length ≤ 1000) : sputS b = (putF ⟨0, 0⟩ b, 0) := by
  unfold sputS
  rw [if_neg (by rw [(bcheck_zero b).2 ⟨hl, h⟩]; simp)]
theorem csumS_row {i : Int} {b : List UInt8} (h1 : isKind i = true) (h2 : b.length ≤ 1000) (h3 : isRow b = true) : csumS i b = (sumR i b, 0) := by
  unfold csumS
  rw [if_neg (by rw [(bcheck_zero b).2 ⟨h2, h3⟩]; simp), if_pos h1]
theorem okpre {f : Frame} (h : fcheckfr f = 0) (hd : ∀ x ∈ f.Data, 0 ≤ x ∧ x ≤ 255) : fheadpre f := by
  obtain ⟨c1, c2, c3, c4, c5, c6, c7, c8, c9, c10⟩ := fcheckfr_zero h
  exact ⟨c1, c2, c5, c6, c8, hd, fun _ => c10⟩
theorem fBits_ok (f : Frame) (hd : ∀ x ∈ f.Data, 0 ≤ x ∧ x ≤ 255) : fBits_vc f (fun r => r = BitsS f) := by
  intro _
  refine ⟨fun h => ?_, fun h => ?_⟩
  · have h : fcheckfr f ≠ 0 := by simpa using h
    unfold BitsS
    rw [if_pos h]
  · have h0 : fcheckfr f = 0 := by simpa using h
    have hpre := okpre h0 hd
    obtain ⟨c1, c2, c3, c4, c5, c6, c7, c8, c9, c10⟩ := fcheckfr_zero h0
    have hhl := fheadS_len f
    have hl : (fheadS f).length ≤ 553 := by rw [hhl]; split <;> split <;> (try split) <;> omega
    have hrow := fheadS_row f
    have hp2 := put_len2 (fheadS f) ⟨0, 0⟩
    refine ⟨hpre, fun h1 => ?_, fun h1 => ?_⟩
    · have hf : f.Fast = false := by simpa using h1
      have hs : csumS 0 (fheadS f) = (sumR 0 (fheadS f), 0) := csumS_row rfl (by omega) hrow
      have hsl : (sumR 0 (fheadS f)).length = 15 := wr_length _ _
      have hsr : isRow (sumR 0 (fheadS f)) = true := wr_row _ _
      have hpr : sputS (fheadS f ++ sumR 0 (fheadS f)) = (putF ⟨0, 0⟩ (fheadS f ++ sumR 0 (fheadS f)), 0) := sputS_row (by rw [isRow_append, hrow, hsr]; rfl) (by simp; omega)
      have hp3 := put_len2 (fheadS f ++ sumR 0 (fheadS f)) ⟨0, 0⟩
      rw [hs]
      dsimp only
      have hS : BitsS f = ((sputS (fheadS f ++ sumR 0 (fheadS f))).1 ++ tail10, 0) := by unfold BitsS; rw [if_neg (fun hc => hc h0), if_pos hf]
      rw [hS]
      refine ⟨by omega, ?_, rfl⟩
      rw [hpr]
      dsimp only
      simp at hp3 ⊢
      omega
    · have hf : f.Fast = true := by simpa using h1
      have hpr : sputS (fheadS f) = (putF ⟨0, 0⟩ (fheadS f), 0) := sputS_row hrow (by omega)
      have hS : BitsS f = (((sputS (fheadS f)).1 ++ fastEnd (sputS (fheadS f)).1 (fheadS f).length (fkind f)) ++ tail10, 0) := by unfold BitsS; rw [if_neg (fun hc => hc h0), if_neg (by rw [hf]; simp)]
      rw [hS, hpr]
      dsimp only
      have hpos := fheadS_pos f
      generalize fheadS f = h at *
      generalize putF ⟨0, 0⟩ h = p at *
      have ew : w64 ((p.length : Int) - (h.length : Int)) = ((p.length - h.length : Nat) : Int) := by rw [w64_eq _ (by omega)]; omega
      have ew2 : w64 ((p.length : Int) - 1) = ((p.length - 1 : Nat) : Int) := by rw [w64_eq _ (by omega)]; omega
      have ec : fcountS ((p.length - h.length : Nat) : Int) = cnt4 (p.length - h.length) := by unfold fcountS; rw [Int.toNat_natCast]
      rw [ew, ew2, ec]
      have hc4 := (cnt4_ok (p.length - h.length)).1
      have hsb := (csumS_bound (fkind f) (p ++ cnt4 (p.length - h.length))).1
      refine ⟨by omega, by omega, by omega, ⟨by omega, by omega⟩, fun c hc => ?_⟩
      rw [Int.toNat_natCast] at hc
      have hlast := lastB_at hc
      have he : (sfixedS (cnt4 (p.length - h.length) ++ (csumS (fkind f) (p ++ cnt4 (p.length - h.length))).1) (c.toNat : Int)).1 = fastEnd p h.length (fkind f) := by unfold fastEnd; rw [hlast]
      rw [he]
      have hel := fastEnd_len p h.length (fkind f)
      refine ⟨by omega, ?_, rfl⟩
      simp
      omega

end Go.Proofs.YtmbdcehmeiiaoaaGreatDoor
set_option linter.unusedVariables false
set_option linter.unusedSimpArgs false
namespace Go.Proofs.YtmbdcehmeiiaoaaGreatDoor
open Go.Sy Go.RowKit
def rlong_vc (u0 : Bool) (u1 : Bool) (u2 : Int) (K : Int → Prop) : Prop :=
  ((0 ≤ u2 ∧ u2 ≤ u2 ∧ u2 * 1 ≤ 140737488355328) ∧
    ((fcheckfr (⟨0, u0, u1, false, 0, (List.replicate u2.toNat (0 : Int))⟩ : Frame) = 0 ∧ ∀ x ∈ (⟨0, u0, u1, false, 0, (List.replicate u2.toNat (0 : Int))⟩ : Frame).Data, 0 ≤ x ∧ x ≤ 255) ∧
    (((!u1) = true →
      (K (w64 ((rlmost (w64 (((fheadS (⟨0, u0, u1, false, 0, (List.replicate u2.toNat (0 : Int))⟩ : Frame)).length : Int) + 15))) + 10)))) ∧
    ((!u1) = false →
      (((decide (u2 > 16)) = true →
        (K (w64 ((w64 ((w64 ((rlmost ((fheadS (⟨0, u0, u1, false, 0, (List.replicate u2.toNat (0 : Int))⟩ : Frame)).length : Int)) + 25)) + 7)) + 10)))) ∧
      ((decide (u2 > 16)) = false →
        (K (w64 ((w64 ((w64 ((rlmost ((fheadS (⟨0, u0, u1, false, 0, (List.replicate u2.toNat (0 : Int))⟩ : Frame)).length : Int)) + 21)) + 6)) + 10)))))))))

/-! Pure proofs: no program in sight. -/
theorem smost_pos (n : Int) (h : 1 ≤ n ∧ n ≤ 1000) : (smost n).1 = rlmost n := by
  unfold smost rlmost
  have e1 : ((decide (n < 0)) || (decide (n > 1000))) = false := by
    rw [decide_eq_false (by omega), decide_eq_false (by omega)]
    rfl
  have e2 : (n == 0) = false := by rw [beq_eq_false_iff_ne]; omega
  rw [e1, e2]
  rfl
theorem rlmost_bound (n : Int) (h : 1 ≤ n ∧ n ≤ 1000) : 1 ≤ rlmost n ∧ rlmost n ≤ 1250 := by
  unfold rlmost
  rw [w64_eq (n - 1) (by omega), Int.tdiv_eq_ediv_of_nonneg (by omega), w64_eq ((n - 1) / 4) (by omega), w64_eq _ (by omega)]
  omega
def rlongS (lo fa : Bool) (n : Int) : Int := (flongestS lo fa n).1
theorem rlong_ok (lo fa : Bool) (n : Int) (h : 0 ≤ n ∧ n ≤ 64 ∧ fcheckfr (lframe lo fa n) = 0) : rlong_vc lo fa n (fun r => r = rlongS lo fa n) := by
  obtain ⟨n0, n1, hc⟩ := h
  have hz : ∀ x ∈ (lframe lo fa n).Data, 0 ≤ x ∧ x ≤ 255 := fun x hx => by
    have : x = 0 := List.eq_of_mem_replicate hx
    omega
  have hl := fheadS_len (lframe lo fa n)
  obtain ⟨c1, c2, c3, c4, c5, c6, c7, c8, c9, c10⟩ := fcheckfr_zero hc
  have hh : 1 ≤ (fheadS (lframe lo fa n)).length ∧ (fheadS (lframe lo fa n)).length ≤ 900 := by
    rw [hl]
    have : (lframe lo fa n).Data.length ≤ 64 := c8
    constructor
    · omega
    · split <;> split <;> (try split) <;> omega
  have hd : (lframe lo fa n).Data.length = n.toNat := List.length_replicate
  have hS : rlongS lo fa n = if fa = false then w64 ((smost (w64 (((fheadS (lframe lo fa n)).length : Int) + 15))).1 + 10)
      else w64 (w64 ((smost ((fheadS (lframe lo fa n)).length : Int)).1 + w64 (w64 (4 + (csize (fkind (lframe lo fa n))).1) + w64 ((w64 (w64 (4 + (csize (fkind (lframe lo fa n))).1) + 3)).tdiv 4))) + 10) := by
    unfold rlongS flongestS
    rw [if_neg (by omega), if_neg (fun h => h hc)]
    split <;> rfl
  rw [hS]
  have eL : (⟨0, lo, fa, false, 0, List.replicate n.toNat (0 : Int)⟩ : Frame) = lframe lo fa n := rfl
  unfold rlong_vc
  rw [eL]
  have hk : fkind (lframe lo fa n) = bif !fa then 0 else bif decide (((lframe lo fa n).Data.length : Int) ≤ 16) then 1 else 2 := rfl
  rw [hd] at hk
  generalize fheadS (lframe lo fa n) = H at *
  have hb := rlmost_bound (H.length : Int) (by omega)
  refine ⟨by omega, ⟨hc, hz⟩, fun hF => ?_, fun hF => ⟨fun h16 => ?_, fun h16 => ?_⟩⟩
  · have hF : fa = false := by simpa using hF
    rw [if_pos hF, w64_eq ((H.length : Int) + 15) (by omega), smost_pos _ (by omega)]
  all_goals
    have hF : fa = true := by simpa using hF
    rw [if_neg (by rw [hF]; simp), smost_pos _ (by omega)]
    subst hF
  · have h16 := of_decide_eq_true h16
    have e : fkind (lframe lo true n) = 2 := by rw [hk, decide_eq_false (by omega)]; rfl
    have e2 : (csize 2).1 = 21 := rfl
    have e3 : w64 (w64 (4 + 21) + w64 ((w64 (w64 (4 + 21) + 3)).tdiv 4)) = 32 := rfl
    rw [e, e2, e3, w64_eq (rlmost (H.length : Int) + 25) (by omega), w64_eq (rlmost (H.length : Int) + 25 + 7) (by omega), w64_eq (rlmost (H.length : Int) + 32) (by omega)]
    congr 1
    omega
  · have h16 := of_decide_eq_false h16
    have e : fkind (lframe lo true n) = 1 := by rw [hk, decide_eq_true (by omega)]; rfl
    have e2 : (csize 1).1 = 17 := rfl
    have e3 : w64 (w64 (4 + 17) + w64 ((w64 (w64 (4 + 17) + 3)).tdiv 4)) = 27 := rfl
    rw [e, e2, e3, w64_eq (rlmost (H.length : Int) + 21) (by omega), w64_eq (rlmost (H.length : Int) + 21 + 6) (by omega), w64_eq (rlmost (H.length : Int) + 27) (by omega)]
    congr 1
    omega

end Go.Proofs.YtmbdcehmeiiaoaaGreatDoor
set_option linter.unusedVariables false
set_option linter.unusedSimpArgs false
namespace Go.Proofs.YtmbdcehmeiiaoaaGreatDoor
open Go.Sy Go.RowKit
def rother_vc (u0 : Int) (K : Int → Prop) : Prop :=
  (((u0 == 48) = true →
      (K 49)) ∧
    ((u0 == 48) = false →
      (K 48)))
def rother (u0 : Int) : Int :=
  bif u0 == 48 then 49
    else 48
theorem rother_ok (u0 : Int) : rother_vc u0 (fun r => r = rother u0) := ⟨fun h0 => (by simp only [rother, h0, cond_true, cond_false]), fun h0 => (by simp only [rother, h0, cond_true, cond_false])⟩

def rsame_vc (u0 : List UInt8) (K : Bool → Prop) : Prop :=
  ((0 ≤ (1 : Int) ∧ (1 : Int) ≤ (u0.length : Int)) ∧
    (((u0.take (1 : Int).toNat).length = 1) ∧
    (K ((count1S u0 (u0.take (1 : Int).toNat)) == (u0.length : Int)))))

def fixbits_vc (u0 : List UInt8) (u1 : Int) (K : (List UInt8) → Prop) : Prop :=
  (∃ inv11 : Int → (List UInt8) → Int → Prop, ∃ mu11 : Int → (List UInt8) → Int → Nat, inv11 u1 [] 0 ∧
    (∀ (x1 : Int) (x5 : List UInt8) (x6 : Int), inv11 x1 x5 x6 →
    (((decide (x6 < (u0.length : Int))) = true →
      ((0 ≤ x6 ∧ x6 ≤ (min (w64 (x6 + 4)) (u0.length : Int)) ∧ (min (w64 (x6 + 4)) (u0.length : Int)) ≤ (u0.length : Int)) ∧
      ((((bstr ([(rother x1)] : List Int)).length : Int) + (((u0.take (min (w64 (x6 + 4)) (u0.length : Int)).toNat).drop x6.toNat).length : Int) ≤ 9223372036854775807) ∧
      (((x5.length : Int) + (((bstr ([(rother x1)] : List Int)) ++ ((u0.take (min (w64 (x6 + 4)) (u0.length : Int)).toNat).drop x6.toNat)).length : Int) ≤ 9223372036854775807) ∧
      ((0 ≤ w64 (((x5 ++ ((bstr ([(rother x1)] : List Int)) ++ ((u0.take (min (w64 (x6 + 4)) (u0.length : Int)).toNat).drop x6.toNat))).length : Int) - 1) ∧ w64 (((x5 ++ ((bstr ([(rother x1)] : List Int)) ++ ((u0.take (min (w64 (x6 + 4)) (u0.length : Int)).toNat).drop x6.toNat))).length : Int) - 1) < ((x5 ++ ((bstr ([(rother x1)] : List Int)) ++ ((u0.take (min (w64 (x6 + 4)) (u0.length : Int)).toNat).drop x6.toNat))).length : Int)) ∧
      (∀ c106, (x5 ++ ((bstr ([(rother x1)] : List Int)) ++ ((u0.take (min (w64 (x6 + 4)) (u0.length : Int)).toNat).drop x6.toNat)))[(w64 (((x5 ++ ((bstr ([(rother x1)] : List Int)) ++ ((u0.take (min (w64 (x6 + 4)) (u0.length : Int)).toNat).drop x6.toNat))).length : Int) - 1)).toNat]? = some c106 →
      (inv11 (c106.toNat : Int) (x5 ++ ((bstr ([(rother x1)] : List Int)) ++ ((u0.take (min (w64 (x6 + 4)) (u0.length : Int)).toNat).drop x6.toNat))) (w64 (x6 + 4)) ∧ mu11 (c106.toNat : Int) (x5 ++ ((bstr ([(rother x1)] : List Int)) ++ ((u0.take (min (w64 (x6 + 4)) (u0.length : Int)).toNat).drop x6.toNat))) (w64 (x6 + 4)) < mu11 x1 x5 x6))))))) ∧
    ((decide (x6 < (u0.length : Int))) = false →
      (K x5)))))

/-! Pure proofs: no program in sight. -/
theorem rsame_ok (l : List UInt8) (h : 0 < l.length ∧ l.length ≤ 1000) : rsame_vc l (fun r => r = rsameS l) := by
  match l, h with
  | c :: r, h =>
    refine ⟨by omega, rfl, ?_⟩
    show (((((c :: r).count c : Nat) : Int)) == (((c :: r).length : Nat) : Int)) = r.all (· == c)
    rw [List.count_cons_self, List.length_cons]
    have h1 : ((((r.count c + 1 : Nat) : Int) == ((r.length + 1 : Nat) : Int))) = decide (r.count c = r.length) := by
      rw [Bool.eq_iff_iff]
      simp
      omega
    rw [h1, Bool.eq_iff_iff]
    simp only [decide_eq_true_eq, List.all_eq_true, beq_iff_eq]
    rw [List.count_eq_length]
    exact ⟨fun h x hx => (h x hx).symm, fun h x hx => (h x hx).symm⟩
def ct (x : List UInt8) : Counter := x.foldl nx ⟨0, 0⟩
theorem ct_snoc (x : List UInt8) (b : UInt8) : ct (x ++ [b]) = nx (ct x) b := by unfold ct; rw [List.foldl_append]; rfl
/-- The counter tells how the row ends. -/
theorem ct_trail (x : List UInt8) (hx : isRow x = true) (hne : x ≠ []) : ∃ (pre : List UInt8) (q : UInt8) (m : Nat), ct x = ⟨(q.toNat : Int), (m : Int)⟩ ∧ 1 ≤ m ∧ x = pre ++ List.replicate m q ∧ ∀ p, pre.getLast? = some p → p ≠ q := by
  have key : ∀ y : List UInt8, isRow y.reverse = true → y ≠ [] → ∃ (pre : List UInt8) (q : UInt8) (m : Nat), ct y.reverse = ⟨(q.toNat : Int), (m : Int)⟩ ∧ 1 ≤ m ∧ y.reverse = pre ++ List.replicate m q ∧ ∀ p, pre.getLast? = some p → p ≠ q := by
    intro y
    induction y with
    | nil => exact fun _ h => absurd rfl h
    | cons b y ih =>
      intro hr _
      rw [List.reverse_cons] at hr ⊢
      rw [isRow_append, Bool.and_eq_true] at hr
      have hb : isBit b = true := by have := hr.2; simpa [isRow] using this
      rw [ct_snoc]
      by_cases hy : y = []
      · subst hy
        refine ⟨[], b, 1, ?_, by omega, rfl, by simp⟩
        show nx ⟨0, 0⟩ b = _
        rcases isBit_or hb with rfl | rfl <;> rfl
      · obtain ⟨pre, q, m, h1, h2, h3, h4⟩ := ih hr.1 hy
        rw [h1]
        by_cases hq : b = q
        · subst hq
          refine ⟨pre, b, m + 1, ?_, by omega, ?_, h4⟩
          · unfold nx
            rw [if_pos rfl]
            rfl
          · rw [h3, List.append_assoc]
            congr 1
            exact List.replicate_succ'.symm
        · refine ⟨y.reverse, b, 1, ?_, by omega, rfl, fun p hp => ?_⟩
          · unfold nx
            rw [if_neg (fun h => hq (UInt8.toNat_inj.1 (by have h' : (b.toNat : Int) = (q.toNat : Int) := h; omega)))]
            rfl
          · rw [h3] at hp
            have : (pre ++ List.replicate m q).getLast? = some q := by
              rw [List.getLast?_append, List.getLast?_replicate, if_neg (by omega)]
              rfl
            rw [this] at hp
            have := Option.some.inj hp
            subst this
            exact fun h => hq h.symm
  have := key x.reverse (by rw [List.reverse_reverse]; exact hx) (by simpa using hne)
  rw [List.reverse_reverse] at this
  exact this
theorem last_five (x : List UInt8) (hx : isRow x = true) (h5 : 5 ≤ x.length) : ∃ q, x[x.length - 1]? = some q ∧ (ct x).last = (q.toNat : Int) ∧ ((x.drop (x.length - 5)).count q = 5 ↔ 5 ≤ (ct x).n) ∧ (rsameS (x.drop (x.length - 5)) = true ↔ 5 ≤ (ct x).n) := by
  obtain ⟨pre, q, m, h1, h2, h3, h4⟩ := ct_trail x hx (by rintro rfl; simp at h5)
  have hlen : x.length = pre.length + m := by rw [h3]; simp
  refine ⟨q, ?_, by rw [h1], ?_⟩
  · have e : x.length - 1 = pre.length + (m - 1) := by omega
    rw [e, h3, List.getElem?_append_right (by omega)]
    rw [List.getElem?_replicate]
    simp
    omega
  have hl5 : (x.drop (x.length - 5)).length = 5 := by rw [List.length_drop]; omega
  have hall : (∀ y ∈ x.drop (x.length - 5), y = q) ↔ 5 ≤ (ct x).n := by
    rw [h1]
    constructor
    · intro h
      show (5 : Int) ≤ (m : Int)
      rcases Nat.lt_or_ge m 5 with hm | hm
      · exfalso
        have hp : pre ≠ [] := by rintro rfl; simp at hlen; omega
        have hgl := List.getLast?_eq_some_getLast hp
        have hmem : pre.getLast hp ∈ x.drop (x.length - 5) := by
          rw [h3, List.mem_iff_getElem?]
          have e : (pre ++ List.replicate m q).length - 5 ≤ pre.length - 1 := by simp; omega
          refine ⟨pre.length - 1 - ((pre ++ List.replicate m q).length - 5), ?_⟩
          rw [List.getElem?_drop]
          have e2 : (pre ++ List.replicate m q).length - 5 + (pre.length - 1 - ((pre ++ List.replicate m q).length - 5)) = pre.length - 1 := by omega
          have hp0 : 0 < pre.length := List.length_pos_iff.2 hp
          rw [e2, List.getElem?_append_left (by omega), ← List.getLast?_eq_getElem?]
          exact hgl
        exact h4 _ hgl (h _ hmem)
      · omega
    · intro h y hy
      have hm : 5 ≤ m := by have h : (5 : Int) ≤ (m : Int) := h; omega
      have : x.drop (x.length - 5) = List.replicate 5 q := by
        rw [h3, List.drop_append, List.drop_eq_nil_of_le (by simp; omega), List.nil_append, List.drop_replicate]
        congr 1
        simp
        omega
      rw [this] at hy
      exact List.eq_of_mem_replicate hy
  constructor
  · have e : (x.drop (x.length - 5)).count q = 5 ↔ (x.drop (x.length - 5)).count q = (x.drop (x.length - 5)).length := by rw [hl5]
    rw [← hall, e, List.count_eq_length]
    exact ⟨fun h y hy => (h y hy).symm, fun h y hy => (h y hy).symm⟩
  · rw [← hall]
    have hq : q ∈ x.drop (x.length - 5) := by
      rw [h3, List.mem_iff_getElem?]
      refine ⟨4, ?_⟩
      rw [List.getElem?_drop, List.getElem?_append_right (by simp; omega), List.getElem?_replicate]
      simp
      omega
    cases hd : x.drop (x.length - 5) with
    | nil => rw [hd] at hl5; cases hl5
    | cons c r =>
      rw [hd] at hq
      show r.all (· == c) = true ↔ _
      simp only [List.all_eq_true, beq_iff_eq]
      constructor
      · intro h
        have hqc : q = c := by
          rcases List.mem_cons.1 hq with e | e
          · exact e
          · exact h q e
        intro y hy
        rcases List.mem_cons.1 hy with e | e
        · rw [e, hqc]
        · rw [h y e, hqc]
      · intro h y hy
        rw [h y (by simp [hy]), h c (by simp)]
theorem ct_bound (x : List UInt8) : 0 ≤ (ct x).n ∧ (ct x).n ≤ x.length := by
  have key : ∀ (y : List UInt8) (c : Counter) (k : Int), 0 ≤ c.n ∧ c.n ≤ k → 0 ≤ (y.foldl nx c).n ∧ (y.foldl nx c).n ≤ k + y.length := by
    intro y
    induction y with
    | nil => intro c k h; simpa using h
    | cons b y ih =>
      intro c k h
      have hb := nx_bound c b k h
      have := ih (nx c b) (k + 1) ⟨by omega, hb.2⟩
      rw [List.foldl_cons, List.length_cons]
      omega
  have := key x ⟨0, 0⟩ 0 ⟨by decide, by decide⟩
  unfold ct
  omega
theorem rother_flip (c : UInt8) (h : isBit c = true) : rother (c.toNat : Int) = ((flip c).toNat : Int) := by
  rcases isBit_or h with rfl | rfl <;> rfl
theorem bstr_rother (c : UInt8) (h : isBit c = true) : bstr [rother (c.toNat : Int)] = [flip c] := by rw [rother_flip c h, bstr_one]
def fixbitsS (b : List UInt8) (a : Int) : List UInt8 := fixF 0 (UInt8.ofNat a.toNat) b
theorem fixF_none (b : List UInt8) : ∀ (k : Nat) (a : UInt8), 1 ≤ k % 4 → k % 4 + b.length ≤ 4 → fixF k a b = b := by
  induction b with
  | nil => exact fun _ _ _ _ => rfl
  | cons c r ih =>
    intro k a h1 h2
    rw [List.length_cons] at h2
    rw [fixF, if_neg (by omega)]
    cases r with
    | nil => rfl
    | cons d r =>
      rw [ih (k + 1) c (by rw [List.length_cons] at h2; omega) (by rw [List.length_cons] at h2 ⊢; omega)]
theorem fixF_chunk (x y : List UInt8) : ∀ (k : Nat) (a : UInt8), 1 ≤ k % 4 → k % 4 + x.length = 4 → x ≠ [] → fixF k a (x ++ y) = x ++ fixF (k + x.length) (x.getLast?.getD a) y := by
  induction x with
  | nil => exact fun _ _ _ _ h => absurd rfl h
  | cons c r ih =>
    intro k a h1 h2 _
    rw [List.length_cons] at h2
    rw [List.cons_append, fixF, if_neg (by omega)]
    cases r with
    | nil => simp
    | cons d r =>
      rw [ih (k + 1) c (by rw [List.length_cons] at h2; omega) (by rw [List.length_cons] at h2 ⊢; omega) (by simp)]
      have e : k + 1 + (d :: r).length = k + (c :: d :: r).length := by simp only [List.length_cons]; omega
      rw [e, List.getLast?_cons_cons, List.getLast?_eq_some_getLast (by simp : d :: r ≠ [])]
      simp
theorem fixF_shift (b : List UInt8) : ∀ (k j : Nat) (a : UInt8), k % 4 = j % 4 → fixF k a b = fixF j a b := by
  induction b with
  | nil => exact fun _ _ _ _ => rfl
  | cons c r ih =>
    intro k j a h
    rw [fixF, fixF, h, ih (k + 1) (j + 1) c (by omega)]
theorem fixbits_ok (b : List UInt8) (a : Int) (h : isRow b = true ∧ b.length ≤ 1000 ∧ (a = 48 ∨ a = 49)) : fixbits_vc b a (fun r => r = fixbitsS b a) := by
  refine ⟨fun x1 x5 x6 => ∃ (k : Nat) (c : UInt8), x6 = k ∧ x1 = (c.toNat : Int) ∧ isBit c = true ∧ k % 4 = 0 ∧ k ≤ b.length + 3 ∧ x5.length ≤ 2 * k ∧ x5 ++ fixF 0 c (b.drop k) = fixbitsS b a, fun _ _ x6 => b.length + 4 - x6.toNat, ?_, ?_⟩
  · refine ⟨0, UInt8.ofNat a.toNat, rfl, ?_, ?_, rfl, by omega, by simp, rfl⟩ <;> rcases h.2.2 with rfl | rfl <;> rfl
  rintro _ x5 _ ⟨k, c, rfl, rfl, hc, hk4, hkl, hx5, hfix⟩
  refine ⟨fun h1 => ?_, fun h1 => ?_⟩
  · have hk : k < b.length := by simp at h1; omega
    rw [bstr_rother c hc]
    have e4 : w64 ((k : Int) + 4) = ((k + 4 : Nat) : Int) := by rw [w64_eq _ (by omega)]; rfl
    rw [e4]
    have em : min ((k + 4 : Nat) : Int) (b.length : Int) = ((min (k + 4) b.length : Nat) : Int) := by omega
    rw [em, Int.toNat_natCast, Int.toNat_natCast]
    -- the chunk
    obtain ⟨ch, hch⟩ : ∃ ch, ch = (b.take (min (k + 4) b.length)).drop k := ⟨_, rfl⟩
    rw [← hch]
    have hlen : ch.length = min (k + 4) b.length - k := by rw [hch]; simp
    have hrow : isRow ch = true := by rw [hch]; exact isRow_drop (isRow_take h.1 _) _
    have hsplit : b.drop k = ch ++ b.drop (k + 4) := by
      rw [hch]
      by_cases h4 : k + 4 ≤ b.length
      · rw [Nat.min_eq_left h4]
        have : b.drop k = (b.drop k).take 4 ++ (b.drop k).drop 4 := (List.take_append_drop 4 _).symm
        rw [List.drop_drop] at this
        rw [List.drop_take]
        have e : k + 4 - k = 4 := by omega
        rw [e]
        exact this
      · rw [Nat.min_eq_right (by omega), List.take_length, List.drop_eq_nil_of_le (by omega : b.length ≤ k + 4), List.append_nil]
    obtain ⟨d, r, hdr⟩ : ∃ d r, ch = d :: r := by
      cases hcc : ch with
      | nil => rw [hcc] at hlen; simp at hlen; omega
      | cons d r => exact ⟨d, r, rfl⟩
    have hne : x5 ++ ([flip c] ++ ch) ≠ [] := by simp
    have hL : (x5 ++ ([flip c] ++ ch)).length = x5.length + 1 + ch.length := by simp; omega
    have hbl : b.length ≤ 1000 := h.2.1
    refine ⟨by omega, by simp only [List.length_cons, List.length_nil]; omega, by rw [List.length_append, List.length_cons, List.length_nil]; omega, ?_, fun q hq => ?_⟩
    · rw [hL, w64_eq _ (by omega)]
      omega
    · rw [hL] at hq
      have e1 : (w64 (((x5.length + 1 + ch.length : Nat) : Int) - 1)).toNat = x5.length + ch.length := by rw [w64_eq _ (by omega)]; omega
      rw [e1] at hq
      have hlast : ch.getLast? = some q := by
        rw [← List.append_assoc, List.getElem?_append_right (by simp; omega)] at hq
        have e2 : x5.length + ch.length - (x5 ++ [flip c]).length = ch.length - 1 := by simp; omega
        rw [e2] at hq
        rw [List.getLast?_eq_getElem?]
        exact hq
      have hqm : q ∈ ch := List.mem_of_getLast? hlast
      refine ⟨⟨k + 4, q, rfl, rfl, List.all_eq_true.1 hrow q hqm, by omega, by omega, by rw [hL]; omega, ?_⟩, by dsimp only; omega⟩
      have e9 : fixF 0 c (b.drop k) = flip c :: d :: fixF 1 d (r ++ b.drop (k + 4)) := by rw [hsplit, hdr]; rfl
      rw [← hfix, e9, hdr, List.append_assoc]
      congr 1
      simp only [List.cons_append, List.nil_append]
      congr 2
      cases hr : r with
      | nil =>
        rw [hdr, hr] at hlast
        simp at hlast
        subst hlast
        rw [List.nil_append]
        by_cases h4 : k + 4 ≤ b.length
        · rw [hdr, hr] at hlen; simp at hlen; omega
        · rw [List.drop_eq_nil_of_le (by omega : b.length ≤ k + 4)]; rfl
      | cons d2 r2 =>
        rw [← hr]
        have hrl : r ≠ [] := by rw [hr]; simp
        by_cases h4 : k + 4 ≤ b.length
        · have h3 : r.length = 3 := by rw [hdr] at hlen; simp at hlen; omega
          rw [fixF_chunk r _ 1 d (by omega) (by omega) hrl]
          have : r.getLast? = some q := by rw [hdr, List.getLast?_cons] at hlast; rw [hr] at hlast ⊢; simpa [List.getLast?_cons] using hlast
          rw [this, Option.getD_some]
          congr 1
          exact fixF_shift _ _ _ _ (by omega)
        · rw [List.drop_eq_nil_of_le (by omega : b.length ≤ k + 4), List.append_nil]
          rw [fixF_none r 1 d (by omega) (by rw [hdr] at hlen; simp at hlen; omega)]
          simp [fixF]
  · have : b.length ≤ k := by simp at h1; omega
    rw [List.drop_eq_nil_of_le this] at hfix
    simpa [fixF] using hfix

end Go.Proofs.YtmbdcehmeiiaoaaGreatDoor
set_option linter.unusedVariables false
set_option linter.unusedSimpArgs false
namespace Go.Proofs.YtmbdcehmeiiaoaaGreatDoor
open Go.Sy Go.RowKit
def putbits_vc (u0 : List UInt8) (K : (List UInt8) → Prop) : Prop :=
  (∃ inv15 : (List UInt8) → Int → Prop, ∃ mu15 : (List UInt8) → Int → Nat, inv15 [] 0 ∧
    (∀ (x3 : List UInt8) (x8 : Int), inv15 x3 x8 →
    (((decide (x8 < (u0.length : Int))) = true →
      ((0 ≤ x8 ∧ x8 ≤ (w64 (x8 + 1)) ∧ (w64 (x8 + 1)) ≤ (u0.length : Int)) ∧
      (((x3.length : Int) + (((u0.take (w64 (x8 + 1)).toNat).drop x8.toNat).length : Int) ≤ 9223372036854775807) ∧
      (((decide (((x3 ++ ((u0.take (w64 (x8 + 1)).toNat).drop x8.toNat)).length : Int) ≥ 5)) = true →
        ((0 ≤ w64 (((x3 ++ ((u0.take (w64 (x8 + 1)).toNat).drop x8.toNat)).length : Int) - 5) ∧ w64 (((x3 ++ ((u0.take (w64 (x8 + 1)).toNat).drop x8.toNat)).length : Int) - 5) ≤ ((x3 ++ ((u0.take (w64 (x8 + 1)).toNat).drop x8.toNat)).length : Int)) ∧
        ((0 ≤ w64 (((x3 ++ ((u0.take (w64 (x8 + 1)).toNat).drop x8.toNat)).length : Int) - 1) ∧ w64 (((x3 ++ ((u0.take (w64 (x8 + 1)).toNat).drop x8.toNat)).length : Int) - 1) ≤ ((x3 ++ ((u0.take (w64 (x8 + 1)).toNat).drop x8.toNat)).length : Int)) ∧
        ((((x3 ++ ((u0.take (w64 (x8 + 1)).toNat).drop x8.toNat)).drop (w64 (((x3 ++ ((u0.take (w64 (x8 + 1)).toNat).drop x8.toNat)).length : Int) - 1)).toNat).length = 1) ∧
        ((((count1S ((x3 ++ ((u0.take (w64 (x8 + 1)).toNat).drop x8.toNat)).drop (w64 (((x3 ++ ((u0.take (w64 (x8 + 1)).toNat).drop x8.toNat)).length : Int) - 5)).toNat) ((x3 ++ ((u0.take (w64 (x8 + 1)).toNat).drop x8.toNat)).drop (w64 (((x3 ++ ((u0.take (w64 (x8 + 1)).toNat).drop x8.toNat)).length : Int) - 1)).toNat)) == 5) = true →
          ((0 ≤ w64 (((x3 ++ ((u0.take (w64 (x8 + 1)).toNat).drop x8.toNat)).length : Int) - 1) ∧ w64 (((x3 ++ ((u0.take (w64 (x8 + 1)).toNat).drop x8.toNat)).length : Int) - 1) < ((x3 ++ ((u0.take (w64 (x8 + 1)).toNat).drop x8.toNat)).length : Int)) ∧
          (∀ c135, (x3 ++ ((u0.take (w64 (x8 + 1)).toNat).drop x8.toNat))[(w64 (((x3 ++ ((u0.take (w64 (x8 + 1)).toNat).drop x8.toNat)).length : Int) - 1)).toNat]? = some c135 →
          ((((x3 ++ ((u0.take (w64 (x8 + 1)).toNat).drop x8.toNat)).length : Int) + ((bstr ([(rother (c135.toNat : Int))] : List Int)).length : Int) ≤ 9223372036854775807) ∧
          (inv15 ((x3 ++ ((u0.take (w64 (x8 + 1)).toNat).drop x8.toNat)) ++ (bstr ([(rother (c135.toNat : Int))] : List Int))) (w64 (x8 + 1)) ∧ mu15 ((x3 ++ ((u0.take (w64 (x8 + 1)).toNat).drop x8.toNat)) ++ (bstr ([(rother (c135.toNat : Int))] : List Int))) (w64 (x8 + 1)) < mu15 x3 x8))))) ∧
        (((count1S ((x3 ++ ((u0.take (w64 (x8 + 1)).toNat).drop x8.toNat)).drop (w64 (((x3 ++ ((u0.take (w64 (x8 + 1)).toNat).drop x8.toNat)).length : Int) - 5)).toNat) ((x3 ++ ((u0.take (w64 (x8 + 1)).toNat).drop x8.toNat)).drop (w64 (((x3 ++ ((u0.take (w64 (x8 + 1)).toNat).drop x8.toNat)).length : Int) - 1)).toNat)) == 5) = false →
          (inv15 (x3 ++ ((u0.take (w64 (x8 + 1)).toNat).drop x8.toNat)) (w64 (x8 + 1)) ∧ mu15 (x3 ++ ((u0.take (w64 (x8 + 1)).toNat).drop x8.toNat)) (w64 (x8 + 1)) < mu15 x3 x8))))))) ∧
      ((decide (((x3 ++ ((u0.take (w64 (x8 + 1)).toNat).drop x8.toNat)).length : Int) ≥ 5)) = false →
        (inv15 (x3 ++ ((u0.take (w64 (x8 + 1)).toNat).drop x8.toNat)) (w64 (x8 + 1)) ∧ mu15 (x3 ++ ((u0.take (w64 (x8 + 1)).toNat).drop x8.toNat)) (w64 (x8 + 1)) < mu15 x3 x8)))))) ∧
    ((decide (x8 < (u0.length : Int))) = false →
      (K x3)))))

def takebits_vc (u0 : List UInt8) (u1 : Int) (K : ((List UInt8) × Int × Int) → Prop) : Prop :=
  (∃ inv15 : (List UInt8) → Int → Prop, ∃ mu15 : (List UInt8) → Int → Nat, inv15 [] 0 ∧
    (∀ (x7 : List UInt8) (x8 : Int), inv15 x7 x8 →
    (((decide ((x7.length : Int) < u1)) = true →
      (((x8 == (u0.length : Int)) = true →
        (K ([], 0, 7))) ∧
      ((x8 == (u0.length : Int)) = false →
        ((0 ≤ x8 ∧ x8 ≤ (w64 (x8 + 1)) ∧ (w64 (x8 + 1)) ≤ (u0.length : Int)) ∧
        (((x7.length : Int) + (((u0.take (w64 (x8 + 1)).toNat).drop x8.toNat).length : Int) ≤ 9223372036854775807) ∧
        (((decide ((w64 (x8 + 1)) ≥ 5)) = true →
          ((0 ≤ w64 ((w64 (x8 + 1)) - 5) ∧ w64 ((w64 (x8 + 1)) - 5) ≤ (w64 (x8 + 1)) ∧ (w64 (x8 + 1)) ≤ (u0.length : Int)) ∧
          ((0 < ((u0.take (w64 (x8 + 1)).toNat).drop (w64 ((w64 (x8 + 1)) - 5)).toNat).length ∧ ((u0.take (w64 (x8 + 1)).toNat).drop (w64 ((w64 (x8 + 1)) - 5)).toNat).length ≤ 1000) ∧
          (((rsameS ((u0.take (w64 (x8 + 1)).toNat).drop (w64 ((w64 (x8 + 1)) - 5)).toNat)) = true →
            ((((w64 (x8 + 1)) == (u0.length : Int)) = true →
              (K ([], 0, 7))) ∧
            (((w64 (x8 + 1)) == (u0.length : Int)) = false →
              ((0 ≤ w64 (x8 + 1) ∧ w64 (x8 + 1) < (u0.length : Int)) ∧
              (∀ c148, u0[(w64 (x8 + 1)).toNat]? = some c148 →
              ((0 ≤ w64 ((w64 (x8 + 1)) - 1) ∧ w64 ((w64 (x8 + 1)) - 1) < (u0.length : Int)) ∧
              (∀ c165, u0[(w64 ((w64 (x8 + 1)) - 1)).toNat]? = some c165 →
              ((((c148.toNat : Int) == (c165.toNat : Int)) = true →
                (K ([], 0, 5))) ∧
              (((c148.toNat : Int) == (c165.toNat : Int)) = false →
                (inv15 (x7 ++ ((u0.take (w64 (x8 + 1)).toNat).drop x8.toNat)) (w64 ((w64 (x8 + 1)) + 1)) ∧ mu15 (x7 ++ ((u0.take (w64 (x8 + 1)).toNat).drop x8.toNat)) (w64 ((w64 (x8 + 1)) + 1)) < mu15 x7 x8)))))))))) ∧
          ((rsameS ((u0.take (w64 (x8 + 1)).toNat).drop (w64 ((w64 (x8 + 1)) - 5)).toNat)) = false →
            (inv15 (x7 ++ ((u0.take (w64 (x8 + 1)).toNat).drop x8.toNat)) (w64 (x8 + 1)) ∧ mu15 (x7 ++ ((u0.take (w64 (x8 + 1)).toNat).drop x8.toNat)) (w64 (x8 + 1)) < mu15 x7 x8)))))) ∧
        ((decide ((w64 (x8 + 1)) ≥ 5)) = false →
          (inv15 (x7 ++ ((u0.take (w64 (x8 + 1)).toNat).drop x8.toNat)) (w64 (x8 + 1)) ∧ mu15 (x7 ++ ((u0.take (w64 (x8 + 1)).toNat).drop x8.toNat)) (w64 (x8 + 1)) < mu15 x7 x8)))))))) ∧
    ((decide ((x7.length : Int) < u1)) = false →
      (K (x7, x8, 0))))))

/-! Pure proofs: no program in sight. -/
def putbitsS (b : List UInt8) : List UInt8 := putF ⟨0, 0⟩ b
theorem slice_one {α : Type} (b : List α) (k : Nat) (q : α) (hq : b[k]? = some q) : (b.take (k + 1)).drop k = [q] := by
  have hk := (List.getElem?_eq_some_iff.1 hq).1
  rw [take_next b k q hq, List.drop_append, List.drop_eq_nil_of_le (by rw [List.length_take]; omega), List.nil_append]
  have : k - (b.take k).length = 0 := by rw [List.length_take]; omega
  rw [this]
  rfl
theorem putbits_ok (b : List UInt8) (h : isRow b = true ∧ b.length ≤ 1000) : putbits_vc b (fun r => r = putbitsS b) := by
  refine ⟨fun x i => ∃ k : Nat, i = k ∧ k ≤ b.length ∧ x.length ≤ 2 * k ∧ isRow x = true ∧ (ct x).n ≤ 4 ∧ x ++ putF (ct x) (b.drop k) = putbitsS b, fun _ i => b.length - i.toNat, ⟨0, rfl, by omega, by simp, rfl, by decide, rfl⟩, ?_⟩
  rintro x _ ⟨k, rfl, hk, hx, hxr, hn, hp⟩
  have hl : b.length ≤ 1000 := h.2
  refine ⟨fun h1 => ?_, fun h1 => ?_⟩
  · have hkl : k < b.length := by simp at h1; omega
    have hq : b[k]? = some b[k] := List.getElem?_eq_getElem hkl
    generalize b[k] = q at hq
    have hqb : isBit q = true := List.all_eq_true.1 h.1 q (List.mem_of_getElem? hq)
    have ew : w64 ((k : Int) + 1) = ((k + 1 : Nat) : Int) := w64_succ k (by omega)
    rw [ew, Int.toNat_natCast, Int.toNat_natCast, slice_one b k q hq]
    have hy : isRow (x ++ [q]) = true := by rw [isRow_append, hxr]; simpa [isRow] using hqb
    have hyl : (x ++ [q]).length = x.length + 1 := by simp
    have hc := ct_snoc x q
    rw [drop_this b k q hq, putF, ← hc] at hp
    obtain ⟨y, hye⟩ : ∃ y, y = x ++ [q] := ⟨_, rfl⟩
    rw [← hye] at hy hyl hc hp ⊢
    have hcb := ct_bound y
    have hnb := nx_bound (ct x) q 4 ⟨(ct_bound x).1, hn⟩
    rw [← hc] at hnb
    have ylast : y[y.length - 1]? = some q := by rw [hye]; simp
    refine ⟨by omega, by simp only [List.length_cons, List.length_nil]; omega, fun h2 => ?_, fun h2 => ?_⟩
    · have h5 : 5 ≤ y.length := by simp at h2; omega
      obtain ⟨q2, f1, f2, f3, f4⟩ := last_five y hy h5
      obtain rfl : q2 = q := Option.some.inj (f1.symm.trans ylast)
      have e5 : w64 ((y.length : Int) - 5) = ((y.length - 5 : Nat) : Int) := by rw [w64_eq _ (by omega)]; omega
      have e1 : w64 ((y.length : Int) - 1) = ((y.length - 1 : Nat) : Int) := by rw [w64_eq _ (by omega)]; omega
      rw [e5, e1, Int.toNat_natCast, Int.toNat_natCast]
      have hd1 : y.drop (y.length - 1) = [q2] := by rw [drop_this y (y.length - 1) q2 ylast, List.drop_eq_nil_of_le (by omega)]
      rw [hd1]
      have hcount : (count1S (y.drop (y.length - 5)) [q2] == 5) = decide (5 ≤ (ct y).n) := by
        rw [Bool.eq_iff_iff, decide_eq_true_eq, ← f3]
        show ((((y.drop (y.length - 5)).count q2 : Nat) : Int) == 5) = true ↔ _
        rw [beq_iff_eq]
        omega
      rw [hcount]
      refine ⟨by omega, by omega, rfl, fun h3 => ⟨by omega, fun q3 hq3 => ?_⟩, fun h3 => ?_⟩
      · obtain rfl : q3 = q2 := Option.some.inj (hq3.symm.trans ylast)
        have h3 := of_decide_eq_true h3
        have hn5 : (ct y).n = 5 := by omega
        rw [if_pos hn5] at hp
        rw [bstr_rother q3 hqb]
        have hc2 : ct (y ++ [flip q3]) = nx (ct y) (flip q3) := ct_snoc y (flip q3)
        refine ⟨by simp only [List.length_cons, List.length_nil]; omega, ⟨k + 1, rfl, by omega, by simp; omega, ?_, ?_, ?_⟩, by (try dsimp only); omega⟩
        · rw [isRow_append, hy]; simp [isRow, isBit_flip]
        · rw [hc2, hc, nx_flip]; show (1 : Int) ≤ 4; decide
        · rw [hc2, ← hp, hye]
          simp
      · have h3 := of_decide_eq_false h3
        have hn5 : ¬ (ct y).n = 5 := by omega
        rw [if_neg hn5] at hp
        refine ⟨⟨k + 1, rfl, by omega, by omega, hy, by omega, ?_⟩, by (try dsimp only); omega⟩
        rw [← hp, hye]
        simp
    · have h5 : y.length < 5 := by simp at h2; omega
      have hn5 : ¬ (ct y).n = 5 := by omega
      rw [if_neg hn5] at hp
      refine ⟨⟨k + 1, rfl, by omega, by omega, hy, by omega, ?_⟩, by (try dsimp only); omega⟩
      rw [← hp, hye]
      simp
  · have : k = b.length := by simp at h1; omega
    subst this
    rw [List.drop_length] at hp
    simpa [putF] using hp
def takebitsS (b : List UInt8) (n : Int) : List UInt8 × Int × Int := match takeF ⟨0, 0⟩ b n.toNat with
  | .error e => ([], 0, e)
  | .ok q => (q.1, (b.length : Int) - (q.2.1.length : Int), 0)
theorem takebits_ok (b : List UInt8) (n : Int) (h : isRow b = true ∧ b.length ≤ 1000 ∧ 0 ≤ n ∧ n ≤ 1000) : takebits_vc b n (fun r => r = takebitsS b n) := by
  obtain ⟨hr, hl, hn0, hn1⟩ := h
  refine ⟨fun x i => ∃ k : Nat, i = k ∧ k ≤ b.length ∧ x.length ≤ n.toNat ∧ (ct (b.take k)).n ≤ 4 ∧ takeF ⟨0, 0⟩ b n.toNat = (takeF (ct (b.take k)) (b.drop k) (n.toNat - x.length)).map (fun q => (x ++ q.1, q.2)), fun x i => b.length - i.toNat, ⟨0, rfl, by omega, by simp, by rw [List.take_zero]; decide, ?_⟩, ?_⟩
  · show _ = (takeF ⟨0, 0⟩ b n.toNat).map _
    cases takeF ⟨0, 0⟩ b n.toNat <;> rfl
  rintro x _ ⟨k, rfl, hk, hx, hn4, hT⟩
  refine ⟨fun h1 => ?_, fun h1 => ?_⟩
  · have hxn : x.length < n.toNat := by simp at h1; omega
    obtain ⟨m, hm⟩ : ∃ m, n.toNat - x.length = m + 1 := ⟨n.toNat - x.length - 1, by omega⟩
    rw [hm] at hT
    have ht : takebitsS b n = match takeF ⟨0, 0⟩ b n.toNat with | .error e => ([], 0, e) | .ok q => (q.1, (b.length : Int) - (q.2.1.length : Int), 0) := rfl
    refine ⟨fun h2 => ?_, fun h2 => ?_⟩
    · have : k = b.length := by simp at h2; omega
      subst this
      rw [List.drop_length, takeF] at hT
      rw [ht, hT]
      rfl
    · have hkl : k < b.length := by have : ¬ (k : Int) = (b.length : Int) := by simpa using h2
                                    omega
      have hq : b[k]? = some b[k] := List.getElem?_eq_getElem hkl
      generalize b[k] = q at hq
      have hqb : isBit q = true := List.all_eq_true.1 hr q (List.mem_of_getElem? hq)
      have ew : w64 ((k : Int) + 1) = ((k + 1 : Nat) : Int) := w64_succ k (by omega)
      rw [ew, Int.toNat_natCast, Int.toNat_natCast, slice_one b k q hq]
      have hc : ct (b.take (k + 1)) = nx (ct (b.take k)) q := by rw [take_next b k q hq, ct_snoc]
      rw [drop_this b k q hq, takeF_cons, ← hc] at hT
      have hnb := nx_bound (ct (b.take k)) q 4 ⟨(ct_bound _).1, hn4⟩
      rw [← hc] at hnb
      have hcb := ct_bound (b.take (k + 1))
      have htl : (b.take (k + 1)).length = k + 1 := by rw [List.length_take]; omega
      rw [htl] at hcb
      have next : ¬ (ct (b.take (k + 1))).n = 5 → (∃ k2 : Nat, ((k + 1 : Nat) : Int) = k2 ∧ k2 ≤ b.length ∧ (x ++ [q]).length ≤ n.toNat ∧ (ct (b.take k2)).n ≤ 4 ∧ takeF ⟨0, 0⟩ b n.toNat = (takeF (ct (b.take k2)) (b.drop k2) (n.toNat - (x ++ [q]).length)).map (fun z => ((x ++ [q]) ++ z.1, z.2))) := by
        intro h5
        rw [if_neg h5] at hT
        refine ⟨k + 1, rfl, by omega, by simp; omega, by omega, ?_⟩
        have hm2 : n.toNat - (x ++ [q]).length = m := by simp; omega
        rw [hT, hm2]
        cases takeF (ct (b.take (k + 1))) (b.drop (k + 1)) m with
        | error e => rfl
        | ok z => simp [Except.map]
      refine ⟨by omega, by simp only [List.length_cons, List.length_nil]; omega, fun h3 => ?_, fun h3 => ?_⟩
      · have hk5 : 5 ≤ k + 1 := by simp at h3; omega
        have e5 : w64 (((k + 1 : Nat) : Int) - 5) = ((k + 1 - 5 : Nat) : Int) := by rw [w64_eq _ (by omega)]; omega
        have e1 : w64 (((k + 1 : Nat) : Int) - 1) = (k : Int) := by rw [w64_eq _ (by omega)]; omega
        obtain ⟨q2, f1, f2, f3, f4⟩ := last_five (b.take (k + 1)) (isRow_take hr _) (by rw [htl]; exact hk5)
        rw [htl] at f3 f4
        rw [e5, e1, Int.toNat_natCast]
        refine ⟨by omega, by rw [List.length_drop, htl]; omega, fun h4 => ?_, fun h4 => ?_⟩
        · have hn5 : (ct (b.take (k + 1))).n = 5 := by have := f4.1 h4; omega
          rw [if_pos hn5] at hT
          refine ⟨fun h6 => ?_, fun h6 => ⟨?_, fun y hy => ⟨by omega, fun y2 hy2 => ⟨fun h7 => ?_, fun h7 => ?_⟩⟩⟩⟩
          · have : k + 1 = b.length := by have : ((k + 1 : Nat) : Int) = (b.length : Int) := by simpa only [beq_iff_eq] using h6
                                          omega
            rw [List.drop_eq_nil_of_le (by omega)] at hT
            rw [ht, hT]
            rfl
          · have : ¬ ((k + 1 : Nat) : Int) = (b.length : Int) := by simpa only [beq_eq_false_iff_ne, ne_eq] using h6
            omega
          all_goals
            rw [Int.toNat_natCast] at hy2
            obtain rfl : y2 = q := Option.some.inj (hy2.symm.trans hq)
            have hyb : isBit y = true := List.all_eq_true.1 hr y (List.mem_of_getElem? hy)
            rw [drop_this b (k + 1) y hy] at hT
            dsimp only at hT
          · have hyq : y = y2 := UInt8.toNat_inj.1 (by have h8 : (y.toNat : Int) = (y2.toNat : Int) := by simpa only [beq_iff_eq] using h7
                                                       omega)
            rw [if_neg (by rw [hyq]; intro h; have := flip_ne y2; rw [← h] at this; exact this rfl)] at hT
            rw [ht, hT]
            rfl
          · have hyq : y = flip y2 := by
              have h8 : ¬ (y.toNat : Int) = (y2.toNat : Int) := by simpa only [beq_eq_false_iff_ne, ne_eq] using h7
              rcases isBit_or hyb with rfl | rfl <;> rcases isBit_or hqb with rfl | rfl <;> first | rfl | exact absurd rfl h8
            rw [if_pos hyq] at hT
            have ew2 : w64 (((k + 1 : Nat) : Int) + 1) = ((k + 1 + 1 : Nat) : Int) := w64_succ (k + 1) (by omega)
            have hy' : b[k + 1]? = some y := hy
            have hkl2 := (List.getElem?_eq_some_iff.1 hy').1
            have hc2 : ct (b.take (k + 1 + 1)) = nx (ct (b.take (k + 1))) y := by rw [take_next b (k + 1) y hy', ct_snoc]
            rw [ew2]
            clear next
            refine ⟨⟨k + 1 + 1, rfl, by omega, by simp; omega, ?_, ?_⟩, by (try dsimp only); omega⟩
            · rw [hc2, hc, hyq, nx_flip]; show (1 : Int) ≤ 4; decide
            · have hm2 : n.toNat - (x ++ [y2]).length = m := by simp; omega
              rw [hT, hm2, hc2, hyq]
              cases takeF (nx (ct (b.take (k + 1))) (flip y2)) (b.drop (k + 1 + 1)) m with
              | error e => rfl
              | ok z => simp [Except.map]
        · have hn5 : ¬ (ct (b.take (k + 1))).n = 5 := by
            intro h5
            have := f4.2 (by omega)
            rw [this] at h4
            cases h4
          exact ⟨next hn5, by (try dsimp only); omega⟩
      · have hk5 : k + 1 < 5 := by simp at h3; omega
        exact ⟨next (by omega), by (try dsimp only); omega⟩
  · have hxn : n.toNat - x.length = 0 := by simp at h1; omega
    rw [hxn, takeF] at hT
    have ht : takebitsS b n = match takeF ⟨0, 0⟩ b n.toNat with | .error e => ([], 0, e) | .ok q => (q.1, (b.length : Int) - (q.2.1.length : Int), 0) := rfl
    rw [ht, hT]
    show (x, (k : Int), (0 : Int)) = (x ++ [], _, 0)
    rw [List.append_nil, List.length_drop]
    congr 2
    omega

end Go.Proofs.YtmbdcehmeiiaoaaGreatDoor
set_option linter.unusedVariables false
set_option linter.unusedSimpArgs false
namespace Go.Proofs.YtmbdcehmeiiaoaaGreatDoor
open Go.Sy Go.RowKit
def rfastend_vc (u0 : List UInt8) (u1 : List UInt8) (u2 : Int) (K : (List UInt8) → Prop) : Prop :=
  ((0 ≤ (w64 ((u1.length : Int) - (u0.length : Int))).tmod 8 ∧ (w64 ((u1.length : Int) - (u0.length : Int))).tmod 8 < (([([48, 48, 48, 48] : List UInt8), ([48, 48, 49, 49] : List UInt8), ([48, 49, 49, 48] : List UInt8), ([48, 49, 48, 49] : List UInt8), ([49, 49, 48, 48] : List UInt8), ([49, 49, 49, 49] : List UInt8), ([49, 48, 49, 48] : List UInt8), ([49, 48, 48, 49] : List UInt8)] : List (List UInt8)).length : Int)) ∧
    (∀ q38, ([([48, 48, 48, 48] : List UInt8), ([48, 48, 49, 49] : List UInt8), ([48, 49, 49, 48] : List UInt8), ([48, 49, 48, 49] : List UInt8), ([49, 49, 48, 48] : List UInt8), ([49, 49, 49, 49] : List UInt8), ([49, 48, 49, 48] : List UInt8), ([49, 48, 48, 49] : List UInt8)] : List (List UInt8))[((w64 ((u1.length : Int) - (u0.length : Int))).tmod 8).toNat]? = some q38 →
    (((decide (u2 > 16)) = true →
      (((u1.length : Int) + (q38.length : Int) ≤ 9223372036854775807) ∧
      (((0 ≤ (2 : Int) ∧ (2 : Int) < 5) ∧ isRow (u1 ++ q38) = true ∧ (u1 ++ q38).length ≤ 1000) ∧
      (((q38.length : Int) + ((sumR 2 (u1 ++ q38)).length : Int) ≤ 9223372036854775807) ∧
      ((0 ≤ w64 ((u1.length : Int) - 1) ∧ w64 ((u1.length : Int) - 1) < (u1.length : Int)) ∧
      (∀ c106, u1[(w64 ((u1.length : Int) - 1)).toNat]? = some c106 →
      ((isRow (q38 ++ (sumR 2 (u1 ++ q38))) = true ∧ (q38 ++ (sumR 2 (u1 ++ q38))).length ≤ 1000 ∧ ((c106.toNat : Int) = 48 ∨ (c106.toNat : Int) = 49)) ∧
      (K (fixbitsS (q38 ++ (sumR 2 (u1 ++ q38))) (c106.toNat : Int)))))))))) ∧
    ((decide (u2 > 16)) = false →
      (((u1.length : Int) + (q38.length : Int) ≤ 9223372036854775807) ∧
      (((0 ≤ (1 : Int) ∧ (1 : Int) < 5) ∧ isRow (u1 ++ q38) = true ∧ (u1 ++ q38).length ≤ 1000) ∧
      (((q38.length : Int) + ((sumR 1 (u1 ++ q38)).length : Int) ≤ 9223372036854775807) ∧
      ((0 ≤ w64 ((u1.length : Int) - 1) ∧ w64 ((u1.length : Int) - 1) < (u1.length : Int)) ∧
      (∀ c166, u1[(w64 ((u1.length : Int) - 1)).toNat]? = some c166 →
      ((isRow (q38 ++ (sumR 1 (u1 ++ q38))) = true ∧ (q38 ++ (sumR 1 (u1 ++ q38))).length ≤ 1000 ∧ ((c166.toNat : Int) = 48 ∨ (c166.toNat : Int) = 49)) ∧
      (K (fixbitsS (q38 ++ (sumR 1 (u1 ++ q38))) (c166.toNat : Int)))))))))))))

/-! Pure proofs: no program in sight. -/
theorem fhead_short {f : Frame} (hc : fcheckfr f = 0) : (fheadS f).length ≤ 553 ∧ (f.Fast = false → (fheadS f).length ≤ 105) := by
  obtain ⟨c1, c2, c3, c4, c5, c6, c7, c8, c9, c10⟩ := fcheckfr_zero hc
  rw [fheadS_len]
  refine ⟨by split <;> split <;> (try split) <;> omega, fun h => ?_⟩
  have := c9 h
  split <;> split <;> (try split) <;> omega
theorem smost_le {n : Nat} (h : n ≤ 900) : (smost (n : Int)).1 ≤ n + n / 4 := by
  rw [smost_eq _ ⟨by omega, by omega⟩]
  show w64 ((n : Int) + w64 ((max (w64 ((n : Int) - 1)) 0).tdiv 4)) ≤ _
  rw [w64_eq ((n : Int) - 1) (by omega), Int.tdiv_eq_ediv_of_nonneg (by omega), w64_eq (max ((n : Int) - 1) 0 / 4) (by omega), w64_eq _ (by omega)]
  omega
theorem head_put {f : Frame} (hc : fcheckfr f = 0) : (putF ⟨0, 0⟩ (fheadS f)).length ≤ 700 ∧ isRow (putF ⟨0, 0⟩ (fheadS f)) = true := by
  obtain ⟨h1, _⟩ := fhead_short hc
  have h2 := put_length0 (fheadS f) (fheadS_row f)
  have h3 := smost_le (n := (fheadS f).length) (by omega)
  exact ⟨by rcases h2 with h2 | h2 <;> omega, put_row _ (fheadS_row f) _⟩
theorem cnt4_all : ∀ m : Fin 8, isRow (cnt4 m.val) = true ∧ (cnt4 m.val).length = 4 := by decide +kernel
theorem cnt4_rw (n : Nat) : isRow (cnt4 n) = true ∧ (cnt4 n).length = 4 := by
  have h := cnt4_all ⟨n % 8, Nat.mod_lt _ (by decide)⟩
  have e : cnt4 (n % 8) = cnt4 n := by unfold cnt4; rw [Nat.mod_mod]
  dsimp only at h
  rwa [e] at h
def rfkind (n : Int) : Int := if 16 < n then 2 else 1
def rfastendS (h p : List UInt8) (n : Int) : List UInt8 := fixbitsS (cnt4 (p.length - h.length) ++ sumR (rfkind n) (p ++ cnt4 (p.length - h.length))) ((lastB p).toNat : Int)
def rfpre (h p : List UInt8) (n : Int) : Prop := isRow p = true ∧ h.length ≤ p.length ∧ 1 ≤ p.length ∧ p.length ≤ 900
theorem rfastend_ok (h p : List UInt8) (n : Int) (hp : rfpre h p n) : rfastend_vc h p n (fun r => r = rfastendS h p n) := by
  obtain ⟨hr, hl, h1, h9⟩ := hp
  have e : (w64 ((p.length : Int) - (h.length : Int))).tmod 8 = (((p.length - h.length) % 8 : Nat) : Int) := by
    rw [w64_eq _ (by omega), Int.tmod_eq_emod_of_nonneg (by omega)]
    omega
  have e1 : w64 ((p.length : Int) - 1) = ((p.length - 1 : Nat) : Int) := by rw [w64_eq _ (by omega)]; omega
  unfold rfastend_vc
  rw [e, e1]
  have hlt : (p.length - h.length) % 8 < 8 := Nat.mod_lt _ (by decide)
  obtain ⟨k1, k2⟩ := cnt4_rw (p.length - h.length)
  refine ⟨⟨by omega, by simp only [List.length_cons, List.length_nil]; omega⟩, fun q hq => ?_⟩
  rw [Int.toNat_natCast] at hq
  have hqc : q = cnt4 (p.length - h.length) := by
    unfold cnt4
    rw [List.getD_eq_getElem?_getD, hq]
    rfl
  subst hqc
  have hrow : isRow (p ++ cnt4 (p.length - h.length)) = true := by rw [isRow_append, hr, k1]; rfl
  have hs2 : (sumR 2 (p ++ cnt4 (p.length - h.length))).length = 21 := wr_length _ _
  have hs1 : (sumR 1 (p ++ cnt4 (p.length - h.length))).length = 17 := wr_length _ _
  refine ⟨fun hn => ?_, fun hn => ?_⟩
  · have hk : rfkind n = 2 := by unfold rfkind; rw [if_pos (of_decide_eq_true hn)]
    refine ⟨by omega, ⟨by decide, hrow, by rw [List.length_append]; omega⟩, by omega, by omega, fun c hc => ?_⟩
    rw [Int.toNat_natCast] at hc
    have hcb := isRow_mem hr (List.mem_of_getElem? hc)
    refine ⟨⟨by rw [isRow_append, k1]; exact wr_row _ _, by rw [List.length_append]; omega, by rcases hcb with rfl | rfl <;> decide⟩, ?_⟩
    unfold rfastendS
    rw [hk, lastB_at hc]
  · have hk : rfkind n = 1 := by unfold rfkind; rw [if_neg (of_decide_eq_false hn)]
    refine ⟨by omega, ⟨by decide, hrow, by rw [List.length_append]; omega⟩, by omega, by omega, fun c hc => ?_⟩
    rw [Int.toNat_natCast] at hc
    have hcb := isRow_mem hr (List.mem_of_getElem? hc)
    refine ⟨⟨by rw [isRow_append, k1]; exact wr_row _ _, by rw [List.length_append]; omega, by rcases hcb with rfl | rfl <;> decide⟩, ?_⟩
    unfold rfastendS
    rw [hk, lastB_at hc]

end Go.Proofs.YtmbdcehmeiiaoaaGreatDoor
set_option linter.unusedVariables false
set_option linter.unusedSimpArgs false
namespace Go.Proofs.YtmbdcehmeiiaoaaGreatDoor
open Go.Sy Go.RowKit
def rbitsof_vc (u0 : Frame) (K : (List UInt8) → Prop) : Prop :=
  (u0.Data.length ≤ 140737488355328 →
    ((fcheckfr u0 = 0 ∧ ∀ x ∈ u0.Data, 0 ≤ x ∧ x ≤ 255) ∧
    (((!u0.Fast) = true →
      (((0 ≤ (0 : Int) ∧ (0 : Int) < 5) ∧ isRow (fheadS u0) = true ∧ (fheadS u0).length ≤ 1000) ∧
      ((((fheadS u0).length : Int) + ((sumR 0 (fheadS u0)).length : Int) ≤ 9223372036854775807) ∧
      ((isRow ((fheadS u0) ++ (sumR 0 (fheadS u0))) = true ∧ ((fheadS u0) ++ (sumR 0 (fheadS u0))).length ≤ 1000) ∧
      ((((putbitsS ((fheadS u0) ++ (sumR 0 (fheadS u0)))).length : Int) + (([49, 49, 49, 49, 49, 49, 49, 49, 49, 49] : List UInt8).length : Int) ≤ 9223372036854775807) ∧
      (K ((putbitsS ((fheadS u0) ++ (sumR 0 (fheadS u0)))) ++ ([49, 49, 49, 49, 49, 49, 49, 49, 49, 49] : List UInt8)))))))) ∧
    ((!u0.Fast) = false →
      ((isRow (fheadS u0) = true ∧ (fheadS u0).length ≤ 1000) ∧
      ((rfpre (fheadS u0) (putbitsS (fheadS u0)) (u0.Data.length : Int)) ∧
      ((((putbitsS (fheadS u0)).length : Int) + ((rfastendS (fheadS u0) (putbitsS (fheadS u0)) (u0.Data.length : Int)).length : Int) ≤ 9223372036854775807) ∧
      (((((putbitsS (fheadS u0)) ++ (rfastendS (fheadS u0) (putbitsS (fheadS u0)) (u0.Data.length : Int))).length : Int) + (([49, 49, 49, 49, 49, 49, 49, 49, 49, 49] : List UInt8).length : Int) ≤ 9223372036854775807) ∧
      (K (((putbitsS (fheadS u0)) ++ (rfastendS (fheadS u0) (putbitsS (fheadS u0)) (u0.Data.length : Int))) ++ ([49, 49, 49, 49, 49, 49, 49, 49, 49, 49] : List UInt8)))))))))))

/-! Pure proofs: no program in sight. -/
theorem lastB_bit {p : List UInt8} (hr : isRow p = true) (h : 1 ≤ p.length) : ((lastB p).toNat : Int) = 48 ∨ ((lastB p).toNat : Int) = 49 := by
  obtain ⟨c, hc⟩ : ∃ c, p[p.length - 1]? = some c := ⟨_, List.getElem?_eq_getElem (by omega)⟩
  rw [lastB_at hc]
  rcases isRow_mem hr (List.mem_of_getElem? hc) with rfl | rfl
  · exact .inl rfl
  · exact .inr rfl
theorem fastEnd_eq {h p : List UInt8} {n : Int} {k : Int} (hp : rfpre h p n) (hk : k = rfkind n) : fastEnd p h.length k = rfastendS h p n := by
  obtain ⟨hr, hl, h1, h9⟩ := hp
  obtain ⟨k1, k2⟩ := cnt4_rw (p.length - h.length)
  have hrow : isRow (p ++ cnt4 (p.length - h.length)) = true := by rw [isRow_append, hr, k1]; rfl
  have hkk : rfkind n = 1 ∨ rfkind n = 2 := by unfold rfkind; split <;> simp
  have hk2 : isKind (rfkind n) = true := by rcases hkk with e | e <;> rw [e] <;> rfl
  have hsl : (sumR (rfkind n) (p ++ cnt4 (p.length - h.length))).length ≤ 21 := by
    unfold sumR
    rw [wr_length]
    rcases hkk with e | e <;> rw [e] <;> decide
  have hc : csumS k (p ++ cnt4 (p.length - h.length)) = (sumR (rfkind n) (p ++ cnt4 (p.length - h.length)), 0) := by
    rw [hk]
    exact csumS_row hk2 (by rw [List.length_append]; omega) hrow
  unfold fastEnd rfastendS
  rw [hc]
  dsimp only
  have hb : bcheckS (cnt4 (p.length - h.length) ++ sumR (rfkind n) (p ++ cnt4 (p.length - h.length))) = 0 :=
    (bcheck_zero _).2 ⟨by rw [List.length_append]; omega, by rw [isRow_append, k1]; exact wr_row _ _⟩
  unfold sfixedS fixbitsS
  rw [if_neg (fun hh => hh hb), if_neg (by rcases lastB_bit hr h1 with e | e <;> omega)]
def rbitsofS (f : Frame) : List UInt8 := (BitsS f).1
theorem rbitsof_ok (f : Frame) (h : fcheckfr f = 0 ∧ ∀ x ∈ f.Data, 0 ≤ x ∧ x ≤ 255) : rbitsof_vc f (fun r => r = rbitsofS f) := by
  obtain ⟨h0, hd⟩ := h
  intro _
  obtain ⟨s1, s2⟩ := fhead_short h0
  have hrow := fheadS_row f
  have hsl : (sumR 0 (fheadS f)).length = 15 := wr_length _ _
  have hsr : isRow (sumR 0 (fheadS f)) = true := wr_row _ _
  refine ⟨⟨h0, hd⟩, fun h1 => ?_, fun h1 => ?_⟩
  · have hf : f.Fast = false := by simpa using h1
    have hrr : isRow (fheadS f ++ sumR 0 (fheadS f)) = true := by rw [isRow_append, hrow, hsr]; rfl
    have hpr : sputS (fheadS f ++ sumR 0 (fheadS f)) = (putF ⟨0, 0⟩ (fheadS f ++ sumR 0 (fheadS f)), 0) := sputS_row hrr (by simp; omega)
    have hS : BitsS f = ((sputS (fheadS f ++ sumR 0 (fheadS f))).1 ++ tail10, 0) := by unfold BitsS; rw [if_neg (fun hc => hc h0), if_pos hf]
    have hp3 := put_len2 (fheadS f ++ sumR 0 (fheadS f)) ⟨0, 0⟩
    rw [List.length_append] at hp3
    refine ⟨⟨by decide, hrow, by omega⟩, by omega, ⟨hrr, by rw [List.length_append]; omega⟩, ?_, ?_⟩
    · unfold putbitsS
      simp only [List.length_cons, List.length_nil]
      omega
    · unfold rbitsofS
      rw [hS, hpr]
      rfl
  · have hf : f.Fast = true := by simpa using h1
    obtain ⟨p1, p2⟩ := head_put h0
    have hp2 := put_len2 (fheadS f) ⟨0, 0⟩
    have hpos := fheadS_pos f
    have hpre : rfpre (fheadS f) (putbitsS (fheadS f)) (f.Data.length : Int) := ⟨p2, hp2.2, Nat.le_trans hpos hp2.2, by show (putF ⟨0, 0⟩ (fheadS f)).length ≤ 900; omega⟩
    have hpr : sputS (fheadS f) = (putF ⟨0, 0⟩ (fheadS f), 0) := sputS_row hrow (by omega)
    have hS : BitsS f = (((sputS (fheadS f)).1 ++ fastEnd (sputS (fheadS f)).1 (fheadS f).length (fkind f)) ++ tail10, 0) := by unfold BitsS; rw [if_neg (fun hc => hc h0), if_neg (by rw [hf]; simp)]
    have hk : fkind f = rfkind (f.Data.length : Int) := by
      unfold fkind rfkind
      rw [hf]
      by_cases hn : (f.Data.length : Int) ≤ 16
      · rw [decide_eq_true hn, if_neg (by omega)]; rfl
      · rw [decide_eq_false hn, if_pos (by omega)]; rfl
    have he := fastEnd_eq hpre hk
    have hel := fastEnd_len (putbitsS (fheadS f)) (fheadS f).length (fkind f)
    rw [he] at hel
    have hpl : (putbitsS (fheadS f)).length ≤ 700 := p1
    refine ⟨⟨hrow, by omega⟩, hpre, by omega, by simp only [List.length_append, List.length_cons, List.length_nil]; omega, ?_⟩
    unfold rbitsofS
    rw [hS, hpr]
    dsimp only
    have he2 : fastEnd (putF ⟨0, 0⟩ (fheadS f)) (fheadS f).length (fkind f) = rfastendS (fheadS f) (putbitsS (fheadS f)) (f.Data.length : Int) := he
    rw [he2]
    rfl

end Go.Proofs.YtmbdcehmeiiaoaaGreatDoor
set_option linter.unusedVariables false
set_option linter.unusedSimpArgs false
namespace Go.Proofs.YtmbdcehmeiiaoaaGreatDoor
open Go.Sy Go.RowKit

/-! Pure proofs: no program in sight. -/

end Go.Proofs.YtmbdcehmeiiaoaaGreatDoor
set_option linter.unusedVariables false
set_option linter.unusedSimpArgs false
namespace Go.Proofs.YtmbdcehmeiiaoaaGreatDoor
open Go.Sy Go.RowKit
def wsend_vc (u0 : List Frame) (K : ((List UInt8) × Int × (List Int) × Int) → Prop) : Prop :=
  (u0.length ≤ 140737488355328 →
    (((decide ((u0.length : Int) > 6)) = true →
      (K ([], 0, ([] : List Int), 2))) ∧
    ((decide ((u0.length : Int) > 6)) = false →
      ((((u0.length : Int) == 0) = true →
        (K ([], 0, ([] : List Int), 8))) ∧
      (((u0.length : Int) == 0) = false →
        (∃ inv68 : (List Sender) → Int → Int → Prop, ∃ mu68 : (List Sender) → Int → Int → Nat, inv68 ([] : List Sender) 0 0 ∧
        (∀ (x6 : List Sender) (x7 : Int) (x30 : Int), inv68 x6 x7 x30 →
        (((decide (x30 < (u0.length : Int))) = true →
          ((0 ≤ x30 ∧ x30 < (u0.length : Int)) ∧
          (∀ q93, u0[x30.toNat]? = some q93 →
          (q93.Data.length ≤ 140737488355328 →
          ((∀ x ∈ q93.Data, 0 ≤ x ∧ x ≤ 255) ∧
          ((((BitsS q93).2 != 0) = true →
            (K ([], 0, ([] : List Int), (BitsS q93).2))) ∧
          (((BitsS q93).2 != 0) = false →
            (((x6.length + 1) * 24 ≤ 140737488355328) ∧
            (inv68 (x6 ++ [(⟨(BitsS q93).1, -1⟩ : Sender)]) (max x7 ((BitsS q93).1.length : Int)) (w64 (x30 + 1)) ∧ mu68 (x6 ++ [(⟨(BitsS q93).1, -1⟩ : Sender)]) (max x7 ((BitsS q93).1.length : Int)) (w64 (x30 + 1)) < mu68 x6 x7 x30))))))))) ∧
        ((decide (x30 < (u0.length : Int))) = false →
          (∃ inv208 : (List Int) → Int → (List Sender) → Prop, ∃ mu208 : (List Int) → Int → (List Sender) → Nat, inv208 ([] : List Int) 0 x6 ∧
          (∀ (x12 : List Int) (x54 : Int) (zaox6 : List Sender), inv208 x12 x54 zaox6 →
          (((decide (x54 < x7)) = true →
            (∃ inv228 : (List Int) → (List Sender) → Prop,
            (∃ inv264 : Int → Bool → Int → Prop, ∃ mu264 : Int → Bool → Int → Nat, inv264 49 false 0 ∧
            (∀ (x14 : Int) (x15 : Bool) (x59 : Int), inv264 x14 x15 x59 →
            (((decide (x59 < (zaox6.length : Int))) = true →
              (∃ inv283 : Int → Bool → Prop,
              ((0 ≤ x59 ∧ x59 < (zaox6.length : Int)) ∧
              (∀ q308, zaox6[x59.toNat]? = some q308 →
              ((((decide (q308.lost < 0)) && (decide (x54 < (q308.row.length : Int)))) = true →
                ((0 ≤ x54 ∧ x54 < (q308.row.length : Int)) ∧
                (∀ c359, q308.row[x54.toNat]? = some c359 →
                (inv283 (min x14 (c359.toNat : Int)) true)))) ∧
              (((decide (q308.lost < 0)) && (decide (x54 < (q308.row.length : Int)))) = false →
                (inv283 x14 x15))))) ∧
              (∀ (x14v : Int) (x15v : Bool), inv283 x14v x15v →
                (inv264 x14v x15v (w64 (x59 + 1)) ∧ mu264 x14v x15v (w64 (x59 + 1)) < mu264 x14 x15 x59)))) ∧
            ((decide (x59 < (zaox6.length : Int))) = false →
              (((!x15) = true →
                (∃ inv390 : Int → (List Int) → Int → Prop, ∃ mu390 : Int → (List Int) → Int → Nat, inv390 (-1) ([] : List Int) 0 ∧
                (∀ (x3 : Int) (x4v : List Int) (x126 : Int), inv390 x3 x4v x126 →
                (((decide (x126 < (zaox6.length : Int))) = true →
                  ((0 ≤ x126 ∧ x126 < (zaox6.length : Int)) ∧
                  (∀ q418, zaox6[x126.toNat]? = some q418 →
                  (∃ inv437 : Int → (List Int) → Prop,
                  (((decide (q418.lost ≥ 0)) = true →
                    (inv437 x3 x4v)) ∧
                  ((decide (q418.lost ≥ 0)) = false →
                    (((decide (x3 ≥ 0)) = true →
                      (K ([], 0, ([] : List Int), 9))) ∧
                    ((decide (x3 ≥ 0)) = false →
                      (inv437 x126 x4v))))) ∧
                  (∀ (x3v : Int) (x4vv : List Int), inv437 x3v x4vv →
                    (((x4vv.length + 1) * 8 ≤ 140737488355328) ∧
                    (inv390 x3v (x4vv ++ [q418.lost]) (w64 (x126 + 1)) ∧ mu390 x3v (x4vv ++ [q418.lost]) (w64 (x126 + 1)) < mu390 x3 x4v x126))))))) ∧
                ((decide (x126 < (zaox6.length : Int))) = false →
                  (K (bstr x12, x3, x4v, 0))))))) ∧
              ((!x15) = false →
                (((x12.length + 1) * 1 ≤ 140737488355328) ∧
                (∃ inv565 : Int → (List Sender) → Prop, ∃ mu565 : Int → (List Sender) → Nat, inv565 0 zaox6 ∧
                (∀ (x88 : Int) (zaox6vv : List Sender), inv565 x88 zaox6vv →
                (((decide (x88 < (zaox6.length : Int))) = true →
                  (∃ inv584 : (List Sender) → Prop,
                  ((0 ≤ x88 ∧ x88 < (zaox6vv.length : Int)) ∧
                  (∀ q627, zaox6vv[x88.toNat]? = some q627 →
                  (((decide (q627.lost < 0)) = true →
                    (∀ q650, zaox6vv[x88.toNat]? = some q650 →
                    (((decide (x54 < (q650.row.length : Int))) = true →
                      (∀ q675, zaox6vv[x88.toNat]? = some q675 →
                      ((0 ≤ x54 ∧ x54 < (q675.row.length : Int)) ∧
                      (∀ c687, q675.row[x54.toNat]? = some c687 →
                      ((((c687.toNat : Int) != x14) = true →
                        (∀ q711, zaox6vv[x88.toNat]? = some q711 →
                        (inv584 (zaox6vv.set x88.toNat (⟨q711.row, x54⟩ : Sender))))) ∧
                      (((c687.toNat : Int) != x14) = false →
                        (inv584 zaox6vv))))))) ∧
                    ((decide (x54 < (q650.row.length : Int))) = false →
                      (inv584 zaox6vv))))) ∧
                  ((decide (q627.lost < 0)) = false →
                    (inv584 zaox6vv))))) ∧
                  (∀ (zaox6vvv : List Sender), inv584 zaox6vvv →
                    (inv565 (w64 (x88 + 1)) zaox6vvv ∧ mu565 (w64 (x88 + 1)) zaox6vvv < mu565 x88 zaox6vv)))) ∧
                ((decide (x88 < (zaox6.length : Int))) = false →
                  (inv228 (x12 ++ [x14]) zaox6vv)))))))))))) ∧
            (∀ (x12v : List Int) (zaox6v : List Sender), inv228 x12v zaox6v →
              (inv208 x12v (w64 (x54 + 1)) zaox6v ∧ mu208 x12v (w64 (x54 + 1)) zaox6v < mu208 x12 x54 zaox6)))) ∧
          ((decide (x54 < x7)) = false →
            (∃ inv788 : Int → (List Int) → Int → Prop, ∃ mu788 : Int → (List Int) → Int → Nat, inv788 (-1) ([] : List Int) 0 ∧
            (∀ (x3 : Int) (x4v : List Int) (x126 : Int), inv788 x3 x4v x126 →
            (((decide (x126 < (zaox6.length : Int))) = true →
              ((0 ≤ x126 ∧ x126 < (zaox6.length : Int)) ∧
              (∀ q816, zaox6[x126.toNat]? = some q816 →
              (∃ inv835 : Int → (List Int) → Prop,
              (((decide (q816.lost ≥ 0)) = true →
                (inv835 x3 x4v)) ∧
              ((decide (q816.lost ≥ 0)) = false →
                (((decide (x3 ≥ 0)) = true →
                  (K ([], 0, ([] : List Int), 9))) ∧
                ((decide (x3 ≥ 0)) = false →
                  (inv835 x126 x4v))))) ∧
              (∀ (x3v : Int) (x4vv : List Int), inv835 x3v x4vv →
                (((x4vv.length + 1) * 8 ≤ 140737488355328) ∧
                (inv788 x3v (x4vv ++ [q816.lost]) (w64 (x126 + 1)) ∧ mu788 x3v (x4vv ++ [q816.lost]) (w64 (x126 + 1)) < mu788 x3 x4v x126))))))) ∧
            ((decide (x126 < (zaox6.length : Int))) = false →
              (K (bstr x12, x3, x4v, 0)))))))))))))))))))

def ieq_vc (u0 : List Int) (u1 : List Int) (K : Bool → Prop) : Prop :=
  (u0.length ≤ 140737488355328 →
    (u1.length ≤ 140737488355328 →
    ((((u0.length : Int) != (u1.length : Int)) = true →
      (K false)) ∧
    (((u0.length : Int) != (u1.length : Int)) = false →
      (∃ inv37 : Int → Prop, ∃ mu37 : Int → Nat, inv37 0 ∧
      (∀ (x13 : Int), inv37 x13 →
      (((decide (x13 < (u0.length : Int))) = true →
        ((0 ≤ x13 ∧ x13 < (u0.length : Int)) ∧
        (∀ q74, u0[x13.toNat]? = some q74 →
        ((0 ≤ x13 ∧ x13 < (u1.length : Int)) ∧
        (∀ q96, u1[x13.toNat]? = some q96 →
        (((q74 != q96) = true →
          (K false)) ∧
        ((q74 != q96) = false →
          (inv37 (w64 (x13 + 1)) ∧ mu37 (w64 (x13 + 1)) < mu37 x13)))))))) ∧
      ((decide (x13 < (u0.length : Int))) = false →
        (K true)))))))))

/-! Pure proofs: no program in sight. -/
def stAt (last : UInt8) (s : List UInt8) (i : Nat) : Bool := decide (i % 5 = 0) && (s[i]? == if i = 0 then some last else s[i - 1]?)
def badN (last : UInt8) (s : List UInt8) (k : Nat) : Bool := (List.range k).any (stAt last s)
def rfastS (r : FReader) : FReader :=
  if r.Reader.Code ≠ 0 then r else
    (fun e => (fun q : List UInt8 × FReader => (fun t : FReader => if t.Reader.Code = 0 ∧ q.1 ≠ e then rfailS t 6 else t) (if badN (lastB (r.Reader.Row.take r.Reader.At.toNat)) q.1 q.1.length = true then rfailS q.2 5 else q.2)) (rplainFS r e.length))
      (fastEnd (r.Reader.Row.take r.Reader.At.toNat) (fheadS r.f).length (fkind r.f))
def f0 : Frame := ⟨0, false, false, false, 0, []⟩
def rd1 (r : FReader) : FReader :=
  if (rnumberS r 4).2.Reader.Code ≠ 0 then (rnumberS r 4).2 else
  if r.f.Fast = false ∧ 8 < (rnumberS r 4).1 then rfailS (rnumberS r 4).2 4 else
  if r.f.Remote = true then ⟨(rnumberS r 4).2.Reader, ⟨r.f.ID, r.f.Long, r.f.Fast, r.f.Remote, (rnumberS r 4).1, r.f.Data⟩⟩ else
    ⟨(rtakeFS (rnumberS r 4).2 (8 * (fsizes[(rnumberS r 4).1.toNat]?.getD 0))).2.Reader, ⟨r.f.ID, r.f.Long, r.f.Fast, r.f.Remote, r.f.Size, (bbytesS (rtakeFS (rnumberS r 4).2 (8 * (fsizes[(rnumberS r 4).1.toNat]?.getD 0))).1).1⟩⟩
def rd2 (r : FReader) : FReader :=
  if r.f.Fast = true then rfastS r else if r.Reader.Code = 0 then
    (if (rtakeFS r 15).2.Reader.Code = 0 ∧ (rtakeFS r 15).1 ≠ (csumS 0 (fheadS r.f)).1 then rfailS (rtakeFS r 15).2 6 else (rtakeFS r 15).2) else r
def rd3 (r : FReader) : FReader := if (rplainFS r 10).2.Reader.Code = 0 ∧ ((rplainFS r 10).1.take 1 ++ [49]) ++ (rplainFS r 10).1.drop 2 ≠ tail10 then rfailS (rplainFS r 10).2 4 else (rplainFS r 10).2
def rstart (b : List UInt8) : FReader := ⟨⟨b, 0, 0, ⟨0, 0⟩⟩, f0⟩
def readR (b : List UInt8) : FReader := rd3 (rd2 (rd1 (rnamesS (rstart b))))
def readS (b : List UInt8) : Frame × Int × Int := if bcheckS b ≠ 0 then (f0, 0, bcheckS b) else if (readR b).Reader.Code ≠ 0 then (f0, 0, (readR b).Reader.Code) else ((readR b).f, (readR b).Reader.At, 0)
theorem id_join (a n : Nat) (ha : a < 2048) (hn : n < 262144) : bOr .i64 (bShl .i64 (a : Int) 18) (n : Int) = ((a * 262144 + n : Nat) : Int) := by
  have e1 : bShl .i64 (a : Int) 18 = ((a * 262144 : Nat) : Int) := by
    unfold bShl
    have : (a : Int) * 2 ^ (min (18 : Int).toNat IntKind.i64.bits) = ((a * 262144 : Nat) : Int) := by
      show (a : Int) * 2 ^ 18 = _
      omega
    rw [this]
    exact w64_eq _ (by omega)
  have e2 : (BitVec.ofInt IntKind.i64.bits ((a * 262144 : Nat) : Int) ||| BitVec.ofInt IntKind.i64.bits (n : Int)).toNat = a * 262144 + n := by
    rw [BitVec.toNat_or]
    show (BitVec.ofInt 64 ((a * 262144 : Nat) : Int)).toNat ||| (BitVec.ofInt 64 (n : Int)).toNat = _
    rw [ofInt_toNat (a * 262144) (by omega), ofInt_toNat n (by omega)]
    have h := Nat.shiftLeft_add_eq_or_of_lt (i := 18) (b := n) (by omega) a
    rw [Nat.shiftLeft_eq] at h
    exact h.symm
  rw [e1]
  unfold bOr
  rw [e2]
  exact w64_eq _ (by omega)
theorem take_put2 (u : List UInt8) : ∀ (c : Counter) (v z : List UInt8), ∃ c', takeF c (putF c (u ++ v) ++ z) u.length = .ok (u, putF c' v ++ z, c') := by
  induction u with
  | nil => intro c v z; exact ⟨c, by simp [takeF]⟩
  | cons x b ih =>
    intro c v z
    rw [List.cons_append, putF]
    by_cases h5 : (nx c x).n = 5
    · obtain ⟨c', hc⟩ := ih (nx (nx c x) (flip x)) v z
      rw [if_pos h5]
      refine ⟨c', ?_⟩
      rw [List.cons_append, List.cons_append, List.length_cons, takeF_cons, if_pos h5]
      dsimp only
      rw [if_pos rfl, hc]
      rfl
    · obtain ⟨c', hc⟩ := ih (nx c x) v z
      rw [if_neg h5]
      refine ⟨c', ?_⟩
      rw [List.cons_append, List.length_cons, takeF_cons, if_neg h5, hc]
      rfl
def Ah (r : Reader) (row v z : List UInt8) : Prop := Rok r ∧ r.Code = 0 ∧ r.Row = row ∧ r.Row.drop r.At.toNat = putF r.c v ++ z
theorem ah_take {r : Reader} {row u v z : List UInt8} (h : Ah r row (u ++ v) z) : (rtakeS r (u.length : Int)).1 = u ∧ Ah (rtakeS r (u.length : Int)).2 row v z := by
  obtain ⟨hR, hc, hrow, hd⟩ := h
  obtain ⟨c', hT⟩ := take_put2 u r.c v z
  have := rtakeS_take (n := u.length) hR hc
  rw [hd, hT] at this
  obtain ⟨g1, g2, g3, g4, g5, g6, g7⟩ := this
  have hR2 := (rtakeS_Rok (u.length : Int) hR).1
  rw [g1] at hR2 ⊢
  refine ⟨rfl, hR2, rfl, hrow, ?_⟩
  have e : (((r.Row.length : Int) - ((putF c' v ++ z).length : Int))).toNat = r.Row.length - (putF c' v ++ z).length := by (try dsimp only at g2); omega
  show r.Row.drop (((r.Row.length : Int) - ((putF c' v ++ z).length : Int))).toNat = _
  rw [e]
  exact g3.symm
def AhF (r : FReader) (row v z : List UInt8) (f : Frame) : Prop := Ah r.Reader row v z ∧ r.f = f
theorem ahf_take {r : FReader} {row u v z : List UInt8} {f : Frame} {n : Int} (h : AhF r row (u ++ v) z f) (hn : n = (u.length : Int)) : (rtakeFS r n).1 = u ∧ AhF (rtakeFS r n).2 row v z f := by
  subst hn
  exact ⟨(ah_take h.1).1, (ah_take h.1).2, h.2⟩
theorem ahf_want {r : FReader} {row v z : List UInt8} {f : Frame} {b : UInt8} (h : AhF r row (b :: v) z f) : AhF (rwantS r [b]) row v z f := by
  obtain ⟨e, k⟩ := ahf_take (u := [b]) (n := 1) h rfl
  unfold rwantS
  rw [e, if_neg (fun e => e.2 rfl)]
  exact k
theorem ahf_number {r : FReader} {row u v z : List UInt8} {f : Frame} {n : Int} (h : AhF r row (u ++ v) z f) (hn : n = (u.length : Int)) : (rnumberS r n).1 = (val u : Int) ∧ AhF (rnumberS r n).2 row v z f := by
  obtain ⟨e, k⟩ := ahf_take h hn
  have hc : (rtakeFS r n).2.Reader.Code = 0 := k.1.2.1
  unfold rnumberS
  rw [if_neg (by rw [hc]; simp), e]
  exact ⟨rfl, k⟩
theorem nam1_fwd {r : FReader} {row u v z : List UInt8} {g : Frame} (h : AhF r row (48 :: (u ++ v)) z g) (hu : u.length = 11) : AhF (nam1 r) row v z ⟨(val u : Int), g.Long, g.Fast, g.Remote, g.Size, g.Data⟩ := by
  have h1 := ahf_want h
  obtain ⟨e, k⟩ := ahf_number (n := 11) h1 (by rw [hu]; rfl)
  refine ⟨k.1, ?_⟩
  have hf : (rnumberS (rwantS r [48]) 11).2.f = g := k.2
  unfold nam1
  rw [e, hf]
theorem fbit_eq (b : Bool) : (fbit b == [49]) = b := by cases b <;> rfl
theorem ahf_flag {r : FReader} {row v z : List UInt8} {g : Frame} {b : Bool} (h : AhF r row (fbit b ++ v) z g) : ((rtakeFS r 1).1 == [49]) = b ∧ AhF (rtakeFS r 1).2 row v z g := by
  obtain ⟨e, k⟩ := ahf_take (n := 1) h (by rw [fbit_len]; rfl)
  rw [e, fbit_eq]
  exact ⟨rfl, k⟩
theorem nam6_short {r : FReader} {row v z : List UInt8} {g : Frame} {id : Nat} {R : Bool} (h : AhF r row (48 :: (wr 11 id ++ (fbit R ++ (fbit false ++ v)))) z g) : AhF (nam6 r) row v z ⟨((id % 2 ^ 11 : Nat) : Int), false, g.Fast, R, g.Size, g.Data⟩ := by
  have h1 := nam1_fwd h (wr_length _ _)
  obtain ⟨e1, h2⟩ := ahf_flag h1
  obtain ⟨e2, h3⟩ := ahf_flag h2
  unfold nam6
  rw [if_neg (by rw [e2]; simp)]
  refine ⟨h3.1, ?_⟩
  have hf := h3.2
  unfold nam2
  rw [e1, e2, hf, val_wr]
theorem nam6_long {r : FReader} {row v z : List UInt8} {g : Frame} {hi lo : Nat} {R : Bool} (h : AhF r row (48 :: (wr 11 hi ++ (fbit true ++ (fbit true ++ (wr 18 lo ++ (fbit R ++ v)))))) z g) : AhF (nam6 r) row v z ⟨((hi % 2 ^ 11 * 262144 + lo % 2 ^ 18 : Nat) : Int), true, g.Fast, R, g.Size, g.Data⟩ := by
  have h1 := nam1_fwd h (wr_length _ _)
  obtain ⟨e1, h2⟩ := ahf_flag h1
  obtain ⟨e2, h3⟩ := ahf_flag h2
  have hf := h3.2
  have h4 : AhF (nam3 ((rtakeFS (nam1 r) 1).1 == [49]) (nam2 (rtakeFS (nam1 r) 1) (rtakeFS (rtakeFS (nam1 r) 1).2 1))) row (wr 18 lo ++ (fbit R ++ v)) z ⟨((hi % 2 ^ 11 : Nat) : Int), true, g.Fast, true, g.Size, g.Data⟩ := by
    unfold nam3
    rw [if_pos e1]
    refine ⟨h3.1, ?_⟩
    unfold nam2
    rw [e1, e2, hf, val_wr]
  unfold nam6
  rw [if_pos e2]
  generalize nam3 ((rtakeFS (nam1 r) 1).1 == [49]) (nam2 (rtakeFS (nam1 r) 1) (rtakeFS (rtakeFS (nam1 r) 1).2 1)) = y at *
  obtain ⟨e3, h5⟩ := ahf_number (n := 18) h4 (by rw [wr_length]; rfl)
  have h6 : AhF (nam4 y) row (fbit R ++ v) z ⟨((hi % 2 ^ 11 * 262144 + lo % 2 ^ 18 : Nat) : Int), true, g.Fast, true, g.Size, g.Data⟩ := by
    refine ⟨h5.1, ?_⟩
    have hy := h4.2
    unfold nam4
    rw [e3, hy, val_wr]
    have p11 : (2 : Nat) ^ 11 = 2048 := rfl
    have p18 : (2 : Nat) ^ 18 = 262144 := rfl
    have := id_join (hi % 2 ^ 11) (lo % 2 ^ 18) (by omega) (by omega)
    show (⟨bOr .i64 (bShl .i64 ((hi % 2 ^ 11 : Nat) : Int) 18) ((lo % 2 ^ 18 : Nat) : Int), _, _, _, _, _⟩ : Frame) = _
    rw [this]
  obtain ⟨e4, h7⟩ := ahf_flag h6
  refine ⟨h7.1, ?_⟩
  have hg := h7.2
  unfold nam5
  rw [e4, hg]
theorem names_fwd {r : FReader} {row v z : List UInt8} {g f : Frame} (hc : fcheckfr f = 0) (h : AhF r row ((([48] ++ fnameS f) ++ fctl f) ++ v) z g) : AhF (rnamesS r) row v z ⟨f.ID, f.Long, f.Fast, f.Remote, g.Size, g.Data⟩ := by
  obtain ⟨c1, c2, c3, c4, c5, c6, c7, c8, c9, c10⟩ := fcheckfr_zero hc
  have h6 : AhF (nam6 r) row (fctl f ++ v) z ⟨f.ID, f.Long, g.Fast, f.Remote, g.Size, g.Data⟩ := by
    cases hL : f.Long with
    | false =>
      have hid := c3 hL
      have e : (([48] ++ fnameS f) ++ fctl f) ++ v = 48 :: (wr 11 f.ID.toNat ++ (fbit f.Remote ++ (fbit false ++ (fctl f ++ v)))) := by
        unfold fnameS
        rw [if_pos hL]
        simp [show fbit false = [48] from rfl]
      rw [e] at h
      have := nam6_short h
      have e2 : ((f.ID.toNat % 2 ^ 11 : Nat) : Int) = f.ID := by
        rw [Nat.mod_eq_of_lt (by have : (2 : Nat) ^ 11 = 2048 := rfl
                                 omega)]
        omega
      rw [e2] at this
      exact this
    | true =>
      have e : (([48] ++ fnameS f) ++ fctl f) ++ v = 48 :: (wr 11 (f.ID.toNat / 2 ^ 18) ++ (fbit true ++ (fbit true ++ (wr 18 f.ID.toNat ++ (fbit f.Remote ++ (fctl f ++ v)))))) := by
        unfold fnameS
        rw [if_neg (by rw [hL]; simp)]
        simp [show fbit true = [49] from rfl]
      rw [e] at h
      have := nam6_long h
      have e2 : ((f.ID.toNat / 2 ^ 18 % 2 ^ 11 * 262144 + f.ID.toNat % 2 ^ 18 : Nat) : Int) = f.ID := by
        have p11 : (2 : Nat) ^ 11 = 2048 := rfl
        have p18 : (2 : Nat) ^ 18 = 262144 := rfl
        rw [p11, p18]
        omega
      rw [e2] at this
      exact this
  unfold rnamesS
  generalize nam6 r = y at *
  have e : fctl f ++ v = fbit f.Fast ++ ((if f.Fast = true then [48, 49, 48] else if f.Long = true then [48] else []) ++ v) := by
    unfold fctl
    cases f.Fast <;> cases f.Long <;> rfl
  rw [e] at h6
  obtain ⟨e1, h7⟩ := ahf_flag h6
  have hf := h7.2
  have h8 : AhF (nam7 (rtakeFS y 1)) row ((if f.Fast = true then [48, 49, 48] else if f.Long = true then [48] else []) ++ v) z ⟨f.ID, f.Long, f.Fast, f.Remote, g.Size, g.Data⟩ := by
    refine ⟨h7.1, ?_⟩
    unfold nam7
    rw [e1, hf]
  unfold nam8
  have hR : (rtakeFS y 1).2.f.Remote = f.Remote := by rw [hf]
  have hL : (rtakeFS y 1).2.f.Long = f.Long := by rw [hf]
  rw [e1, hR, hL]
  cases hF : f.Fast with
  | true =>
    rw [hF] at h8
    have hr : f.Remote = false := by
      cases hh : f.Remote
      · rfl
      · rw [(c4 hh).1] at hF; cases hF
    rw [if_pos rfl] at h8 ⊢
    rw [if_neg (by rw [hr]; simp)]
    exact ahf_want (ahf_want (ahf_want h8))
  | false =>
    rw [hF] at h8
    rw [if_neg (by simp)] at h8 ⊢
    cases hL2 : f.Long with
    | true =>
      rw [hL2] at h8
      rw [if_pos rfl] at h8 ⊢
      exact ahf_want h8
    | false =>
      rw [hL2] at h8
      rw [if_neg (by simp)] at h8 ⊢
      exact h8
theorem size_code {n : Nat} (hn : n ≤ 64) (hs : scontainsS fsizes (n : Int) = true) : 0 ≤ sindexS fsizes (n : Int) ∧ sindexS fsizes (n : Int) < 16 ∧ fsizes[(sindexS fsizes (n : Int)).toNat]? = some (n : Int) ∧ (n ≤ 8 → sindexS fsizes (n : Int) ≤ 8) := by
  have key : ∀ m : Fin 65, scontainsS fsizes ((m.val : Nat) : Int) = true → 0 ≤ sindexS fsizes ((m.val : Nat) : Int) ∧ sindexS fsizes ((m.val : Nat) : Int) < 16 ∧ fsizes[(sindexS fsizes ((m.val : Nat) : Int)).toNat]? = some ((m.val : Nat) : Int) ∧ (m.val ≤ 8 → sindexS fsizes ((m.val : Nat) : Int) ≤ 8) := by decide +kernel
  exact key ⟨n, by omega⟩ hs
theorem byb_ofb : ∀ d : List Int, (∀ x ∈ d, 0 ≤ x ∧ x ≤ 255) → byb d.length (ofb d) = d := by
  intro d
  induction d with
  | nil => intro _; rfl
  | cons x d ih =>
    intro h
    have hx := h x (List.mem_cons_self ..)
    rw [List.length_cons, byb, ofb, List.take_left' (wr_length _ _), List.drop_left' (wr_length _ _), ih (fun y hy => h y (List.mem_cons_of_mem _ hy)), val_wr]
    have : ((x.toNat % 2 ^ 8 : Nat) : Int) = x := by
      have : (2 : Nat) ^ 8 = 256 := rfl
      omega
    rw [this]
theorem bbytes_ofb {d : List Int} (h : ∀ x ∈ d, 0 ≤ x ∧ x ≤ 255) (hl : d.length ≤ 64) : bbytesS (ofb d) = (d, 0) := by
  have h1 := ofb_length d
  unfold bbytesS
  rw [if_neg (by rw [(bcheck_zero _).2 ⟨by omega, ofb_row d⟩]; simp), if_neg (by omega)]
  have : (ofb d).length / 8 = d.length := by omega
  rw [this, byb_ofb d h]
theorem rd1_fwd {r : FReader} {row v z : List UInt8} {f : Frame} (hc : fcheckfr f = 0) (hd : ∀ x ∈ f.Data, 0 ≤ x ∧ x ≤ 255) (h : AhF r row (wr 4 (fcode f) ++ (ofb f.Data ++ v)) z ⟨f.ID, f.Long, f.Fast, f.Remote, 0, []⟩) : AhF (rd1 r) row v z f := by
  obtain ⟨c1, c2, c3, c4, c5, c6, c7, c8, c9, c10⟩ := fcheckfr_zero hc
  obtain ⟨e1, h1⟩ := ahf_number (n := 4) h (by rw [wr_length]; rfl)
  have hcode : (rnumberS r 4).2.Reader.Code = 0 := h1.1.2.1
  have hrf := h.2
  obtain ⟨s1, s2, s3, s4⟩ := size_code c8 c10
  have hfc : fcode f = (if f.Remote = false then sindexS fsizes (f.Data.length : Int) else f.Size).toNat := rfl
  have h16 : fcode f < 16 := by rw [hfc]; split <;> omega
  rw [val_wr, Nat.mod_eq_of_lt (show fcode f < 2 ^ 4 from h16)] at e1
  have hFf : r.f.Fast = f.Fast := by rw [hrf]
  have hRf : r.f.Remote = f.Remote := by rw [hrf]
  unfold rd1
  rw [if_neg (by rw [hcode]; simp), e1, hFf, hRf]
  have h8 : ¬ (f.Fast = false ∧ 8 < ((fcode f : Nat) : Int)) := by
    rintro ⟨a, b⟩
    have := s4 (c9 a)
    rw [hfc] at b
    split at b <;> omega
  rw [if_neg h8]
  cases hR : f.Remote with
  | true =>
    rw [if_pos rfl]
    obtain ⟨_, d0⟩ := c4 hR
    have hdn : f.Data = [] := List.eq_nil_of_length_eq_zero d0
    rw [hdn] at h1
    refine ⟨h1.1, ?_⟩
    show (⟨r.f.ID, r.f.Long, f.Fast, true, ((fcode f : Nat) : Int), r.f.Data⟩ : Frame) = f
    rw [hrf]
    have : ((fcode f : Nat) : Int) = f.Size := by rw [hfc, hR, if_neg (by simp)]; omega
    rw [this, ← hR]
    obtain ⟨f1, f2, f3, f4, f5, f6⟩ := f
    show (⟨f1, f2, f3, f4, f5, []⟩ : Frame) = _
    rw [show f6 = [] from hdn]
  | false =>
    rw [if_neg (by simp)]
    have hcx : (fcode f) = (sindexS fsizes (f.Data.length : Int)).toNat := by rw [hfc, if_pos hR]
    rw [Int.toNat_natCast, hcx, s3, Option.getD_some]
    obtain ⟨e2, h2⟩ := ahf_take (n := 8 * (f.Data.length : Int)) h1 (by rw [ofb_length]; omega)
    rw [e2, bbytes_ofb hd c8]
    refine ⟨h2.1, ?_⟩
    show (⟨r.f.ID, r.f.Long, f.Fast, false, r.f.Size, f.Data⟩ : Frame) = f
    rw [hrf, ← hR]
    have := c7 hR
    obtain ⟨f1, f2, f3, f4, f5, f6⟩ := f
    show (⟨f1, f2, f3, f4, 0, f6⟩ : Frame) = _
    rw [show f5 = 0 from this]
theorem ah_at {r : Reader} {row z : List UInt8} {p : List UInt8} (h : Ah r row [] z) (hrow : row = p ++ z) : r.At = (p.length : Int) ∧ r.Row.take r.At.toNat = p := by
  obtain ⟨hR, _, hr, hd⟩ := h
  have hd : r.Row.drop r.At.toNat = z := hd
  have e : r.At = (p.length : Int) := by
    have := congrArg List.length hd
    rw [List.length_drop, hr, hrow, List.length_append] at this
    have h1 := hR.1
    have h2 := hR.2.1
    rw [hr, hrow, List.length_append] at h2
    omega
  refine ⟨e, ?_⟩
  rw [e, hr, hrow, Int.toNat_natCast, List.take_left' rfl]
theorem plain_fwd {r : FReader} {row t z : List UInt8} {f : Frame} (h : AhF r row [] (t ++ z) f) (ht : 0 < t.length) : (rplainFS r t.length).1 = t ∧ AhF (rplainFS r t.length).2 row [] z f := by
  obtain ⟨⟨hR, hc, hr, hd⟩, hf⟩ := h
  have hd : r.Reader.Row.drop r.Reader.At.toNat = t ++ z := hd
  have hl := congrArg List.length hd
  rw [List.length_drop, List.length_append] at hl
  obtain ⟨a0, a1, a2, a3, a4, a5⟩ := hR
  have e : rplainS r.Reader t.length = (t, ⟨r.Reader.Row, r.Reader.At + t.length, r.Reader.Code, r.Reader.c⟩) := by
    unfold rplainS
    rw [if_neg (by omega), if_neg (by rw [hc]; simp), if_pos (by omega), hd, Int.toNat_natCast, List.take_left' rfl]
  unfold rplainFS
  rw [e]
  refine ⟨rfl, ⟨⟨by (try dsimp only); omega, by (try dsimp only); omega, a2, a3, a4, a5⟩, hc, hr, ?_⟩, hf⟩
  show r.Reader.Row.drop (r.Reader.At + t.length).toNat = z
  have e2 : (r.Reader.At + (t.length : Int)).toNat = r.Reader.At.toNat + t.length := by omega
  rw [e2, ← List.drop_drop, hd, List.drop_left' rfl]
theorem rd3_fwd {r : FReader} {row t z : List UInt8} {f : Frame} (h : AhF r row [] (t ++ z) f) (ht : t.length = 10) (h1 : (t.take 1 ++ [49]) ++ t.drop 2 = tail10) : AhF (rd3 r) row [] z f := by
  obtain ⟨e, k⟩ := plain_fwd h (by omega)
  rw [ht] at e k
  have e : (rplainFS r 10).1 = t := e
  have k : AhF (rplainFS r 10).2 row [] z f := k
  unfold rd3
  rw [e, if_neg (fun hc => hc.2 h1)]
  exact k
theorem flip_ne8 (b : UInt8) : flip b ≠ b := fun e => flip_ne b (by rw [e])
theorem fixF_alt : ∀ (b : List UInt8) (k : Nat) (a : UInt8) (i : Nat), i < (fixF k a b).length → ((if k % 4 = 0 then 0 else k % 4 + 1) + i) % 5 = 0 → (fixF k a b)[i]? ≠ (if i = 0 then some a else (fixF k a b)[i - 1]?) := by
  intro b
  induction b with
  | nil => intro k a i h; simp [fixF] at h
  | cons c r ih =>
    intro k a i h h5
    rw [fixF] at h ⊢
    by_cases hk : k % 4 = 0
    · rw [if_pos hk] at h5 h ⊢
      match i with
      | 0 =>
        show some (flip a) ≠ some a
        intro e
        exact flip_ne8 a (Option.some.inj e)
      | 1 => omega
      | j + 2 =>
        have := ih (k + 1) c j (by simp at h; omega) (by rw [if_neg (by omega)]; omega)
        rw [if_neg (by omega)]
        show (fixF (k + 1) c r)[j]? ≠ (flip a :: c :: fixF (k + 1) c r)[j + 1]?
        cases j with
        | zero => rw [if_pos rfl] at this; exact this
        | succ j => rw [if_neg (by omega)] at this; exact this
    · rw [if_neg hk] at h5 h ⊢
      cases i with
      | zero => omega
      | succ j =>
        have := ih (k + 1) c j (by simp at h; omega) (by split <;> omega)
        rw [if_neg (by omega)]
        show (fixF (k + 1) c r)[j]? ≠ (c :: fixF (k + 1) c r)[j]?
        cases j with
        | zero => rw [if_pos rfl] at this; exact this
        | succ j => rw [if_neg (by omega)] at this; exact this
theorem fixF_good (b : List UInt8) (a : UInt8) : badN a (fixF 0 a b) (fixF 0 a b).length = false := by
  unfold badN
  rw [List.any_eq_false]
  intro i hi
  rw [List.mem_range] at hi
  unfold stAt
  by_cases h5 : i % 5 = 0
  · have := fixF_alt b 0 a i hi (by rw [if_pos rfl]; omega)
    rw [decide_eq_true h5, Bool.true_and]
    intro e
    exact this (eq_of_beq e)
  · rw [decide_eq_false h5]
    simp
theorem fixF_length : ∀ (b : List UInt8) (k : Nat) (a : UInt8), (fixF k a b).length + (k % 4 + 3) / 4 = b.length + (b.length + k % 4 + 3) / 4 := by
  intro b
  induction b with
  | nil => intro k a; simp [fixF]
  | cons c r ih =>
    intro k a
    rw [fixF]
    have := ih (k + 1) c
    split <;> simp only [List.length_cons] <;> omega
theorem lastB_bitF {p : List UInt8} (h : isRow p = true) : isBit (lastB p) = true := by
  unfold lastB
  rw [List.getLastD_eq_getLast?]
  cases e : p.getLast? with
  | none => rfl
  | some c => exact List.all_eq_true.1 h c (List.mem_of_getLast? e)
theorem fkind_is (f : Frame) : isKind (fkind f) = true := by
  unfold fkind
  cases f.Fast
  · rfl
  · cases h : decide ((f.Data.length : Int) ≤ 16) <;> simp [isKind]
theorem fastEnd_eqF {p : List UInt8} (hp : isRow p = true) (hl : p.length ≤ 900) (n : Nat) {kind : Int} (hk : isKind kind = true) : fastEnd p n kind = fixF 0 (lastB p) (cnt4 (p.length - n) ++ sumR kind (p ++ cnt4 (p.length - n))) := by
  obtain ⟨h1, h2⟩ := cnt4_ok (p.length - n)
  have h3 : csumS kind (p ++ cnt4 (p.length - n)) = (sumR kind (p ++ cnt4 (p.length - n)), 0) := csumS_row hk (by rw [List.length_append]; omega) (by rw [isRow_append, hp, h2]; rfl)
  have h4 := csumS_bound kind (p ++ cnt4 (p.length - n))
  rw [h3] at h4
  unfold fastEnd sfixedS
  rw [h3]
  dsimp only
  have hb := isBit_or (lastB_bitF hp)
  rw [if_neg (by rw [(bcheck_zero _).2 ⟨by rw [List.length_append]; have := h4.1; (try dsimp only at this); omega, by rw [isRow_append, h2]; exact h4.2⟩]; simp), if_neg (by rcases hb with e | e <;> rw [e] <;> decide)]
  dsimp only
  have : UInt8.ofNat ((lastB p).toNat : Int).toNat = lastB p := by rcases hb with e | e <;> rw [e] <;> rfl
  rw [this]
theorem rd2_slow {r : FReader} {row z : List UInt8} {f : Frame} (hf : f.Fast = false) (hl : (fheadS f).length ≤ 1000) (h : AhF r row (sumR 0 (fheadS f) ++ []) z f) : AhF (rd2 r) row [] z f := by
  have hrf := h.2
  obtain ⟨e, k⟩ := ahf_take (n := 15) h (by show (15 : Int) = ((wr _ _).length : Int); rw [wr_length]; rfl)
  unfold rd2
  rw [hrf, if_neg (by rw [hf]; simp), if_pos h.1.2.1, e, csumS_row rfl hl (fheadS_row f), if_neg (fun hc => hc.2 rfl)]
  exact k
theorem rd2_fast {r : FReader} {row p z : List UInt8} {f : Frame} (hf : f.Fast = true) (hp : isRow p = true) (hl : p.length ≤ 900) (hrow : row = p ++ (fastEnd p (fheadS f).length (fkind f) ++ z)) (h : AhF r row [] (fastEnd p (fheadS f).length (fkind f) ++ z) f) : AhF (rd2 r) row [] z f := by
  have hrf := h.2
  obtain ⟨a1, a2⟩ := ah_at h.1 hrow
  have he := fastEnd_eqF hp hl (fheadS f).length (fkind_is f)
  have hpos : 0 < (fastEnd p (fheadS f).length (fkind f)).length := by
    have := fixF_length (cnt4 (p.length - (fheadS f).length) ++ sumR (fkind f) (p ++ cnt4 (p.length - (fheadS f).length))) 0 (lastB p)
    rw [← he, List.length_append, (cnt4_ok _).1] at this
    omega
  obtain ⟨e, k⟩ := plain_fwd h hpos
  unfold rd2 rfastS
  rw [hrf, if_pos hf, if_neg (by rw [h.1.2.1]; simp), a2]
  dsimp only
  rw [e]
  have hb : badN (lastB p) (fastEnd p (fheadS f).length (fkind f)) (fastEnd p (fheadS f).length (fkind f)).length = false := by
    rw [he]
    exact fixF_good _ _
  rw [hb]
  rw [if_neg (show ¬ (false = true) by simp)]
  rw [if_neg (fun hc => hc.2 rfl)]
  exact k
def coreF (f : Frame) : List UInt8 := if f.Fast = false then putF ⟨0, 0⟩ (fheadS f ++ sumR 0 (fheadS f)) else putF ⟨0, 0⟩ (fheadS f) ++ fastEnd (putF ⟨0, 0⟩ (fheadS f)) (fheadS f).length (fkind f)
theorem bits_core {f : Frame} (hc : fcheckfr f = 0) : BitsS f = (coreF f ++ tail10, 0) := by
  obtain ⟨h1, h2⟩ := fhead_short hc
  have hrow := fheadS_row f
  have hsr : isRow (sumR 0 (fheadS f)) = true := wr_row _ _
  have hsl : (sumR 0 (fheadS f)).length = 15 := wr_length _ _
  unfold BitsS coreF
  rw [if_neg (fun h => h hc)]
  cases hF : f.Fast with
  | false =>
    rw [if_pos rfl, if_pos rfl, sputS_row (by rw [isRow_append, hrow, hsr]; rfl) (by rw [List.length_append]; omega)]
  | true =>
    rw [if_neg (by simp), if_neg (by simp), sputS_row hrow (by omega)]
theorem core_short {f : Frame} (hc : fcheckfr f = 0) : (coreF f).length ≤ 750 ∧ isRow (coreF f) = true := by
  obtain ⟨h1, h2⟩ := fhead_short hc
  have hrow := fheadS_row f
  have hsr : isRow (sumR 0 (fheadS f)) = true := wr_row _ _
  have hsl : (sumR 0 (fheadS f)).length = 15 := wr_length _ _
  obtain ⟨p1, p2⟩ := head_put hc
  unfold coreF
  cases hF : f.Fast with
  | false =>
    rw [if_pos rfl]
    have := (put_len2 (fheadS f ++ sumR 0 (fheadS f)) ⟨0, 0⟩).1
    rw [List.length_append] at this
    have := h2 hF
    exact ⟨by omega, put_row _ (by rw [isRow_append, hrow, hsr]; rfl) _⟩
  | true =>
    rw [if_neg (by simp)]
    have hl := fastEnd_len (putF ⟨0, 0⟩ (fheadS f)) (fheadS f).length (fkind f)
    refine ⟨by rw [List.length_append]; omega, ?_⟩
    rw [isRow_append, p2, fastEnd_eqF p2 (by omega) _ (fkind_is f)]
    have hs := (cnt4_ok ((putF ⟨0, 0⟩ (fheadS f)).length - (fheadS f).length)).2
    have hs2 : ∀ (i : Int) (b : List UInt8), isRow (sumR i b) = true := fun i b => wr_row _ _
    have hfr : ∀ (b : List UInt8) (k : Nat) (a : UInt8), isRow b = true → isRow (fixF k a b) = true := by
      intro b
      induction b with
      | nil => intro k a _; rfl
      | cons c r ih =>
        intro k a h
        rw [isRow_cons, Bool.and_eq_true] at h
        rw [fixF]
        split
        · rw [isRow_cons, isRow_cons, isBit_flip, h.1, ih _ _ h.2]; rfl
        · rw [isRow_cons, h.1, ih _ _ h.2]; rfl
    rw [hfr _ _ _ (by rw [isRow_append, hs, hs2]; rfl)]
    rfl
theorem read_fwd {f : Frame} {t z : List UInt8} (hc : fcheckfr f = 0) (hd : ∀ x ∈ f.Data, 0 ≤ x ∧ x ≤ 255) (ht : t.length = 10) (h1 : (t.take 1 ++ [49]) ++ t.drop 2 = tail10) (hb : bcheckS (coreF f ++ (t ++ z)) = 0) : readS (coreF f ++ (t ++ z)) = (f, (((coreF f).length + 10 : Nat) : Int), 0) := by
  obtain ⟨hbl, hbr⟩ := (bcheck_zero _).1 hb
  obtain ⟨l1, l2⟩ := fhead_short hc
  obtain ⟨p1, p2⟩ := head_put hc
  have h0 : ∀ b : List UInt8, bcheckS b = 0 → Rok (rstart b).Reader := fun b h => by
    obtain ⟨hl, hr⟩ := (bcheck_zero b).1 h
    exact ⟨Int.le_refl 0, by show (0 : Int) ≤ (b.length : Int); omega, by show b.length ≤ 1000000; omega, hr, Int.le_refl 0, by show (0 : Int) ≤ 4; omega⟩
  have hR := h0 _ hb
  have key : AhF (rd2 (rd1 (rnamesS (rstart (coreF f ++ (t ++ z)))))) (coreF f ++ (t ++ z)) [] (t ++ z) f := by
    cases hF : f.Fast with
    | false =>
      have hco : coreF f = putF ⟨0, 0⟩ (fheadS f ++ sumR 0 (fheadS f)) := by unfold coreF; rw [if_pos hF]
      generalize hrow : coreF f ++ (t ++ z) = row at *
      have hs : AhF (rstart row) row ((([48] ++ fnameS f) ++ fctl f) ++ (wr 4 (fcode f) ++ (ofb f.Data ++ (sumR 0 (fheadS f) ++ [])))) (t ++ z) f0 := by
        refine ⟨⟨hR, rfl, rfl, ?_⟩, rfl⟩
        show row = putF ⟨0, 0⟩ _ ++ (t ++ z)
        rw [← hrow, hco]
        congr 2
        show (((([48] ++ fnameS f) ++ fctl f) ++ wr 4 (fcode f)) ++ ofb f.Data) ++ _ = _
        simp
      exact rd2_slow hF (by omega) (rd1_fwd hc hd (names_fwd hc hs))
    | true =>
      have hco : coreF f = putF ⟨0, 0⟩ (fheadS f) ++ fastEnd (putF ⟨0, 0⟩ (fheadS f)) (fheadS f).length (fkind f) := by unfold coreF; rw [if_neg (by rw [hF]; simp)]
      have hrow2 : coreF f ++ (t ++ z) = putF ⟨0, 0⟩ (fheadS f) ++ (fastEnd (putF ⟨0, 0⟩ (fheadS f)) (fheadS f).length (fkind f) ++ (t ++ z)) := by rw [hco, List.append_assoc]
      generalize hrow : coreF f ++ (t ++ z) = row at *
      have hs : AhF (rstart row) row ((([48] ++ fnameS f) ++ fctl f) ++ (wr 4 (fcode f) ++ (ofb f.Data ++ []))) (fastEnd (putF ⟨0, 0⟩ (fheadS f)) (fheadS f).length (fkind f) ++ (t ++ z)) f0 := by
        refine ⟨⟨hR, rfl, rfl, ?_⟩, rfl⟩
        show row = putF ⟨0, 0⟩ _ ++ _
        have e : fheadS f = (([48] ++ fnameS f) ++ fctl f) ++ (wr 4 (fcode f) ++ (ofb f.Data ++ [])) := by
          show (((([48] ++ fnameS f) ++ fctl f) ++ wr 4 (fcode f)) ++ ofb f.Data) = _
          simp
        rw [← e]
        exact hrow2
      exact rd2_fast hF p2 (by omega) hrow2 (rd1_fwd hc hd (names_fwd hc hs))
  have k3 := rd3_fwd key ht h1
  have hA := ah_at (p := coreF f ++ t) k3.1 (by rw [List.append_assoc])
  have hk : (readR (coreF f ++ (t ++ z))).Reader.Code = 0 := k3.1.2.1
  have hk2 : (readR (coreF f ++ (t ++ z))).f = f := k3.2
  have hk3 : (readR (coreF f ++ (t ++ z))).Reader.At = (((coreF f ++ t).length : Nat) : Int) := hA.1
  unfold readS
  rw [if_neg (by rw [hb]; simp), if_neg (by rw [hk]; simp), hk2, hk3, List.length_append, ht]
theorem tail_ok : (tail10.take 1 ++ [49]) ++ tail10.drop 2 = tail10 := rfl
theorem read_bits {f : Frame} {z : List UInt8} (hc : fcheckfr f = 0) (hd : ∀ x ∈ f.Data, 0 ≤ x ∧ x ≤ 255) (hz : isRow z = true) (hl : (BitsS f).1.length + z.length ≤ 1000) : readS ((BitsS f).1 ++ z) = (f, (((BitsS f).1.length : Nat) : Int), 0) := by
  rw [bits_core hc] at hl ⊢
  dsimp only at hl ⊢
  have hr := (core_short hc).2
  have e : coreF f ++ tail10 ++ z = coreF f ++ (tail10 ++ z) := List.append_assoc ..
  rw [e, read_fwd hc hd rfl tail_ok]
  · rw [List.length_append]; rfl
  · rw [bcheck_zero, ← e]
    exact ⟨by rw [List.length_append]; exact hl, by rw [isRow_append, isRow_append, hr, hz]; rfl⟩
theorem bits_ok {f : Frame} (h : (BitsS f).2 = 0) : fcheckfr f = 0 := by
  unfold BitsS at h
  by_cases e : fcheckfr f = 0
  · exact e
  · rw [if_pos e] at h
    exact absurd h e
theorem read_bits0 {f : Frame} (hc : fcheckfr f = 0) (hd : ∀ x ∈ f.Data, 0 ≤ x ∧ x ≤ 255) : (BitsS f).1.length ≤ 760 ∧ isRow (BitsS f).1 = true ∧ readS (BitsS f).1 = (f, (((BitsS f).1.length : Nat) : Int), 0) := by
  have h1 := core_short hc
  have e : (BitsS f).1 = coreF f ++ tail10 := by rw [bits_core hc]
  have hl : (BitsS f).1.length ≤ 760 := by rw [e, List.length_append]; have : tail10.length = 10 := rfl; omega
  refine ⟨hl, by rw [e, isRow_append, h1.2]; rfl, ?_⟩
  have := read_bits (z := []) hc hd rfl (by rw [List.length_nil]; omega)
  rw [List.append_nil] at this
  exact this
theorem bits_prefix {f g : Frame} (hf : fcheckfr f = 0) (df : ∀ x ∈ f.Data, 0 ≤ x ∧ x ≤ 255) (hg : fcheckfr g = 0) (dg : ∀ x ∈ g.Data, 0 ≤ x ∧ x ≤ 255) (h : (BitsS g).1 <+: (BitsS f).1) : f = g := by
  obtain ⟨z, hz⟩ := h
  obtain ⟨l1, r1, e1⟩ := read_bits0 hf df
  have hzr : isRow z = true := by rw [← hz, isRow_append, Bool.and_eq_true] at r1; exact r1.2
  have hl : (BitsS g).1.length + z.length ≤ 1000 := by rw [← List.length_append, hz]; omega
  have e2 := read_bits hg dg hzr hl
  rw [hz, e1] at e2
  exact congrArg Prod.fst e2
/-- Where two rows differ first. -/
def fd : List UInt8 → List UInt8 → Option Nat
  | x :: a, y :: b => if x = y then (fd a b).map (· + 1) else some 0
  | _, _ => none
theorem fd_self (a : List UInt8) : fd a a = none := by
  induction a with
  | nil => rfl
  | cons x a ih => rw [fd, if_pos rfl, ih]; rfl
theorem fd_none : ∀ (a b : List UInt8), fd a b = none → a <+: b ∨ b <+: a := by
  intro a
  induction a with
  | nil => intro b _; exact .inl (List.nil_prefix)
  | cons x a ih =>
    intro b h
    cases b with
    | nil => exact .inr (List.nil_prefix)
    | cons y b =>
      rw [fd] at h
      by_cases e : x = y
      · subst e
        rw [if_pos rfl, Option.map_eq_none_iff] at h
        rcases ih b h with h1 | h1
        · exact .inl (List.cons_prefix_cons.2 ⟨rfl, h1⟩)
        · exact .inr (List.cons_prefix_cons.2 ⟨rfl, h1⟩)
      · rw [if_neg e] at h; cases h
theorem fd_some : ∀ (a b : List UInt8) (d : Nat), fd a b = some d → (∃ x y, a[d]? = some x ∧ b[d]? = some y ∧ x ≠ y) ∧ ∀ j, j < d → a[j]? = b[j]? := by
  intro a
  induction a with
  | nil => intro b d h; rw [fd] at h; cases h; simp
  | cons x a ih =>
    intro b d h
    cases b with
    | nil => rw [fd] at h; cases h; simp
    | cons y b =>
      rw [fd] at h
      by_cases e : x = y
      · subst e
        rw [if_pos rfl, Option.map_eq_some_iff] at h
        obtain ⟨d', hd, rfl⟩ := h
        obtain ⟨h1, h2⟩ := ih b d' hd
        refine ⟨h1, fun j hj => ?_⟩
        cases j with
        | zero => rfl
        | succ j => exact h2 j (by omega)
      · rw [if_neg e] at h
        cases h
        exact ⟨⟨x, y, rfl, rfl, e⟩, fun j hj => absurd hj (Nat.not_lt_zero _)⟩
theorem fd_comm : ∀ (a b : List UInt8), fd a b = fd b a := by
  intro a
  induction a with
  | nil => intro b; cases b <;> rfl
  | cons x a ih =>
    intro b
    cases b with
    | nil => rfl
    | cons y b =>
      rw [fd, fd, ih b]
      by_cases e : x = y
      · rw [if_pos e, if_pos e.symm]
      · rw [if_neg e, if_neg (fun h => e h.symm)]
/-- The order of rows, bit by bit. -/
def lexle : List UInt8 → List UInt8 → Bool
  | [], _ => true
  | _ :: _, [] => false
  | x :: a, y :: b => if x = y then lexle a b else decide (x < y)
theorem lexle_refl (a : List UInt8) : lexle a a = true := by
  induction a with
  | nil => rfl
  | cons x a ih => rw [lexle, if_pos rfl, ih]
theorem lexle_total : ∀ a b : List UInt8, lexle a b = true ∨ lexle b a = true := by
  intro a
  induction a with
  | nil => intro b; exact .inl rfl
  | cons x a ih =>
    intro b
    cases b with
    | nil => exact .inr rfl
    | cons y b =>
      rw [lexle, lexle]
      by_cases e : x = y
      · rw [if_pos e, if_pos e.symm]; exact ih b
      · rw [if_neg e, if_neg (fun h => e h.symm), decide_eq_true_eq, decide_eq_true_eq]
        have : x.toNat ≠ y.toNat := fun h => e (UInt8.toNat_inj.1 h)
        rw [UInt8.lt_iff_toNat_lt, UInt8.lt_iff_toNat_lt]
        omega
theorem lexle_trans : ∀ a b c : List UInt8, lexle a b = true → lexle b c = true → lexle a c = true := by
  intro a
  induction a with
  | nil => intro b c _ _; rfl
  | cons x a ih =>
    intro b c h1 h2
    cases b with
    | nil => cases h1
    | cons y b =>
      cases c with
      | nil => cases h2
      | cons z c =>
        rw [lexle] at h1 h2 ⊢
        by_cases e : x = y
        · subst e
          rw [if_pos rfl] at h1
          by_cases e2 : x = z
          · subst e2
            rw [if_pos rfl] at h2 ⊢
            exact ih b c h1 h2
          · rw [if_neg e2] at h2 ⊢
            exact h2
        · rw [if_neg e, decide_eq_true_eq, UInt8.lt_iff_toNat_lt] at h1
          by_cases e2 : y = z
          · subst e2
            rw [if_neg e, decide_eq_true_eq, UInt8.lt_iff_toNat_lt]
            exact h1
          · rw [if_neg e2, decide_eq_true_eq, UInt8.lt_iff_toNat_lt] at h2
            have e3 : x ≠ z := fun h => by subst h; omega
            rw [if_neg e3, decide_eq_true_eq, UInt8.lt_iff_toNat_lt]
            omega
theorem lexle_fd : ∀ (a b : List UInt8) (d : Nat), lexle a b = true → fd a b = some d → ∃ x y, a[d]? = some x ∧ b[d]? = some y ∧ x.toNat < y.toNat := by
  intro a
  induction a with
  | nil => intro b d _ h; rw [fd] at h; cases h; simp
  | cons x a ih =>
    intro b d h1 h
    cases b with
    | nil => cases h1
    | cons y b =>
      rw [fd] at h
      rw [lexle] at h1
      by_cases e : x = y
      · subst e
        rw [if_pos rfl, Option.map_eq_some_iff] at h
        rw [if_pos rfl] at h1
        obtain ⟨d', hd, rfl⟩ := h
        exact ih b d' h1 hd
      · rw [if_neg e] at h h1
        cases h
        exact ⟨x, y, rfl, rfl, UInt8.lt_iff_toNat_lt.1 (of_decide_eq_true h1)⟩
def minR : List (List UInt8) → List UInt8
  | [] => []
  | [r] => r
  | r :: l => if lexle r (minR l) then r else minR l
theorem minR_spec : ∀ l : List (List UInt8), l ≠ [] → minR l ∈ l ∧ ∀ r ∈ l, lexle (minR l) r = true := by
  intro l
  induction l with
  | nil => intro h; exact absurd rfl h
  | cons r l ih =>
    intro _
    cases l with
    | nil => exact ⟨List.mem_singleton.2 rfl, fun s hs => by rw [List.mem_singleton.1 hs]; exact lexle_refl r⟩
    | cons s l =>
      obtain ⟨h1, h2⟩ := ih (by simp)
      have e : minR (r :: s :: l) = if lexle r (minR (s :: l)) then r else minR (s :: l) := rfl
      rw [e]
      by_cases hc : lexle r (minR (s :: l)) = true
      · rw [if_pos hc]
        refine ⟨List.mem_cons_self .., fun t ht => ?_⟩
        rcases List.mem_cons.1 ht with rfl | ht
        · exact lexle_refl _
        · exact lexle_trans _ _ _ hc (h2 t ht)
      · rw [if_neg hc]
        refine ⟨List.mem_cons_of_mem _ h1, fun t ht => ?_⟩
        rcases List.mem_cons.1 ht with rfl | ht
        · exact (lexle_total _ _).resolve_left hc
        · exact h2 t ht
/-- At which bit a row has given way, so many bits on. -/
def lostAt (best : List UInt8) (i : Nat) (r : List UInt8) : Int := match fd r best with | some d => if d < i then (d : Int) else -1 | none => -1
theorem lostAt_some {best r : List UInt8} {i d : Nat} (h : fd r best = some d) : lostAt best i r = if d < i then (d : Int) else -1 := by unfold lostAt; rw [h]
theorem lostAt_none {best r : List UInt8} {i : Nat} (h : fd r best = none) : lostAt best i r = -1 := by unfold lostAt; rw [h]
theorem lostAt_neg (best : List UInt8) (i : Nat) (r : List UInt8) : lostAt best i r < 0 ↔ lostAt best i r = -1 := by
  unfold lostAt
  split
  · split <;> omega
  · omega
def firstBad : List Frame → Int
  | [] => 0
  | f :: l => if (BitsS f).2 ≠ 0 then (BitsS f).2 else firstBad l
theorem firstBad_at : ∀ (l : List Frame) (k : Nat) (q : Frame), l[k]? = some q → (∀ f ∈ l.take k, (BitsS f).2 = 0) → (BitsS q).2 ≠ 0 → firstBad l = (BitsS q).2 := by
  intro l
  induction l with
  | nil => intro k q h; simp at h
  | cons f l ih =>
    intro k q h hz hb
    cases k with
    | zero => cases h; rw [firstBad, if_pos hb]
    | succ k =>
      have := hz f (by simp)
      rw [firstBad, if_neg (fun h => h this)]
      exact ih k q h (fun g hg => hz g (by simp [hg])) hb
theorem firstBad_zero : ∀ l : List Frame, (∀ f ∈ l, (BitsS f).2 = 0) ↔ firstBad l = 0 := by
  intro l
  induction l with
  | nil => simp [firstBad]
  | cons f l ih =>
    rw [firstBad]
    constructor
    · intro h
      rw [if_neg (fun h2 => h2 (h f (List.mem_cons_self ..)))]
      exact ih.1 fun g hg => h g (List.mem_cons_of_mem _ hg)
    · intro h
      by_cases e : (BitsS f).2 ≠ 0
      · rw [if_pos e] at h; exact absurd h e
      · rw [if_neg e] at h
        intro g hg
        rcases List.mem_cons.1 hg with rfl | hg
        · simpa using e
        · exact ih.2 h g hg
def rowsOf (l : List Frame) : List (List UInt8) := l.map fun f => (BitsS f).1
def lostL (rows : List (List UInt8)) : List Int := rows.map (lostAt (minR rows) (minR rows).length)
def sendS (l : List Frame) : List UInt8 × Int × List Int × Int :=
  if 6 < l.length then ([], 0, [], 2) else if l.length = 0 then ([], 0, [], 8) else if firstBad l ≠ 0 then ([], 0, [], firstBad l) else
  if 1 < (lostL (rowsOf l)).count (-1) then ([], 0, [], 9) else (minR (rowsOf l), sidx (fun q => q == (-1 : Int)) (lostL (rowsOf l)), lostL (rowsOf l), 0)
/-- Rows of which none begins with another one. -/
def Apart (rows : List (List UInt8)) : Prop := ∀ r ∈ rows, ∀ s ∈ rows, r <+: s → r = s
theorem alive_row {rows : List (List UInt8)} (ha : Apart rows) {best r : List UInt8} (hb : best ∈ rows) (hmin : ∀ s ∈ rows, lexle best s = true) (hr : r ∈ rows) {i : Nat} (hl : lostAt best i r < 0) (hi : i < r.length) :
    i < best.length ∧ ∀ c x, best[i]? = some c → r[i]? = some x → c.toNat ≤ x.toNat ∧ (x ≠ c → fd r best = some i) ∧ (x = c → lostAt best (i + 1) r = -1) := by
  cases hf : fd r best with
  | none =>
    have e : r = best := by
      rcases fd_none _ _ hf with h | h
      · exact ha r hr best hb h
      · exact (ha best hb r hr h).symm
    subst e
    refine ⟨hi, fun c x h1 h2 => ?_⟩
    rw [h1] at h2
    cases h2
    exact ⟨Nat.le_refl _, fun h => absurd rfl h, fun _ => lostAt_none (fd_self _)⟩
  | some d =>
    rw [lostAt_some hf] at hl
    have hd : i ≤ d := by
      split at hl <;> omega
    obtain ⟨⟨x, y, h1, h2, h3⟩, h4⟩ := fd_some _ _ _ hf
    have hyl := (List.getElem?_eq_some_iff.1 h2).1
    refine ⟨by omega, fun c x' hc hx => ?_⟩
    rcases Nat.lt_or_ge i d with hid | hid
    · have := h4 i hid
      rw [hc, hx] at this
      cases this
      refine ⟨Nat.le_refl _, fun h => absurd rfl h, fun _ => ?_⟩
      rw [lostAt_some hf, if_neg (by omega)]
    · have : i = d := by omega
      subst this
      rw [h1] at hx; cases hx
      rw [h2] at hc; cases hc
      rw [fd_comm] at hf
      obtain ⟨a, b, g1, g2, g3⟩ := lexle_fd _ _ _ (hmin r hr) hf
      rw [h2] at g1; cases g1
      rw [h1] at g2; cases g2
      exact ⟨by omega, fun _ => rfl, fun h => absurd h h3⟩
theorem dead_row {best r : List UInt8} {i : Nat} (h : ¬ (lostAt best i r < 0 ∧ i < r.length)) : lostAt best (i + 1) r = lostAt best i r := by
  cases hf : fd r best with
  | none => rw [lostAt_none hf, lostAt_none hf]
  | some d =>
    rw [lostAt_some hf, lostAt_some hf] at *
    obtain ⟨⟨x, y, h1, h2, h3⟩, _⟩ := fd_some _ _ _ hf
    have hxl := (List.getElem?_eq_some_iff.1 h1).1
    by_cases hd : d < i
    · rw [if_pos hd, if_pos (by omega)]
    · rw [if_neg hd] at h ⊢
      rw [if_neg (by omega)]
theorem lostAt_end {best r : List UInt8} {i : Nat} (h : best.length ≤ i) : lostAt best i r = lostAt best best.length r := by
  cases hf : fd r best with
  | none => rw [lostAt_none hf, lostAt_none hf]
  | some d =>
    obtain ⟨⟨x, y, h1, h2, h3⟩, _⟩ := fd_some _ _ _ hf
    have hyl := (List.getElem?_eq_some_iff.1 h2).1
    rw [lostAt_some hf, lostAt_some hf, if_pos (by omega), if_pos hyl]
/-- The senders' state: row by row, how far each has gone. -/
def St (rows : List (List UInt8)) (best : List UInt8) (p : Nat → Nat) (z : List Sender) : Prop := z.length = rows.length ∧ ∀ (k : Nat) (r : List UInt8), rows[k]? = some r → z[k]? = some (⟨r, lostAt best (p k) r⟩ : Sender)
theorem St.get {rows : List (List UInt8)} {best : List UInt8} {p : Nat → Nat} {z : List Sender} (h : St rows best p z) {k : Nat} {q : Sender} (hq : z[k]? = some q) : ∃ r, rows[k]? = some r ∧ r ∈ rows ∧ q = (⟨r, lostAt best (p k) r⟩ : Sender) := by
  have hk : k < rows.length := by rw [← h.1]; exact (List.getElem?_eq_some_iff.1 hq).1
  have hr := List.getElem?_eq_getElem hk
  have := h.2 k _ hr
  rw [hq] at this
  exact ⟨_, hr, List.getElem_mem hk, Option.some.inj this⟩
theorem sidx_snoc_ne {l : List Int} {d : Int} (h : d ≠ -1) : sidx (fun q => q == (-1 : Int)) (l ++ [d]) = sidx (fun q => q == (-1 : Int)) l := by
  have e : (d == (-1 : Int)) = false := by simpa using h
  unfold sidx
  rw [List.findIdx?_append]
  cases hh : l.findIdx? (fun q => q == (-1 : Int)) with
  | some i => rfl
  | none =>
    have : ([d] : List Int).findIdx? (fun q => q == (-1 : Int)) = none := by simp [List.findIdx?_cons, e]
    rw [this]
    rfl
theorem sidx_neg {l : List Int} (h : sidx (fun q => q == (-1 : Int)) l < 0) : (-1 : Int) ∉ l := by
  intro hm
  have := sidx_ge (fun q => q == (-1 : Int)) l
  rw [decide_eq_false (by omega)] at this
  rw [eq_comm, List.any_eq_false] at this
  exact this _ hm rfl
theorem sidx_snoc {l : List Int} (h : (-1 : Int) ∉ l) : sidx (fun q => q == (-1 : Int)) (l ++ [-1]) = (l.length : Int) := by
  refine sidx_at _ _ l.length (-1) (by simp) rfl fun j x hj hx => ?_
  rw [List.getElem?_append_left hj] at hx
  have := List.mem_of_getElem? hx
  cases e : (x == (-1 : Int))
  · rfl
  · have : x = -1 := by simpa using e
    subst this
    exact absurd (List.mem_of_getElem? hx) h

/-- The last loop. -/
theorem send_end {z : List Sender} {L : List Int} {n : Nat} {bx : List UInt8} {K : ((List UInt8) × Int × (List Int) × Int) → Prop} (hn : z.length = n) (hz : ∀ (k : Nat) (q : Sender), z[k]? = some q → L[k]? = some q.lost) (hL : L.length = n) (h6 : n ≤ 6) (hneg : ∀ d ∈ L, d < 0 → d = -1)
    (hK1 : 1 < L.count (-1) → K ([], 0, ([] : List Int), 9)) (hK2 : ¬ 1 < L.count (-1) → K (bx, sidx (fun q => q == (-1 : Int)) L, L, 0)) :
    (∃ inv394 : Int → (List Int) → Int → Prop, ∃ mu394 : Int → (List Int) → Int → Nat, inv394 (-1) ([] : List Int) 0 ∧
                (∀ (x3 : Int) (x4v : List Int) (x126 : Int), inv394 x3 x4v x126 →
                (((decide (x126 < (z.length : Int))) = true →
                  ((0 ≤ x126 ∧ x126 < (z.length : Int)) ∧
                  (∀ q424, z[x126.toNat]? = some q424 →
                  (∃ inv443 : Int → (List Int) → Prop,
                  (((decide (q424.lost ≥ 0)) = true →
                    (inv443 x3 x4v)) ∧
                  ((decide (q424.lost ≥ 0)) = false →
                    (((decide (x3 ≥ 0)) = true →
                      (K ([], 0, ([] : List Int), 9))) ∧
                    ((decide (x3 ≥ 0)) = false →
                      (inv443 x126 x4v))))) ∧
                  (∀ (x3v : Int) (x4vv : List Int), inv443 x3v x4vv →
                    (((x4vv.length + 1) * 8 ≤ 140737488355328) ∧
                    (inv394 x3v (x4vv ++ [q424.lost]) (w64 (x126 + 1)) ∧ mu394 x3v (x4vv ++ [q424.lost]) (w64 (x126 + 1)) < mu394 x3 x4v x126))))))) ∧
                ((decide (x126 < (z.length : Int))) = false →
                  (K (bx, x3, x4v, 0)))))) := by
  refine ⟨fun x3 x4 x => ∃ k : Nat, x = k ∧ k ≤ n ∧ x4 = L.take k ∧ x3 = sidx (fun q => q == (-1 : Int)) (L.take k) ∧ (L.take k).count (-1) ≤ 1, fun _ _ x => n - x.toNat, ⟨0, rfl, by omega, by simp, by simp [sidx], by simp⟩, ?_⟩
  rintro x3 x4 _ ⟨k, rfl, hk, rfl, hx3, hcnt⟩
  refine ⟨fun h1 => ?_, fun h1 => ?_⟩
  · have hkn : k < n := by have := of_decide_eq_true h1; omega
    refine ⟨by omega, fun q hq => ?_⟩
    rw [Int.toNat_natCast] at hq
    have hLk := hz k q hq
    have htk := take_next L k _ hLk
    have hmem := List.mem_of_getElem? hLk
    refine ⟨fun y3 y4 => y4 = L.take k ∧ y3 = sidx (fun q => q == (-1 : Int)) (L.take (k + 1)) ∧ (L.take (k + 1)).count (-1) ≤ 1, ⟨fun h2 => ?_, fun h2 => ⟨fun h3 => ?_, fun h3 => ?_⟩⟩, ?_⟩
    · have h2 : q.lost ≠ -1 := by have := of_decide_eq_true h2; omega
      rw [htk, sidx_snoc_ne h2]
      refine ⟨rfl, hx3, ?_⟩
      rw [List.count_append, List.count_singleton]
      have : (q.lost == (-1 : Int)) = false := by simpa using h2
      rw [this]
      simpa using hcnt
    · have h2 : q.lost = -1 := hneg _ hmem (by have := of_decide_eq_false h2; omega)
      have h3 := of_decide_eq_true h3
      refine hK1 ?_
      have hm : (-1 : Int) ∈ L.take k := by
        have := sidx_ge (fun q => q == (-1 : Int)) (L.take k)
        rw [← hx3, decide_eq_true h3] at this
        obtain ⟨y, hy, hy2⟩ := List.any_eq_true.1 this.symm
        have : y = -1 := by simpa using hy2
        rwa [this] at hy
      have hc1 := List.count_pos_iff.2 hm
      have hsub := List.Sublist.count_le (-1 : Int) (List.take_sublist (k + 1) L)
      rw [htk, List.count_append, h2] at hsub
      simp at hsub
      omega
    · have h2 : q.lost = -1 := hneg _ hmem (by have := of_decide_eq_false h2; omega)
      have h3 := of_decide_eq_false h3
      have hnm : (-1 : Int) ∉ L.take k := sidx_neg (by rw [← hx3]; omega)
      rw [htk, h2, sidx_snoc hnm]
      refine ⟨rfl, by rw [List.length_take]; omega, ?_⟩
      rw [List.count_append, List.count_eq_zero.2 hnm]
      simp
    · rintro y3 y4 ⟨rfl, h3, h4⟩
      rw [w64_succ k (by omega), ← htk]
      exact ⟨by rw [List.length_take]; omega, ⟨k + 1, rfl, by omega, rfl, h3, h4⟩, by (try dsimp only); omega⟩
  · have hkn : k = n := by have := of_decide_eq_false h1; omega
    subst hkn
    rw [List.take_of_length_le (by omega)] at hx3 hcnt ⊢
    rw [hx3]
    exact hK2 (by omega)
theorem wsend_ok (l : List Frame) (hd : ∀ f ∈ l, ∀ x ∈ f.Data, 0 ≤ x ∧ x ≤ 255) : wsend_vc l (fun r => r = sendS l) := by
  intro _
  refine ⟨fun h1 => ?_, fun h1 => ⟨fun h2 => ?_, fun h2 => ?_⟩⟩
  · have := of_decide_eq_true h1
    unfold sendS
    rw [if_pos (by omega)]
  · have h2 : l.length = 0 := by
      have h2 : (l.length : Int) = 0 := by simpa only [beq_iff_eq] using h2
      omega
    unfold sendS
    rw [if_neg (by omega), if_pos h2]
  have h1 : ¬ 6 < l.length := by have := of_decide_eq_false h1; omega
  have h2 : ¬ l.length = 0 := by
    intro h
    rw [h] at h2
    cases h2
  refine ⟨fun x6 x7 x => ∃ k : Nat, x = k ∧ k ≤ l.length ∧ (∀ f ∈ l.take k, (BitsS f).2 = 0) ∧ x6 = (l.take k).map (fun f => (⟨(BitsS f).1, -1⟩ : Sender)) ∧ 0 ≤ x7 ∧ x7 ≤ 760 ∧ ∀ f ∈ l.take k, ((BitsS f).1.length : Int) ≤ x7, fun _ _ x => l.length - x.toNat, ⟨0, rfl, by omega, by simp, rfl, by omega, by omega, by simp⟩, ?_⟩
  rintro x6 x7 _ ⟨k, rfl, hk, hz, rfl, h70, h76, hlen⟩
  refine ⟨fun h3 => ?_, fun h3 => ?_⟩
  · have hkl : k < l.length := by have := of_decide_eq_true h3; omega
    refine ⟨by omega, fun q hq _ => ?_⟩
    rw [Int.toNat_natCast] at hq
    have hqm := List.mem_of_getElem? hq
    refine ⟨hd q hqm, fun h4 => ?_, fun h4 => ?_⟩
    · have h4 : (BitsS q).2 ≠ 0 := by simpa using h4
      have hfb := firstBad_at l k q hq hz h4
      unfold sendS
      rw [if_neg h1, if_neg h2, if_pos (by rw [hfb]; exact h4), hfb]
    · have h4 : (BitsS q).2 = 0 := by simpa using h4
      have hl := (read_bits0 (bits_ok h4) (hd q hqm)).1
      have htk := take_next l k q hq
      rw [w64_succ k (by omega)]
      refine ⟨by simp; omega, ⟨k + 1, rfl, by omega, ?_, ?_, by omega, by omega, ?_⟩, by (try dsimp only); omega⟩
      · intro f hf
        rw [htk] at hf
        rcases List.mem_append.1 hf with hf | hf
        · exact hz f hf
        · rw [List.mem_singleton.1 hf]; exact h4
      · rw [htk, List.map_append]; rfl
      · intro f hf
        rw [htk] at hf
        rcases List.mem_append.1 hf with hf | hf
        · have := hlen f hf; omega
        · rw [List.mem_singleton.1 hf]; omega
  have hkl : k = l.length := by have := of_decide_eq_false h3; omega
  subst hkl
  rw [List.take_length] at hz hlen ⊢
  have hfb : firstBad l = 0 := (firstBad_zero l).1 hz
  -- the rows, the least one
  have hrl : (rowsOf l).length = l.length := by simp [rowsOf]
  have hmem : ∀ r ∈ rowsOf l, ∃ f ∈ l, (BitsS f).1 = r := fun r hr => by
    obtain ⟨f, hf, e⟩ := List.mem_map.1 hr
    exact ⟨f, hf, e⟩
  have hap : Apart (rowsOf l) := by
    intro r hr s hs hp
    obtain ⟨f, hf, rfl⟩ := hmem r hr
    obtain ⟨g, hg, rfl⟩ := hmem s hs
    rw [bits_prefix (bits_ok (hz g hg)) (hd g hg) (bits_ok (hz f hf)) (hd f hf) hp]
  have hne : rowsOf l ≠ [] := fun h => by rw [h] at hrl; simp at hrl; omega
  obtain ⟨hbm, hmin⟩ := minR_spec _ hne
  have hrow : ∀ r ∈ rowsOf l, isRow r = true ∧ (r.length : Int) ≤ x7 := fun r hr => by
    obtain ⟨f, hf, rfl⟩ := hmem r hr
    exact ⟨(read_bits0 (bits_ok (hz f hf)) (hd f hf)).2.1, hlen f hf⟩
  have hS : sendS l = if 1 < (lostL (rowsOf l)).count (-1) then ([], 0, [], 9) else (minR (rowsOf l), sidx (fun q => q == (-1 : Int)) (lostL (rowsOf l)), lostL (rowsOf l), 0) := by
    unfold sendS
    rw [if_neg h1, if_neg h2, if_neg (by rw [hfb]; simp)]
  have hz0 : (l.map (fun f => (⟨(BitsS f).1, -1⟩ : Sender))).length = (rowsOf l).length ∧ ∀ (k : Nat) (r : List UInt8), (rowsOf l)[k]? = some r → (l.map (fun f => (⟨(BitsS f).1, -1⟩ : Sender)))[k]? = some (⟨r, lostAt (minR (rowsOf l)) 0 r⟩ : Sender) := by
    refine ⟨by simp [rowsOf], fun k r hr => ?_⟩
    unfold rowsOf at hr
    rw [List.getElem?_map] at hr ⊢
    obtain ⟨f, hf, rfl⟩ := Option.map_eq_some_iff.1 hr
    rw [hf]
    have : lostAt (minR (rowsOf l)) 0 (BitsS f).1 = -1 := by
      unfold lostAt
      split
      · rw [if_neg (by omega)]
      · rfl
    rw [Option.map_some, this]
  have hn6 : (rowsOf l).length ≤ 6 := by omega
  have hend : ∀ z : List Sender, St (rowsOf l) (minR (rowsOf l)) (fun _ => (minR (rowsOf l)).length) z → ∀ (k : Nat) (q : Sender), z[k]? = some q → (lostL (rowsOf l))[k]? = some q.lost := by
    intro z hz k q hq
    obtain ⟨r, hr, _, rfl⟩ := hz.get hq
    unfold lostL
    rw [List.getElem?_map, hr]
    rfl
  have hneg : ∀ d ∈ lostL (rowsOf l), d < 0 → d = -1 := by
    intro d hdm hd0
    obtain ⟨r, _, rfl⟩ := List.mem_map.1 hdm
    exact (lostAt_neg _ _ _).1 hd0
  have hLl : (lostL (rowsOf l)).length = (rowsOf l).length := by simp [lostL]
  rw [hS]
  generalize hrows : rowsOf l = rows at *
  generalize hbest : minR rows = best at *
  generalize (l.map (fun f => (⟨(BitsS f).1, -1⟩ : Sender))) = z0 at *
  have hbl : (best.length : Int) ≤ x7 := (hrow best hbm).2
  refine ⟨fun x12 x z => ∃ i : Nat, x = i ∧ i ≤ best.length ∧ bstr x12 = best.take i ∧ x12.length = i ∧ St rows best (fun _ => i) z, fun _ x _ => (x7 - x).toNat, ⟨0, rfl, by omega, rfl, rfl, hz0⟩, ?_⟩
  rintro x12 _ z ⟨i, rfl, hi, hx12, hxl, hst⟩
  have hzl := hst.1
  have hfin : best.length ≤ i → St rows best (fun _ => best.length) z := fun hge => by
    have : i = best.length := by omega
    rw [← this]
    exact hst
  refine ⟨fun h4 => ?_, fun h4 => ?_⟩
  · have h4 : (i : Int) < x7 := of_decide_eq_true h4
    refine ⟨fun y12 z' => i < best.length ∧ bstr y12 = best.take (i + 1) ∧ y12.length = i + 1 ∧ St rows best (fun _ => i + 1) z', ?_, ?_⟩
    · -- the least of what is sent
      refine ⟨fun x14 x15 x => ∃ j : Nat, x = j ∧ j ≤ rows.length ∧ (x15 = true → i < best.length) ∧ (∀ c, best[i]? = some c → (c.toNat : Int) ≤ x14) ∧ (best ∈ rows.take j → i < best.length → x15 = true ∧ ∀ c, best[i]? = some c → x14 = (c.toNat : Int)), fun _ _ x => rows.length - x.toNat, ⟨0, rfl, by omega, (fun h => by cases h), fun c hc => ?_, by simp⟩, ?_⟩
      · have := isBit_or (List.all_eq_true.1 (hrow best hbm).1 c (List.mem_of_getElem? hc))
        rcases this with rfl | rfl <;> decide
      · rintro x14 x15 _ ⟨j, rfl, hj, ha, hb, hcc⟩
        refine ⟨fun h5 => ?_, fun h5 => ⟨fun h6 => ?_, fun h6 => ?_⟩⟩
        · have hjn : j < rows.length := by have := of_decide_eq_true h5; omega
          refine ⟨fun y14 y15 => (y15 = true → i < best.length) ∧ (∀ c, best[i]? = some c → (c.toNat : Int) ≤ y14) ∧ (best ∈ rows.take (j + 1) → i < best.length → y15 = true ∧ ∀ c, best[i]? = some c → y14 = (c.toNat : Int)), ⟨by omega, fun q hq => ?_⟩, ?_⟩
          · rw [Int.toNat_natCast] at hq
            obtain ⟨r, hr, hrm, rfl⟩ := hst.get hq
            have htk := take_next rows j r hr
            refine ⟨fun h7 => ?_, fun h7 => ?_⟩
            · rw [Bool.and_eq_true, decide_eq_true_eq, decide_eq_true_eq] at h7
              obtain ⟨h7, h8⟩ := h7
              have h7 : lostAt best i r < 0 := h7
              have h8 : (i : Int) < (r.length : Int) := h8
              refine ⟨⟨by omega, h8⟩, fun c hc => ?_⟩
              have hc : r[i]? = some c := hc
              obtain ⟨g1, g2⟩ := alive_row hap hbm hmin hrm h7 (by omega)
              refine ⟨fun _ => g1, fun c' hc' => ?_, fun hbt _ => ⟨rfl, fun c' hc' => ?_⟩⟩
              · have := hb c' hc'
                have := (g2 c' c hc' hc).1
                omega
              · have k1 := hb c' hc'
                have k2 := (g2 c' c hc' hc).1
                rw [htk] at hbt
                rcases List.mem_append.1 hbt with hbt | hbt
                · have := (hcc hbt g1).2 c' hc'
                  omega
                · have e := List.mem_singleton.1 hbt
                  subst e
                  rw [hc'] at hc
                  cases hc
                  omega
            · refine ⟨ha, hb, fun hbt hib => ?_⟩
              rw [htk] at hbt
              rcases List.mem_append.1 hbt with hbt | hbt
              · exact hcc hbt hib
              · have e := List.mem_singleton.1 hbt
                subst e
                exfalso
                have h9 : lostAt best i best = -1 := lostAt_none (fd_self _)
                have : ((decide (lostAt best i best < 0)) && (decide ((i : Int) < (best.length : Int)))) = true := by
                  rw [h9, decide_eq_true (by omega : (i : Int) < (best.length : Int))]
                  rfl
                rw [show ((decide (lostAt best i best < 0)) && (decide ((i : Int) < (best.length : Int)))) = false from h7] at this
                cases this
          · rintro y14 y15 ⟨g1, g2, g3⟩
            rw [w64_succ j (by omega)]
            exact ⟨⟨j + 1, rfl, by omega, g1, g2, g3⟩, by (try dsimp only); omega⟩
        · -- none sends any more
          have hjn : j = rows.length := by have := of_decide_eq_false h5; omega
          subst hjn
          rw [List.take_length] at hcc
          have h6 : x15 = false := by simpa using h6
          have hge : best.length ≤ i := by
            rcases Nat.lt_or_ge i best.length with h | h
            · have := (hcc hbm h).1
              rw [h6] at this
              cases this
            · exact h
          refine send_end (K := fun r => r = if 1 < (lostL rows).count (-1) then ([], 0, [], 9) else (best, sidx (fun q => q == (-1 : Int)) (lostL rows), lostL rows, 0)) hzl (hend z (hfin hge)) hLl hn6 hneg (fun h => by rw [if_pos h]) (fun h => ?_)
          rw [if_neg h, hx12, List.take_of_length_le hge]
        · have hjn : j = rows.length := by have := of_decide_eq_false h5; omega
          subst hjn
          rw [List.take_length] at hcc
          have h6 : x15 = true := by simpa using h6
          have hib := ha h6
          have hbi := List.getElem?_eq_getElem hib
          generalize best[i] = c at hbi
          have hx14 := (hcc hbm hib).2 c hbi
          subst hx14
          refine ⟨by omega, ?_⟩
          refine ⟨fun x z' => ∃ j : Nat, x = j ∧ j ≤ rows.length ∧ St rows best (fun k => if k < j then i + 1 else i) z', fun x _ => rows.length - x.toNat, ⟨0, rfl, by omega, ?_⟩, ?_⟩
          · have : (fun k => if k < 0 then i + 1 else i) = fun _ : Nat => i := by funext k; rw [if_neg (Nat.not_lt_zero _)]
            rw [this]
            exact hst
          rintro _ z' ⟨j, rfl, hj, hz'⟩
          refine ⟨fun h7 => ?_, fun h7 => ?_⟩
          · have hjn : j < rows.length := by have := of_decide_eq_true h7; omega
            refine ⟨fun z'' => St rows best (fun k => if k < j + 1 then i + 1 else i) z'', ⟨by rw [hz'.1]; omega, fun q hq => ?_⟩, ?_⟩
            · rw [Int.toNat_natCast] at hq ⊢
              obtain ⟨r, hr, hrm, hqe⟩ := hz'.get hq
              rw [if_neg (Nat.lt_irrefl _)] at hqe
              have hsame : lostAt best (i + 1) r = lostAt best i r → St rows best (fun k => if k < j + 1 then i + 1 else i) z' := fun e => by
                refine ⟨hz'.1, fun k s hs => ?_⟩
                rw [hz'.2 k s hs]
                by_cases hkj : k = j
                · subst hkj
                  rw [hr] at hs
                  cases hs
                  dsimp only
                  rw [if_neg (Nat.lt_irrefl _), if_pos (Nat.lt_succ_self _), e]
                · have : (k < j + 1) ↔ (k < j) := by omega
                  simp only [this]
              subst hqe
              refine ⟨fun h8 => ?_, fun h8 => ?_⟩
              · have h8 : lostAt best i r < 0 := of_decide_eq_true h8
                intro q2 hq2
                rw [hq] at hq2
                cases hq2
                refine ⟨fun h9 => ?_, fun h9 => ?_⟩
                · have h9 : (i : Int) < (r.length : Int) := of_decide_eq_true h9
                  intro q3 hq3
                  rw [hq] at hq3
                  cases hq3
                  refine ⟨⟨by omega, h9⟩, fun x hx => ?_⟩
                  have hx : r[i]? = some x := hx
                  obtain ⟨g1, g2⟩ := alive_row hap hbm hmin hrm h8 (by omega)
                  obtain ⟨k1, k2, k3⟩ := g2 c x hbi hx
                  refine ⟨fun h10 => ?_, fun h10 => ?_⟩
                  · intro q4 hq4
                    rw [hq] at hq4
                    cases hq4
                    have hxc : x ≠ c := fun e => by subst e; simp at h10
                    have hfd := k2 hxc
                    have e1 : lostAt best (i + 1) r = (i : Int) := by rw [lostAt_some hfd, if_pos (by omega)]
                    refine ⟨by rw [List.length_set]; exact hz'.1, fun k s hs => ?_⟩
                    rw [List.getElem?_set]
                    by_cases hkj : j = k
                    · subst hkj
                      rw [hr] at hs
                      cases hs
                      rw [if_pos rfl, if_pos (by rw [hz'.1]; exact hjn)]
                      dsimp only
                      rw [if_pos (Nat.lt_succ_self _), e1]
                    · rw [if_neg hkj, hz'.2 k s hs]
                      have : (k < j + 1) ↔ (k < j) := by omega
                      simp only [this]
                  · have hxc : x = c := by
                      have : (x.toNat : Int) = (c.toNat : Int) := by simpa only [bne_eq_false_iff_eq] using h10
                      exact UInt8.toNat_inj.1 (by omega)
                    exact hsame (by rw [k3 hxc, (lostAt_neg _ _ _).1 h8])
                · have h9 : ¬ (i : Int) < (r.length : Int) := of_decide_eq_false h9
                  exact hsame (dead_row (fun h => by omega))
              · have h8 : ¬ lostAt best i r < 0 := of_decide_eq_false h8
                exact hsame (dead_row (fun h => h8 h.1))
            · intro z'' hz''
              rw [w64_succ j (by omega)]
              exact ⟨⟨j + 1, rfl, by omega, hz''⟩, by (try dsimp only); omega⟩
          · have hjn : j = rows.length := by have := of_decide_eq_false h7; omega
            subst hjn
            refine ⟨hib, ?_, by simp [hxl], hz'.1, fun k s hs => ?_⟩
            · rw [bstr_append, hx12, bstr_one, take_next best i c hbi]
            · have := hz'.2 k s hs
              dsimp only at this
              rw [if_pos (List.getElem?_eq_some_iff.1 hs).1] at this
              exact this
    · rintro y12 z' ⟨g1, g2, g3, g4⟩
      rw [w64_succ i (by omega)]
      exact ⟨⟨i + 1, rfl, by omega, g2, g3, g4⟩, by (try dsimp only); omega⟩
  · have h4 : ¬ (i : Int) < x7 := of_decide_eq_false h4
    have hge : best.length ≤ i := by omega
    refine send_end (K := fun r => r = if 1 < (lostL rows).count (-1) then ([], 0, [], 9) else (best, sidx (fun q => q == (-1 : Int)) (lostL rows), lostL rows, 0)) hzl (hend z (hfin hge)) hLl hn6 hneg (fun h => by rw [if_pos h]) (fun h => ?_)
    rw [if_neg h, hx12, List.take_of_length_le hge]

def ieqS (a b : List Int) : Bool := decide (a = b)
theorem ieq_ok (a b : List Int) : ieq_vc a b (fun r => r = ieqS a b) := by
  intro ha hb
  refine ⟨fun h => ?_, fun h => ?_⟩
  · have h : ¬ (a.length : Int) = (b.length : Int) := by simpa using h
    unfold ieqS
    rw [decide_eq_false]
    intro e
    rw [e] at h
    exact h rfl
  · have h : a.length = b.length := by
      have h : (a.length : Int) = (b.length : Int) := by simpa only [bne_eq_false_iff_eq] using h
      omega
    refine ⟨fun i => ∃ k : Nat, i = k ∧ k ≤ a.length ∧ ∀ (j : Nat) (x y : Int), j < k → a[j]? = some x → b[j]? = some y → x = y, fun i => a.length - i.toNat, ⟨0, rfl, by omega, fun j _ _ hj => absurd hj (Nat.not_lt_zero _)⟩, ?_⟩
    rintro _ ⟨k, rfl, hk, hj⟩
    refine ⟨fun h1 => ?_, fun h1 => ?_⟩
    · have hk : k < a.length := by have := of_decide_eq_true h1; omega
      rw [w64_succ k (by omega)]
      refine ⟨by omega, fun q hq => ⟨by omega, fun p hp => ⟨fun h2 => ?_, fun h2 => ?_⟩⟩⟩
      · unfold ieqS
        rw [decide_eq_false]
        rintro rfl
        rw [hq] at hp
        cases hp
        simp at h2
      · have h2 : q = p := by simpa using h2
        rw [Int.toNat_natCast] at hq hp
        refine ⟨⟨k + 1, rfl, by omega, fun j x y hj1 hx hy => ?_⟩, by (try dsimp only); omega⟩
        rcases Nat.lt_or_ge j k with hc | hc
        · exact hj j x y hc hx hy
        · have : j = k := by omega
          subst this
          rw [hq] at hx
          rw [hp] at hy
          cases hx; cases hy; exact h2
    · have : k = a.length := by have := of_decide_eq_false h1; omega
      subst this
      unfold ieqS
      rw [decide_eq_true]
      exact list_eq_at h fun k x y hx hy => hj k x y (List.getElem?_eq_some_iff.1 hx).1 hx hy

end Go.Proofs.YtmbdcehmeiiaoaaGreatDoor
set_option linter.unusedVariables false
set_option linter.unusedSimpArgs false
namespace Go.Proofs.YtmbdcehmeiiaoaaGreatDoor
open Go.Sy Go.RowKit
def wired_vc  (K : Bool → Prop) : Prop :=
  ((∀ f ∈ ([(⟨6, false, false, false, 0, []⟩ : Frame), (⟨5, false, false, false, 0, []⟩ : Frame)] : List Frame), ∀ x ∈ f.Data, 0 ≤ x ∧ x ≤ 255) ∧
    ((sendS ([(⟨6, false, false, false, 0, []⟩ : Frame), (⟨5, false, false, false, 0, []⟩ : Frame)] : List Frame)).2.2.1.length ≤ 140737488355328 →
    ((∀ x ∈ (⟨5, false, false, false, 0, []⟩ : Frame).Data, 0 ≤ x ∧ x ≤ 255) ∧
    (((((((sendS ([(⟨6, false, false, false, 0, []⟩ : Frame), (⟨5, false, false, false, 0, []⟩ : Frame)] : List Frame)).2.2.2 == 0) && ((BitsS (⟨5, false, false, false, 0, []⟩ : Frame)).2 == 0)) && ((sendS ([(⟨6, false, false, false, 0, []⟩ : Frame), (⟨5, false, false, false, 0, []⟩ : Frame)] : List Frame)).1 == (BitsS (⟨5, false, false, false, 0, []⟩ : Frame)).1)) && ((sendS ([(⟨6, false, false, false, 0, []⟩ : Frame), (⟨5, false, false, false, 0, []⟩ : Frame)] : List Frame)).2.1 == 1)) = true →
      (K (ieqS (sendS ([(⟨6, false, false, false, 0, []⟩ : Frame), (⟨5, false, false, false, 0, []⟩ : Frame)] : List Frame)).2.2.1 ([11, -1] : List Int)))) ∧
    ((((((sendS ([(⟨6, false, false, false, 0, []⟩ : Frame), (⟨5, false, false, false, 0, []⟩ : Frame)] : List Frame)).2.2.2 == 0) && ((BitsS (⟨5, false, false, false, 0, []⟩ : Frame)).2 == 0)) && ((sendS ([(⟨6, false, false, false, 0, []⟩ : Frame), (⟨5, false, false, false, 0, []⟩ : Frame)] : List Frame)).1 == (BitsS (⟨5, false, false, false, 0, []⟩ : Frame)).1)) && ((sendS ([(⟨6, false, false, false, 0, []⟩ : Frame), (⟨5, false, false, false, 0, []⟩ : Frame)] : List Frame)).2.1 == 1)) = false →
      (K false))))))

/-! Pure proofs: no program in sight. -/

end Go.Proofs.YtmbdcehmeiiaoaaGreatDoor
set_option linter.unusedVariables false
set_option linter.unusedSimpArgs false
namespace Go.Proofs.YtmbdcehmeiiaoaaGreatDoor
open Go.Sy Go.RowKit

/-! Pure proofs: no program in sight. -/
theorem wired_ok : wired_vc (fun r => r = true) := by
  refine ⟨by decide, fun _ => ⟨by decide, fun _ => ?_, fun h => ?_⟩⟩
  · show ieqS _ _ = true
    decide +kernel
  · have e : ((((((sendS ([(⟨6, false, false, false, 0, []⟩ : Frame), (⟨5, false, false, false, 0, []⟩ : Frame)] : List Frame)).2.2.2) == 0) && (((BitsS (⟨5, false, false, false, 0, []⟩ : Frame)).2) == 0)) && (((sendS ([(⟨6, false, false, false, 0, []⟩ : Frame), (⟨5, false, false, false, 0, []⟩ : Frame)] : List Frame)).1) == ((BitsS (⟨5, false, false, false, 0, []⟩ : Frame)).1))) && (((sendS ([(⟨6, false, false, false, 0, []⟩ : Frame), (⟨5, false, false, false, 0, []⟩ : Frame)] : List Frame)).2.1) == 1)) = true := by decide +kernel
    exact absurd (e.symm.trans h) (by decide)
theorem lexle_antisymm : ∀ a b : List UInt8, lexle a b = true → lexle b a = true → a = b := by
  intro a
  induction a with
  | nil =>
    intro b _ h
    cases b with
    | nil => rfl
    | cons y b => cases h
  | cons x a ih =>
    intro b h1 h2
    cases b with
    | nil => cases h1
    | cons y b =>
      rw [lexle] at h1 h2
      by_cases e : x = y
      · subst e
        rw [if_pos rfl] at h1 h2
        rw [ih b h1 h2]
      · rw [if_neg e, decide_eq_true_eq, UInt8.lt_iff_toNat_lt] at h1
        rw [if_neg (fun h => e h.symm), decide_eq_true_eq, UInt8.lt_iff_toNat_lt] at h2
        omega
theorem minR_unique {l : List (List UInt8)} {b : List UInt8} (hb : b ∈ l) (hm : ∀ r ∈ l, lexle b r = true) : minR l = b := by
  have hne : l ≠ [] := fun h => by rw [h] at hb; cases hb
  obtain ⟨h1, h2⟩ := minR_spec l hne
  exact lexle_antisymm _ _ (h2 b hb) (hm _ h1)
theorem minR_reverse (l : List (List UInt8)) : minR l.reverse = minR l := by
  by_cases h : l = []
  · rw [h]; rfl
  · obtain ⟨h1, h2⟩ := minR_spec l h
    exact minR_unique (List.mem_reverse.2 h1) (fun r hr => h2 r (List.mem_reverse.1 hr))

end Go.Proofs.YtmbdcehmeiiaoaaGreatDoor
set_option linter.unusedVariables false
set_option linter.unusedSimpArgs false
namespace Go.Proofs.YtmbdcehmeiiaoaaGreatDoor
open Go.Sy Go.RowKit
def smin_vc (u0 : List (List UInt8)) (K : (List UInt8) → Prop) : Prop :=
  (u0.length ≤ 140737488355328 →
    (((decide ((u0.length : Int) < 1)) = true →
      False) ∧
    ((decide ((u0.length : Int) < 1)) = false →
      ((0 ≤ (0 : Int) ∧ (0 : Int) < (u0.length : Int)) ∧
      (∀ q26, u0[(0 : Int).toNat]? = some q26 →
      (∃ inv41 : (List UInt8) → Int → Prop, ∃ mu41 : (List UInt8) → Int → Nat, inv41 q26 1 ∧
      (∀ (x3 : List UInt8) (x4 : Int), inv41 x3 x4 →
      (((decide (x4 < (u0.length : Int))) = true →
        ((0 ≤ x4 ∧ x4 < (u0.length : Int)) ∧
        (∀ q77, u0[x4.toNat]? = some q77 →
        (inv41 (smin2 x3 q77) (w64 (x4 + 1)) ∧ mu41 (smin2 x3 q77) (w64 (x4 + 1)) < mu41 x3 x4)))) ∧
      ((decide (x4 < (u0.length : Int))) = false →
        (K x3))))))))))

/-! Pure proofs: no program in sight. -/

end Go.Proofs.YtmbdcehmeiiaoaaGreatDoor
set_option linter.unusedVariables false
set_option linter.unusedSimpArgs false
namespace Go.Proofs.YtmbdcehmeiiaoaaGreatDoor
open Go.Sy Go.RowKit
def LSend_vc (u0 : List Frame) (K : Bool → Prop) : Prop :=
  (u0.length ≤ 140737488355328 →
    ((∀ f ∈ u0, ∀ x ∈ f.Data, 0 ≤ x ∧ x ≤ 255) ∧
    ((sendS u0).2.2.1.length ≤ 140737488355328 →
    (∃ inv52 : Int → Prop,
    (((decide ((u0.length : Int) > 6)) = true →
      (inv52 2)) ∧
    ((decide ((u0.length : Int) > 6)) = false →
      ((((u0.length : Int) == 0) = true →
        (inv52 8)) ∧
      (((u0.length : Int) == 0) = false →
        (inv52 0))))) ∧
    (∀ (x7 : Int), inv52 x7 →
      (∃ inv76 : Int → (List (List UInt8)) → Prop,
      (∃ inv516 : Int → (List (List UInt8)) → Int → Prop, ∃ mu516 : Int → (List (List UInt8)) → Int → Nat, inv516 x7 ([] : List (List UInt8)) 0 ∧
      (∀ (x7vv : Int) (x8v : List (List UInt8)) (x33 : Int), inv516 x7vv x8v x33 →
      (((decide (x33 < (u0.length : Int))) = true →
        (∃ inv536 : Int → (List (List UInt8)) → Prop,
        ((0 ≤ x33 ∧ x33 < (u0.length : Int)) ∧
        (∀ q560, u0[x33.toNat]? = some q560 →
        (q560.Data.length ≤ 140737488355328 →
        (∃ inv587 : Int → Prop,
        (((x7vv == 0) = true →
          (inv587 (fcheckfr q560))) ∧
        ((x7vv == 0) = false →
          (inv587 x7vv))) ∧
        (∀ (x7vvvv : Int), inv587 x7vvvv →
          (((x7vvvv == 0) = true →
            ((fcheckfr q560 = 0 ∧ ∀ x ∈ q560.Data, 0 ≤ x ∧ x ≤ 255) ∧
            (((x8v.length + 1) * 16 ≤ 140737488355328) ∧
            (inv536 x7vvvv (x8v ++ [(rbitsofS q560)]))))) ∧
          ((x7vvvv == 0) = false →
            (inv536 x7vvvv x8v)))))))) ∧
        (∀ (x7vvv : Int) (x8vv : List (List UInt8)), inv536 x7vvv x8vv →
          (inv516 x7vvv x8vv (w64 (x33 + 1)) ∧ mu516 x7vvv x8vv (w64 (x33 + 1)) < mu516 x7vv x8v x33)))) ∧
      ((decide (x33 < (u0.length : Int))) = false →
        (inv76 x7vv x8v))))) ∧
      (∀ (x7v : Int) (x8 : List (List UInt8)), inv76 x7v x8 →
        (((x7v != 0) = true →
          (K (((((sendS u0).2.2.2 == x7v) && ((sendS u0).1 == ([] : List UInt8))) && ((sendS u0).2.1 == 0)) && (((sendS u0).2.2.1.length : Int) == 0)))) ∧
        ((x7v != 0) = false →
          ((0 < x8.length) ∧
          (∃ inv183 : (List UInt8) → (List Int) → Int → Prop,
          (∃ inv297 : (List UInt8) → (List Int) → Int → Int → Prop, ∃ mu297 : (List UInt8) → (List Int) → Int → Int → Nat, inv297 (minR x8) ([] : List Int) 0 0 ∧
          (∀ (x11v : List UInt8) (x12v : List Int) (x13v : Int) (x78 : Int), inv297 x11v x12v x13v x78 →
          (((decide (x78 < (x8.length : Int))) = true →
            ((0 ≤ x78 ∧ x78 < (x8.length : Int)) ∧
            (∀ q324, x8[x78.toNat]? = some q324 →
            (∃ inv354 : Int → Prop,
            (∃ inv442 : Int → Int → Prop, ∃ mu442 : Int → Int → Nat, inv442 (-1) 0 ∧
            (∀ (x16v : Int) (x88 : Int), inv442 x16v x88 →
            (((decide (x88 < (min (q324.length : Int) (x11v.length : Int)))) = true →
              ((0 ≤ x88 ∧ x88 < (q324.length : Int)) ∧
              (∀ c476, q324[x88.toNat]? = some c476 →
              ((0 ≤ x88 ∧ x88 < (x11v.length : Int)) ∧
              (∀ c490, x11v[x88.toNat]? = some c490 →
              ((((c476.toNat : Int) != (c490.toNat : Int)) = true →
                (inv354 x88)) ∧
              (((c476.toNat : Int) != (c490.toNat : Int)) = false →
                (inv442 x16v (w64 (x88 + 1)) ∧ mu442 x16v (w64 (x88 + 1)) < mu442 x16v x88)))))))) ∧
            ((decide (x88 < (min (q324.length : Int) (x11v.length : Int)))) = false →
              (inv354 x16v))))) ∧
            (∀ (x16 : Int), inv354 x16 →
              (∃ inv373 : (List UInt8) → Int → Prop,
              (((decide (x16 < 0)) = true →
                (((q324 == x11v) = true →
                  (inv373 q324 (w64 (x13v + 1)))) ∧
                ((q324 == x11v) = false →
                  (inv373 x11v (w64 (x13v + 1)))))) ∧
              ((decide (x16 < 0)) = false →
                (inv373 x11v x13v))) ∧
              (∀ (x11vv : List UInt8) (x13vv : Int), inv373 x11vv x13vv →
                (((x12v.length + 1) * 8 ≤ 140737488355328) ∧
                (inv297 x11vv (x12v ++ [x16]) x13vv (w64 (x78 + 1)) ∧ mu297 x11vv (x12v ++ [x16]) x13vv (w64 (x78 + 1)) < mu297 x11v x12v x13v x78))))))))) ∧
          ((decide (x78 < (x8.length : Int))) = false →
            (inv183 x11v x12v x13v))))) ∧
          (∀ (x11 : List UInt8) (x12 : List Int) (x13 : Int), inv183 x11 x12 x13 →
            (((decide (x13 > 1)) = true →
              (K (((((sendS u0).2.2.2 == 9) && ((sendS u0).1 == ([] : List UInt8))) && ((sendS u0).2.1 == 0)) && (((sendS u0).2.2.1.length : Int) == 0)))) ∧
            ((decide (x13 > 1)) = false →
              (K (((((sendS u0).2.2.2 == 0) && ((sendS u0).1 == x11)) && ((sendS u0).2.1 == (sindexS x12 (-1)))) && (ieqS (sendS u0).2.2.1 x12)))))))))))))))))

/-! Pure proofs: no program in sight. -/
theorem bless_lexle : ∀ a b : List UInt8, Op.bytesLess a b = !lexle b a := by
  intro a
  induction a with
  | nil => intro b; cases b <;> rfl
  | cons x a ih =>
    intro b
    cases b with
    | nil => rfl
    | cons y b =>
      show (decide (x < y) || (x == y && Op.bytesLess a b)) = !lexle (y :: b) (x :: a)
      rw [lexle, ih b]
      by_cases e : x = y
      · subst e
        rw [if_pos rfl, decide_eq_false (by rw [UInt8.lt_iff_toNat_lt]; omega)]
        simp
      · rw [if_neg (fun h => e h.symm)]
        have h1 : (x == y) = false := by simpa using e
        have : x.toNat ≠ y.toNat := fun h => e (UInt8.toNat_inj.1 h)
        rw [h1, Bool.false_and, Bool.or_false]
        by_cases h2 : x < y
        · have h3 := UInt8.lt_iff_toNat_lt.1 h2
          rw [decide_eq_true h2, decide_eq_false (by rw [UInt8.lt_iff_toNat_lt]; omega)]; rfl
        · have h3 : y < x := by rw [UInt8.lt_iff_toNat_lt] at h2 ⊢; omega
          rw [decide_eq_false h2, decide_eq_true h3]; rfl
theorem smin2_lex (x y : List UInt8) : smin2 x y = if lexle x y = true then x else y := by
  have e : strc .leq x y = lexle x y := by
    show (Op.bytesLess x y || x == y) = lexle x y
    rw [bless_lexle]
    cases h : lexle y x
    · rw [(lexle_total x y).resolve_right (by rw [h]; simp)]; rfl
    · cases h2 : lexle x y
      · have : (x == y) = false := by
          rw [beq_eq_false_iff_ne]
          rintro rfl
          rw [lexle_refl] at h2
          cases h2
        rw [this]; rfl
      · rw [lexle_antisymm _ _ h2 h]
        simp
  unfold smin2
  rw [e]
theorem smin_ok (l : List (List UInt8)) (h : 0 < l.length) : smin_vc l (fun r => r = minR l) := by
  intro hlen
  refine ⟨fun h1 => by have := of_decide_eq_true h1; omega, fun _ => ⟨by omega, fun q hq => ?_⟩⟩
  have hq : l[0]? = some q := hq
  refine ⟨fun x i => ∃ k : Nat, i = k ∧ 1 ≤ k ∧ k ≤ l.length ∧ x ∈ l.take k ∧ ∀ r ∈ l.take k, lexle x r = true, fun _ i => l.length - i.toNat, ⟨1, rfl, by omega, by omega, ?_, ?_⟩, ?_⟩
  · have := take_next l 0 q hq
    rw [this]; simp
  · have := take_next l 0 q hq
    rw [this]
    intro r hr
    have : r = q := by simpa using hr
    rw [this]; exact lexle_refl q
  · rintro x _ ⟨k, rfl, h1, hk, hm, hx⟩
    refine ⟨fun h2 => ?_, fun h2 => ?_⟩
    · have hkl : k < l.length := by have := of_decide_eq_true h2; omega
      refine ⟨by omega, fun p hp => ?_⟩
      rw [Int.toNat_natCast] at hp
      rw [w64_succ k (by omega), smin2_lex, ]
      refine ⟨⟨k + 1, rfl, by omega, by omega, ?_, ?_⟩, by (try dsimp only); omega⟩
      · rw [take_next l k p hp]
        split
        · exact List.mem_append_left _ hm
        · simp
      · rw [take_next l k p hp]
        intro r hr
        split
        · rename_i h3
          rcases List.mem_append.1 hr with hr | hr
          · exact hx r hr
          · rw [List.mem_singleton.1 hr]; exact h3
        · rename_i h3
          have h4 := (lexle_total x p).resolve_left h3
          rcases List.mem_append.1 hr with hr | hr
          · exact lexle_trans _ _ _ h4 (hx r hr)
          · rw [List.mem_singleton.1 hr]; exact lexle_refl p
    · have hkl : k = l.length := by have := of_decide_eq_false h2; omega
      subst hkl
      rw [List.take_length] at hm hx
      exact (minR_unique hm hx).symm
theorem bits_code (f : Frame) : (BitsS f).2 = fcheckfr f := by
  unfold BitsS
  by_cases h : fcheckfr f = 0
  · rw [if_neg (fun k => k h), h]; split <;> rfl
  · rw [if_pos h]
theorem firstBad_snoc (l : List Frame) (q : Frame) : firstBad (l ++ [q]) = if firstBad l = 0 then fcheckfr q else firstBad l := by
  induction l with
  | nil => simp only [List.nil_append, firstBad, bits_code]; split <;> simp_all
  | cons f l ih =>
    simp only [List.cons_append, firstBad, ih]
    by_cases h : (BitsS f).2 = 0
    · simp [h]
    · simp [h]
theorem fd_at : ∀ (a b : List UInt8) (m : Nat) (c d : UInt8), (∀ i, i < m → a[i]? = b[i]?) → a[m]? = some c → b[m]? = some d → c ≠ d → fd a b = some m := by
  intro a
  induction a with
  | nil => intro b m c d _ h; simp at h
  | cons x a ih =>
    intro b m c d h1 h2 h3 h4
    cases b with
    | nil => simp at h3
    | cons y b =>
      cases m with
      | zero =>
        simp only [List.getElem?_cons_zero, Option.some.injEq] at h2 h3
        subst h2; subst h3
        rw [fd, if_neg h4]
      | succ m =>
        have h0 := h1 0 (by omega)
        simp only [List.getElem?_cons_zero, Option.some.injEq] at h0
        subst h0
        rw [fd, if_pos rfl, ih b m c d (fun i hi => by have := h1 (i + 1) (by omega); simpa using this) (by simpa using h2) (by simpa using h3) h4]
        rfl
theorem fd_end : ∀ (a b : List UInt8), (∀ i, i < min a.length b.length → a[i]? = b[i]?) → fd a b = none := by
  intro a
  induction a with
  | nil => intro b _; cases b <;> rfl
  | cons x a ih =>
    intro b h
    cases b with
    | nil => rfl
    | cons y b =>
      have h0 := h 0 (by simp)
      simp only [List.getElem?_cons_zero, Option.some.injEq] at h0
      subst h0
      rw [fd, if_pos rfl, ih b (fun i hi => by have := h (i + 1) (by simp only [List.length_cons]; omega); simpa using this)]
      rfl
def bad0 (l : List Frame) (k : Nat) : Int := if 6 < l.length then 2 else if l.length = 0 then 8 else firstBad (l.take k)
theorem take_snoc {α : Type} {l : List α} {k : Nat} {q : α} (h : l[k]? = some q) : l.take (k + 1) = l.take k ++ [q] := by
  rw [List.take_add_one, h]; rfl
theorem bad0_succ {l : List Frame} {k : Nat} {q : Frame} (h : l[k]? = some q) : bad0 l (k + 1) = if bad0 l k = 0 then fcheckfr q else bad0 l k := by
  have hk := (List.getElem?_eq_some_iff.1 h).1
  unfold bad0
  by_cases h6 : 6 < l.length
  · simp [h6]
  · have h0 : ¬ l.length = 0 := by omega
    simp only [if_neg h6, if_neg h0]
    rw [take_snoc h, firstBad_snoc]
theorem sindex_neg (l : List Int) : sindexS l (-1) = sidx (fun q => q == (-1 : Int)) l := by
  unfold sindexS
  congr 1
  funext q
  exact Bool.beq_comm
theorem LSend_ok (l : List Frame) (k0 : (∀ y0 ∈ l, okFrame y0) ∧ l.length * 48 ≤ lim) : LSend_vc l (fun r => r = true) := by
  have hd : ∀ f ∈ l, ∀ x ∈ f.Data, 0 ≤ x ∧ x ≤ 255 := fun f hf x hx => (k0.1 f hf).2.2.2.2.2.1 x hx
  have h48 : l.length * 48 ≤ 140737488355328 := k0.2
  intro hl
  refine ⟨hd, fun _ => ⟨fun x => x = bad0 l 0, ⟨fun h => ?_, fun h => ⟨fun h2 => ?_, fun h2 => ?_⟩⟩, ?_⟩⟩
  · have := of_decide_eq_true h; show _ = bad0 l 0; unfold bad0; rw [if_pos (by omega)]
  · have h := of_decide_eq_false h; have h2 : (l.length : Int) = 0 := by simpa using h2
    show _ = bad0 l 0; unfold bad0; rw [if_neg (by omega), if_pos (by omega)]
  · have h := of_decide_eq_false h; have h2 : (l.length : Int) ≠ 0 := by simpa using h2
    show _ = bad0 l 0; unfold bad0; rw [if_neg (by omega), if_neg (by omega)]; rfl
  rintro _ rfl
  refine ⟨fun x r => x = bad0 l l.length ∧ (x = 0 → r = rowsOf l), ⟨fun x r i => ∃ k : Nat, i = k ∧ k ≤ l.length ∧ x = bad0 l k ∧ (x = 0 → r = rowsOf (l.take k)) ∧ r.length ≤ k, fun _ _ i => l.length - i.toNat, ⟨0, rfl, by omega, rfl, fun _ => rfl, Nat.le_refl _⟩, ?_⟩, ?_⟩
  · rintro x r _ ⟨k, rfl, hk, rfl, hr, hrl⟩
    refine ⟨fun h => ?_, fun h => ?_⟩
    · have hkn : k < l.length := by have := of_decide_eq_true h; omega
      refine ⟨fun x r' => x = bad0 l (k + 1) ∧ (x = 0 → r' = rowsOf (l.take (k + 1))) ∧ r'.length ≤ k + 1, ⟨by omega, fun q hq _ => ⟨fun x => x = bad0 l (k + 1), ⟨fun h1 => ?_, fun h1 => ?_⟩, ?_⟩⟩, ?_⟩
      · rw [Int.toNat_natCast] at hq
        have h1 : bad0 l k = 0 := by simpa using h1
        show _ = _
        rw [bad0_succ hq, if_pos h1]
      · rw [Int.toNat_natCast] at hq
        have h1 : bad0 l k ≠ 0 := by simpa using h1
        show _ = _
        rw [bad0_succ hq, if_neg h1]
      · rw [Int.toNat_natCast] at hq
        rintro _ rfl
        have hm := List.mem_of_getElem? hq
        have hb := bad0_succ hq
        refine ⟨fun h1 => ?_, fun h1 => ?_⟩
        · have h1 : bad0 l (k + 1) = 0 := by simpa using h1
          have h2 : bad0 l k = 0 := by rw [h1] at hb; by_cases e : bad0 l k = 0; exact e; rw [if_neg e] at hb; exact hb.symm
          have h3 : fcheckfr q = 0 := by rw [h1, if_pos h2] at hb; exact hb.symm
          refine ⟨⟨h3, hd q hm⟩, by omega, rfl, fun _ => ?_, by simp; omega⟩
          rw [take_snoc hq, hr h2]
          simp [rowsOf, rbitsofS]
        · have h1 : bad0 l (k + 1) ≠ 0 := by simpa using h1
          exact ⟨rfl, fun h => absurd h h1, by omega⟩
      · rintro _ r' ⟨rfl, h2, h3⟩
        rw [w64_succ k (by omega)]
        exact ⟨⟨k + 1, rfl, by omega, rfl, h2, h3⟩, by (try dsimp only); omega⟩
    · have hkn : k = l.length := by have := of_decide_eq_false h; omega
      subst hkn
      exact ⟨rfl, fun h => by rw [hr h, List.take_length]⟩
  rintro _ r ⟨rfl, hr⟩
  have hs : sendS l = if bad0 l l.length ≠ 0 then ([], 0, [], bad0 l l.length) else if 1 < (lostL (rowsOf l)).count (-1) then ([], 0, [], 9) else (minR (rowsOf l), sidx (fun q => q == (-1 : Int)) (lostL (rowsOf l)), lostL (rowsOf l), 0) := by
    unfold sendS bad0
    rw [List.take_length]
    by_cases h6 : 6 < l.length
    · simp [h6]
    · rw [if_neg h6, if_neg h6]
      by_cases h0 : l.length = 0
      · simp [h0]
      · rw [if_neg h0, if_neg h0]
  refine ⟨fun h => ?_, fun h => ?_⟩
  · have h : bad0 l l.length ≠ 0 := by simpa using h
    rw [hs, if_pos h]
    simp
  have h : bad0 l l.length = 0 := by simpa using h
  have hr := hr h
  rw [if_neg (fun k => k h)] at hs
  have hn0 : l.length ≠ 0 ∧ l.length ≤ 6 := by
    unfold bad0 at h
    by_cases h6 : 6 < l.length
    · rw [if_pos h6] at h; cases h
    · rw [if_neg h6] at h
      by_cases h0 : l.length = 0
      · rw [if_pos h0] at h; cases h
      · exact ⟨h0, by omega⟩
  subst hr
  have h760 : ∀ r ∈ rowsOf l, r.length ≤ 760 := by
    intro r hr
    obtain ⟨f, hf, rfl⟩ := List.mem_map.1 hr
    have hz : firstBad l = 0 := by
      unfold bad0 at h
      rw [if_neg (by omega), if_neg hn0.1, List.take_length] at h
      exact h
    exact (read_bits0 (bits_ok ((firstBad_zero l).2 hz f hf)) (hd f hf)).1
  have hlen : (rowsOf l).length = l.length := by simp [rowsOf]
  generalize hR : rowsOf l = R at *
  generalize hL : lostL R = L at *
  have hLl : L.length = R.length := by rw [← hL]; simp [lostL]
  have hLk : ∀ (k : Nat) (q : List UInt8), R[k]? = some q → L[k]? = some (lostAt (minR R) (minR R).length q) := by
    intro k q hq; rw [← hL]; simp [lostL, hq]
  refine ⟨by omega, fun b g n => b = minR R ∧ g = L ∧ n = (L.count (-1) : Nat), ⟨fun b g n i => ∃ k : Nat, i = k ∧ k ≤ R.length ∧ b = minR R ∧ g = L.take k ∧ n = ((L.take k).count (-1) : Nat), fun _ _ _ i => R.length - i.toNat, ⟨0, rfl, by omega, rfl, rfl, rfl⟩, ?_⟩, ?_⟩
  · rintro b g n _ ⟨k, rfl, hk, rfl, rfl, rfl⟩
    refine ⟨fun h => ?_, fun h => ?_⟩
    · have hkn : k < R.length := by have := of_decide_eq_true h; omega
      refine ⟨by omega, fun q hq => ?_⟩
      rw [Int.toNat_natCast] at hq
      have hLq := hLk k q hq
      have hq7 := h760 q (List.mem_of_getElem? hq)
      refine ⟨fun x => x = lostAt (minR R) (minR R).length q, ⟨fun x j => x = -1 ∧ ∃ m : Nat, j = m ∧ m ≤ min q.length (minR R).length ∧ ∀ i, i < m → q[i]? = (minR R)[i]?, fun _ j => min q.length (minR R).length - j.toNat, ⟨rfl, 0, rfl, by omega, fun i hi => absurd hi (Nat.not_lt_zero _)⟩, ?_⟩, ?_⟩
      · rintro _ _ ⟨rfl, m, rfl, hm, he⟩
        have hmin : (min (q.length : Int) ((minR R).length : Int)) = ((min q.length (minR R).length : Nat) : Int) := by omega
        rw [hmin]
        refine ⟨fun h => ?_, fun h => ?_⟩
        · have hlt : m < min q.length (minR R).length := by have := of_decide_eq_true h; omega
          refine ⟨by omega, fun c hc => ⟨by omega, fun d hdd => ?_⟩⟩
          rw [Int.toNat_natCast] at hc hdd
          refine ⟨fun hne => ?_, fun hne => ?_⟩
          · have hne : c ≠ d := by intro e; subst e; simp at hne
            show _ = _
            rw [lostAt_some (fd_at q (minR R) m c d he hc hdd hne), if_pos (by omega)]
          · have hne : c = d := by
              have : (c.toNat : Int) = d.toNat := by simpa using hne
              exact UInt8.toNat_inj.1 (by omega)
            rw [w64_succ m (by omega)]
            refine ⟨⟨rfl, m + 1, rfl, by omega, fun i hi => ?_⟩, by (try dsimp only); omega⟩
            rcases Nat.lt_or_ge i m with hc2 | hc2
            · exact he i hc2
            · have : i = m := by omega
              subst this
              rw [hc, hdd, hne]
        · have hlt : m = min q.length (minR R).length := by have := of_decide_eq_false h; omega
          subst hlt
          show _ = _
          rw [lostAt_none (fd_end q (minR R) he)]
      · rintro _ rfl
        have hneg := lostAt_neg (minR R) (minR R).length q
        generalize lostAt (minR R) (minR R).length q = x at *
        have htk : L.take (k + 1) = L.take k ++ [x] := take_snoc hLq
        refine ⟨fun b n => b = minR R ∧ n = ((L.take (k + 1)).count (-1) : Nat), ⟨fun h => ?_, fun h => ?_⟩, ?_⟩
        · have hx : x = -1 := hneg.1 (of_decide_eq_true h)
          have hc : w64 (((L.take k).count (-1) : Nat) + 1) = ((L.take (k + 1)).count (-1) : Nat) := by
            have h1 : (L.take k).count (-1) ≤ k := Nat.le_trans List.count_le_length (by rw [List.length_take]; omega)
            rw [w64_succ _ (by omega), htk, hx, List.count_append]
            simp
          rw [hc]
          exact ⟨fun h => ⟨by simpa using h, rfl⟩, fun _ => ⟨rfl, rfl⟩⟩
        · have hx : x ≠ -1 := fun e => (of_decide_eq_false h) (hneg.2 e)
          refine ⟨rfl, ?_⟩
          rw [htk, List.count_append]
          simp [hx]
        · rintro _ _ ⟨rfl, rfl⟩
          rw [w64_succ k (by omega)]
          exact ⟨by rw [List.length_take]; omega, ⟨k + 1, rfl, by omega, rfl, htk.symm, rfl⟩, by (try dsimp only); omega⟩
    · have hkn : k = R.length := by have := of_decide_eq_false h; omega
      subst hkn
      rw [← hLl, List.take_length]
      exact ⟨rfl, rfl, rfl⟩
  rintro _ g _ ⟨rfl, hg, rfl⟩
  rw [hg]
  refine ⟨fun h => ?_, fun h => ?_⟩
  · have h : 1 < L.count (-1) := by have := of_decide_eq_true h; omega
    rw [hs, if_pos h]
    simp
  · have h : ¬ 1 < L.count (-1) := by have := of_decide_eq_false h; omega
    rw [hs, if_neg h]
    show (_ && _) = true
    simp [sindex_neg, ieqS]

end Go.Proofs.YtmbdcehmeiiaoaaGreatDoor
set_option linter.unusedVariables false
set_option linter.unusedSimpArgs false
namespace Go.Proofs.YtmbdcehmeiiaoaaGreatDoor
open Go.Sy Go.RowKit

/-! Pure proofs: no program in sight. -/

end Go.Proofs.YtmbdcehmeiiaoaaGreatDoor
