/- What must hold so that each function ends well: pure predicates, made by program. -/
import Derived.Test.YtginlmgkimfjmaaPDc
set_option linter.unusedVariables false
set_option linter.unusedSimpArgs false
namespace Go.Proofs.Ytginlmgkimfjmaa
open Go.Sy Go.RowKit
def fcheckfr_vc (u0 : Frame) (K : Int → Prop) : Prop :=
  (u0.Data.length ≤ 140737488355328 →
    (((((decide (u0.ID < 0)) || ((!u0.Long) && (decide (u0.ID > 2047)))) || (decide (u0.ID > 536870911))) = true →
      (K 3)) ∧
    ((((decide (u0.ID < 0)) || ((!u0.Long) && (decide (u0.ID > 2047)))) || (decide (u0.ID > 536870911))) = false →
      (((u0.Remote && (u0.Fast || (decide ((u0.Data.length : Int) > 0)))) = true →
        (K 4)) ∧
      ((u0.Remote && (u0.Fast || (decide ((u0.Data.length : Int) > 0)))) = false →
        (((((decide (u0.Size < 0)) || (decide (u0.Size > 8))) || ((!u0.Remote) && (u0.Size != 0))) = true →
          (K 3)) ∧
        ((((decide (u0.Size < 0)) || (decide (u0.Size > 8))) || ((!u0.Remote) && (u0.Size != 0))) = false →
          ((((decide ((u0.Data.length : Int) > 64)) || ((!u0.Fast) && (decide ((u0.Data.length : Int) > 8)))) = true →
            (K 2)) ∧
          (((decide ((u0.Data.length : Int) > 64)) || ((!u0.Fast) && (decide ((u0.Data.length : Int) > 8)))) = false →
            (((!(scontainsS fsizes (u0.Data.length : Int))) = true →
              (K 4)) ∧
            ((!(scontainsS fsizes (u0.Data.length : Int))) = false →
              (K 0))))))))))))
def fcheckfr (u0 : Frame) : Int :=
  bif ((decide (u0.ID < 0)) || ((!u0.Long) && (decide (u0.ID > 2047)))) || (decide (u0.ID > 536870911)) then 3
    else bif u0.Remote && (u0.Fast || (decide ((u0.Data.length : Int) > 0))) then 4
    else bif ((decide (u0.Size < 0)) || (decide (u0.Size > 8))) || ((!u0.Remote) && (u0.Size != 0)) then 3
    else bif (decide ((u0.Data.length : Int) > 64)) || ((!u0.Fast) && (decide ((u0.Data.length : Int) > 8))) then 2
    else bif !(scontainsS fsizes (u0.Data.length : Int)) then 4
    else 0
theorem fcheckfr_ok (u0 : Frame) : fcheckfr_vc u0 (fun r => r = fcheckfr u0) := (fun _ => ⟨fun h0 => (by simp only [fcheckfr, h0, cond_true, cond_false]), fun h0 => ⟨fun h1 => (by simp only [fcheckfr, h0, h1, cond_true, cond_false]), fun h1 => ⟨fun h2 => (by simp only [fcheckfr, h0, h1, h2, cond_true, cond_false]), fun h2 => ⟨fun h3 => (by simp only [fcheckfr, h0, h1, h2, h3, cond_true, cond_false]), fun h3 => ⟨fun h4 => (by simp only [fcheckfr, h0, h1, h2, h3, h4, cond_true, cond_false]), fun h4 => (by simp only [fcheckfr, h0, h1, h2, h3, h4, cond_true, cond_false])⟩⟩⟩⟩⟩)

def csize_vc (u0 : Int) (K : (Int × Int) → Prop) : Prop :=
  ((((decide (u0 < 0)) || (decide (u0 ≥ 5))) = true →
      (K (0, 8))) ∧
    (((decide (u0 < 0)) || (decide (u0 ≥ 5))) = false →
      ((0 ≤ u0 ∧ u0 < 5) ∧
      (K (([ckinds.1.Size, ckinds.2.1.Size, ckinds.2.2.1.Size, ckinds.2.2.2.1.Size, ckinds.2.2.2.2.Size] : List Int).getD u0.toNat 0, 0)))))
def csize (u0 : Int) : Int × Int :=
  bif (decide (u0 < 0)) || (decide (u0 ≥ 5)) then (0, 8)
    else (([ckinds.1.Size, ckinds.2.1.Size, ckinds.2.2.1.Size, ckinds.2.2.2.1.Size, ckinds.2.2.2.2.Size] : List Int).getD u0.toNat 0, 0)
theorem csize_ok (u0 : Int) : csize_vc u0 (fun r => r = csize u0) := ⟨fun h0 => (by simp only [csize, h0, cond_true, cond_false]), fun h0 => ⟨(by (try simp at h0); omega), (by simp only [csize, h0, cond_true, cond_false])⟩⟩

def fhead_vc (u0 : Frame) (K : (List UInt8) → Prop) : Prop :=
  (u0.Data.length ≤ 140737488355328 →
    (((!u0.Remote) = true →
      ((0 ≤ u0.ID ∧ u0.ID ≤ 536870911) ∧
      (((([48] : List UInt8).length : Int) + ((fnameS u0).length : Int) ≤ 9223372036854775807) ∧
      ((u0.Fast = true →
        ((((([48] : List UInt8) ++ (fnameS u0)).length : Int) + (([49, 48, 49, 48] : List UInt8).length : Int) ≤ 9223372036854775807) ∧
        ((∀ x ∈ u0.Data, 0 ≤ x ∧ x ≤ 255) ∧
        ((0 ≤ (4 : Int) ∧ (4 : Int) ≤ 64 ∧ 0 ≤ (wu64 (sindexS fsizes (u0.Data.length : Int))) ∧ (wu64 (sindexS fsizes (u0.Data.length : Int))) < 2 ^ 62) ∧
        (((((([48] : List UInt8) ++ (fnameS u0)) ++ ([49, 48, 49, 48] : List UInt8)).length : Int) + ((bwriteS (wu64 (sindexS fsizes (u0.Data.length : Int))) 4).length : Int) ≤ 9223372036854775807) ∧
        ((((((([48] : List UInt8) ++ (fnameS u0)) ++ ([49, 48, 49, 48] : List UInt8)) ++ (bwriteS (wu64 (sindexS fsizes (u0.Data.length : Int))) 4)).length : Int) + (((bofS u0.Data).1).length : Int) ≤ 9223372036854775807) ∧
        (K ((((([48] : List UInt8) ++ (fnameS u0)) ++ ([49, 48, 49, 48] : List UInt8)) ++ (bwriteS (wu64 (sindexS fsizes (u0.Data.length : Int))) 4)) ++ ((bofS u0.Data).1))))))))) ∧
      (u0.Fast = false →
        ((u0.Long = true →
          ((((([48] : List UInt8) ++ (fnameS u0)).length : Int) + (([48, 48] : List UInt8).length : Int) ≤ 9223372036854775807) ∧
          ((∀ x ∈ u0.Data, 0 ≤ x ∧ x ≤ 255) ∧
          ((0 ≤ (4 : Int) ∧ (4 : Int) ≤ 64 ∧ 0 ≤ (wu64 (sindexS fsizes (u0.Data.length : Int))) ∧ (wu64 (sindexS fsizes (u0.Data.length : Int))) < 2 ^ 62) ∧
          (((((([48] : List UInt8) ++ (fnameS u0)) ++ ([48, 48] : List UInt8)).length : Int) + ((bwriteS (wu64 (sindexS fsizes (u0.Data.length : Int))) 4).length : Int) ≤ 9223372036854775807) ∧
          ((((((([48] : List UInt8) ++ (fnameS u0)) ++ ([48, 48] : List UInt8)) ++ (bwriteS (wu64 (sindexS fsizes (u0.Data.length : Int))) 4)).length : Int) + (((bofS u0.Data).1).length : Int) ≤ 9223372036854775807) ∧
          (K ((((([48] : List UInt8) ++ (fnameS u0)) ++ ([48, 48] : List UInt8)) ++ (bwriteS (wu64 (sindexS fsizes (u0.Data.length : Int))) 4)) ++ ((bofS u0.Data).1))))))))) ∧
        (u0.Long = false →
          ((((([48] : List UInt8) ++ (fnameS u0)).length : Int) + (([48] : List UInt8).length : Int) ≤ 9223372036854775807) ∧
          ((∀ x ∈ u0.Data, 0 ≤ x ∧ x ≤ 255) ∧
          ((0 ≤ (4 : Int) ∧ (4 : Int) ≤ 64 ∧ 0 ≤ (wu64 (sindexS fsizes (u0.Data.length : Int))) ∧ (wu64 (sindexS fsizes (u0.Data.length : Int))) < 2 ^ 62) ∧
          (((((([48] : List UInt8) ++ (fnameS u0)) ++ ([48] : List UInt8)).length : Int) + ((bwriteS (wu64 (sindexS fsizes (u0.Data.length : Int))) 4).length : Int) ≤ 9223372036854775807) ∧
          ((((((([48] : List UInt8) ++ (fnameS u0)) ++ ([48] : List UInt8)) ++ (bwriteS (wu64 (sindexS fsizes (u0.Data.length : Int))) 4)).length : Int) + (((bofS u0.Data).1).length : Int) ≤ 9223372036854775807) ∧
          (K ((((([48] : List UInt8) ++ (fnameS u0)) ++ ([48] : List UInt8)) ++ (bwriteS (wu64 (sindexS fsizes (u0.Data.length : Int))) 4)) ++ ((bofS u0.Data).1))))))))))))))) ∧
    ((!u0.Remote) = false →
      ((0 ≤ u0.ID ∧ u0.ID ≤ 536870911) ∧
      (((([48] : List UInt8).length : Int) + ((fnameS u0).length : Int) ≤ 9223372036854775807) ∧
      ((u0.Fast = true →
        ((((([48] : List UInt8) ++ (fnameS u0)).length : Int) + (([49, 48, 49, 48] : List UInt8).length : Int) ≤ 9223372036854775807) ∧
        ((∀ x ∈ u0.Data, 0 ≤ x ∧ x ≤ 255) ∧
        ((0 ≤ (4 : Int) ∧ (4 : Int) ≤ 64 ∧ 0 ≤ (wu64 u0.Size) ∧ (wu64 u0.Size) < 2 ^ 62) ∧
        (((((([48] : List UInt8) ++ (fnameS u0)) ++ ([49, 48, 49, 48] : List UInt8)).length : Int) + ((bwriteS (wu64 u0.Size) 4).length : Int) ≤ 9223372036854775807) ∧
        ((((((([48] : List UInt8) ++ (fnameS u0)) ++ ([49, 48, 49, 48] : List UInt8)) ++ (bwriteS (wu64 u0.Size) 4)).length : Int) + (((bofS u0.Data).1).length : Int) ≤ 9223372036854775807) ∧
        (K ((((([48] : List UInt8) ++ (fnameS u0)) ++ ([49, 48, 49, 48] : List UInt8)) ++ (bwriteS (wu64 u0.Size) 4)) ++ ((bofS u0.Data).1))))))))) ∧
      (u0.Fast = false →
        ((u0.Long = true →
          ((((([48] : List UInt8) ++ (fnameS u0)).length : Int) + (([48, 48] : List UInt8).length : Int) ≤ 9223372036854775807) ∧
          ((∀ x ∈ u0.Data, 0 ≤ x ∧ x ≤ 255) ∧
          ((0 ≤ (4 : Int) ∧ (4 : Int) ≤ 64 ∧ 0 ≤ (wu64 u0.Size) ∧ (wu64 u0.Size) < 2 ^ 62) ∧
          (((((([48] : List UInt8) ++ (fnameS u0)) ++ ([48, 48] : List UInt8)).length : Int) + ((bwriteS (wu64 u0.Size) 4).length : Int) ≤ 9223372036854775807) ∧
          ((((((([48] : List UInt8) ++ (fnameS u0)) ++ ([48, 48] : List UInt8)) ++ (bwriteS (wu64 u0.Size) 4)).length : Int) + (((bofS u0.Data).1).length : Int) ≤ 9223372036854775807) ∧
          (K ((((([48] : List UInt8) ++ (fnameS u0)) ++ ([48, 48] : List UInt8)) ++ (bwriteS (wu64 u0.Size) 4)) ++ ((bofS u0.Data).1))))))))) ∧
        (u0.Long = false →
          ((((([48] : List UInt8) ++ (fnameS u0)).length : Int) + (([48] : List UInt8).length : Int) ≤ 9223372036854775807) ∧
          ((∀ x ∈ u0.Data, 0 ≤ x ∧ x ≤ 255) ∧
          ((0 ≤ (4 : Int) ∧ (4 : Int) ≤ 64 ∧ 0 ≤ (wu64 u0.Size) ∧ (wu64 u0.Size) < 2 ^ 62) ∧
          (((((([48] : List UInt8) ++ (fnameS u0)) ++ ([48] : List UInt8)).length : Int) + ((bwriteS (wu64 u0.Size) 4).length : Int) ≤ 9223372036854775807) ∧
          ((((((([48] : List UInt8) ++ (fnameS u0)) ++ ([48] : List UInt8)) ++ (bwriteS (wu64 u0.Size) 4)).length : Int) + (((bofS u0.Data).1).length : Int) ≤ 9223372036854775807) ∧
          (K ((((([48] : List UInt8) ++ (fnameS u0)) ++ ([48] : List UInt8)) ++ (bwriteS (wu64 u0.Size) 4)) ++ ((bofS u0.Data).1)))))))))))))))))

/-! Pure proofs: no program in sight. -/
theorem fcheckfr_zero {f : Frame} (h : fcheckfr f = 0) : 0 ≤ f.ID ∧ f.ID ≤ 536870911 ∧ (f.Long = false → f.ID ≤ 2047) ∧ (f.Remote = true → f.Fast = false ∧ f.Data.length = 0) ∧ 0 ≤ f.Size ∧ f.Size ≤ 8 ∧ (f.Remote = false → f.Size = 0) ∧ f.Data.length ≤ 64 ∧ (f.Fast = false → f.Data.length ≤ 8) ∧ scontainsS fsizes (f.Data.length : Int) = true := by
  unfold fcheckfr at h
  cases h1 : ((decide (f.ID < 0)) || ((!f.Long) && (decide (f.ID > 2047)))) || (decide (f.ID > 536870911)) with
  | true => rw [h1] at h; cases h
  | false =>
    rw [h1, cond_false] at h
    cases h2 : f.Remote && (f.Fast || (decide ((f.Data.length : Int) > 0))) with
    | true => rw [h2] at h; cases h
    | false =>
      rw [h2, cond_false] at h
      cases h3 : ((decide (f.Size < 0)) || (decide (f.Size > 8))) || ((!f.Remote) && (f.Size != 0)) with
      | true => rw [h3] at h; cases h
      | false =>
        rw [h3, cond_false] at h
        cases h4 : (decide ((f.Data.length : Int) > 64)) || ((!f.Fast) && (decide ((f.Data.length : Int) > 8))) with
        | true => rw [h4] at h; cases h
        | false =>
          rw [h4, cond_false] at h
          cases h5 : !(scontainsS fsizes (f.Data.length : Int)) with
          | true => rw [h5] at h; cases h
          | false =>
            simp at h1 h2 h3 h4 h5
            refine ⟨by omega, by omega, fun e => by have := h1.1.2 e; omega, fun e => ?_, by omega, by omega, fun e => h3.2 e, by omega, fun e => by have := h4.2 e; omega, h5⟩
            have := h2 e
            exact ⟨this.1, by simp [this.2]⟩
/-- What must hold of a frame whose head is asked for. -/
def fheadpre (f : Frame) : Prop := 0 ≤ f.ID ∧ f.ID ≤ 536870911 ∧ 0 ≤ f.Size ∧ f.Size ≤ 8 ∧ f.Data.length ≤ 64 ∧ (∀ x ∈ f.Data, 0 ≤ x ∧ x ≤ 255) ∧ (f.Remote = false → scontainsS fsizes (f.Data.length : Int) = true)
def fcode (f : Frame) : Nat := (if f.Remote = false then sindexS fsizes (f.Data.length : Int) else f.Size).toNat
def fctl (f : Frame) : List UInt8 := if f.Fast = true then [49, 48, 49, 48] else if f.Long = true then [48, 48] else [48]
def fheadS (f : Frame) : List UInt8 := ((([48] ++ fnameS f) ++ fctl f) ++ wr 4 (fcode f)) ++ ofb f.Data
theorem sindexS_sizes (n : Int) : -1 ≤ sindexS fsizes n ∧ sindexS fsizes n ≤ 15 := by
  unfold sindexS sidx
  cases h : fsizes.findIdx? (fun q => n == q) with
  | none => dsimp only; omega
  | some i =>
    rw [List.findIdx?_eq_some_iff_getElem] at h
    obtain ⟨h1, _⟩ := h
    have : fsizes.length = 16 := rfl
    dsimp only
    omega
theorem fhead_ok (f : Frame) (h : fheadpre f) : fhead_vc f (fun r => r = fheadS f) := by
  obtain ⟨h1, h2, h3, h4, h5, h6, h7⟩ := h
  intro hl
  have p62 : (2 : Int) ^ 62 = 4611686018427387904 := rfl
  have hlb : ∀ n s : Int, (bwriteS n s).length = s.toNat := fun n s => wr_length _ _
  have hof : (bofS f.Data).1 = ofb f.Data := by unfold bofS; rw [if_neg (by omega)]
  have hofl := ofb_length f.Data
  have hnl : (fnameS f).length ≤ 32 := by rw [fnameS_len]; split <;> omega
  have key : ∀ c : Int, 0 ≤ c → c < 16 → (f.Remote = false → c = sindexS fsizes (f.Data.length : Int)) → (f.Remote = true → c = f.Size) → wu64 c = c ∧ bwriteS c 4 = wr 4 (fcode f) := by
    intro c c0 c1 c2 c3
    refine ⟨wu64_eq _ (by omega), ?_⟩
    have : c.toNat = fcode f := by
      unfold fcode
      cases hr : f.Remote with
      | false => rw [if_pos rfl, c2 hr]
      | true => rw [if_neg (by simp), c3 hr]
    unfold bwriteS
    rw [this]
    rfl
  have hs := sindexS_sizes (f.Data.length : Int)
  refine ⟨fun h8 => ⟨⟨h1, h2⟩, by simp only [List.length_cons, List.length_nil]; omega, ?_⟩, fun h8 => ⟨⟨h1, h2⟩, by simp only [List.length_cons, List.length_nil]; omega, ?_⟩⟩
  · have hr : f.Remote = false := by simpa using h8
    have hge : 0 ≤ sindexS fsizes (f.Data.length : Int) := by
      have := sidx_ge (fun q => (f.Data.length : Int) == q) fsizes
      have h9 := h7 hr
      unfold scontainsS at h9
      rw [h9] at this
      exact of_decide_eq_true this
    obtain ⟨k1, k2⟩ := key (sindexS fsizes (f.Data.length : Int)) hge (by omega) (fun _ => rfl) (fun e => by rw [hr] at e; cases e)
    rw [k1, hof]
    refine ⟨fun h10 => ⟨by simp; omega, h6, by omega, by simp [hlb]; omega, by simp [hlb, hofl]; omega, ?_⟩, fun h10 => ⟨fun h11 => ⟨by simp; omega, h6, by omega, by simp [hlb]; omega, by simp [hlb, hofl]; omega, ?_⟩, fun h11 => ⟨by simp; omega, h6, by omega, by simp [hlb]; omega, by simp [hlb, hofl]; omega, ?_⟩⟩⟩
    all_goals
      rw [k2]
      unfold fheadS fctl
    · rw [if_pos h10]
    · rw [if_neg (by simp [h10]), if_pos h11]
    · rw [if_neg (by simp [h10]), if_neg (by simp [h11])]
  · have hr : f.Remote = true := by simpa using h8
    obtain ⟨k1, k2⟩ := key f.Size h3 (by omega) (fun e => by rw [hr] at e; cases e) (fun _ => rfl)
    rw [k1, hof]
    refine ⟨fun h10 => ⟨by simp; omega, h6, by omega, by simp [hlb]; omega, by simp [hlb, hofl]; omega, ?_⟩, fun h10 => ⟨fun h11 => ⟨by simp; omega, h6, by omega, by simp [hlb]; omega, by simp [hlb, hofl]; omega, ?_⟩, fun h11 => ⟨by simp; omega, h6, by omega, by simp [hlb]; omega, by simp [hlb, hofl]; omega, ?_⟩⟩⟩
    all_goals
      rw [k2]
      unfold fheadS fctl
    · rw [if_pos h10]
    · rw [if_neg (by simp [h10]), if_pos h11]
    · rw [if_neg (by simp [h10]), if_neg (by simp [h11])]

end Go.Proofs.Ytginlmgkimfjmaa
