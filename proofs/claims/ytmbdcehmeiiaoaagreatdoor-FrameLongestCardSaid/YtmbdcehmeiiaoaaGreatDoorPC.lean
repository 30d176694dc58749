/- What must hold so that each function ends well: pure predicates, made by program. -/
import Derived.Test.YtmbdcehmeiiaoaaGreatDoorPB
set_option linter.unusedVariables false
set_option linter.unusedSimpArgs false
namespace Go.Proofs.YtmbdcehmeiiaoaaGreatDoor
open Go.Sy Go.RowKit
def fhead_vc (u0 : Frame) (K : (List UInt8) → Prop) : Prop :=
  (u0.Data.length ≤ 140737488355328 →
    (((!u0.Remote) = true →
      ((0 ≤ u0.ID ∧ u0.ID ≤ 536870911) ∧
      (((([48] : List UInt8).length : Int) + ((fnameS u0).length : Int) ≤ 9223372036854775807) ∧
      ((u0.Fast = true →
        ((((([48] : List UInt8) ++ (fnameS u0)).length : Int) + (([49, 48, 49, 48] : List UInt8).length : Int) ≤ 9223372036854775807) ∧
        ((∀ x ∈ u0.Data, 0 ≤ x ∧ x ≤ 255) ∧
        ((0 ≤ (4 : Int) ∧ (4 : Int) ≤ 64 ∧ 0 ≤ (wu64 (sindexS fsizes (u0.Data.length : Int))) ∧ (wu64 (sindexS fsizes (u0.Data.length : Int))) < 2 ^ 62) ∧
        (((((([48] : List UInt8) ++ (fnameS u0)) ++ ([49, 48, 49, 48] : List UInt8)).length : Int) + ((bwriteS (wu64 (sindexS fsizes (u0.Data.length : Int))) 4).length : Int) ≤ 9223372036854775807) ∧
        ((((((([48] : List UInt8) ++ (fnameS u0)) ++ ([49, 48, 49, 48] : List UInt8)) ++ (bwriteS (wu64 (sindexS fsizes (u0.Data.length : Int))) 4)).length : Int) + (((bofS u0.Data).1).length : Int) ≤ 9223372036854775807) ∧
        (K ((((([48] : List UInt8) ++ (fnameS u0)) ++ ([49, 48, 49, 48] : List UInt8)) ++ (bwriteS (wu64 (sindexS fsizes (u0.Data.length : Int))) 4)) ++ ((bofS u0.Data).1))))))))) ∧
      (u0.Fast = false →
        ((u0.Long = true →
          ((((([48] : List UInt8) ++ (fnameS u0)).length : Int) + (([48, 48] : List UInt8).length : Int) ≤ 9223372036854775807) ∧
          ((∀ x ∈ u0.Data, 0 ≤ x ∧ x ≤ 255) ∧
          ((0 ≤ (4 : Int) ∧ (4 : Int) ≤ 64 ∧ 0 ≤ (wu64 (sindexS fsizes (u0.Data.length : Int))) ∧ (wu64 (sindexS fsizes (u0.Data.length : Int))) < 2 ^ 62) ∧
          (((((([48] : List UInt8) ++ (fnameS u0)) ++ ([48, 48] : List UInt8)).length : Int) + ((bwriteS (wu64 (sindexS fsizes (u0.Data.length : Int))) 4).length : Int) ≤ 9223372036854775807) ∧
          ((((((([48] : List UInt8) ++ (fnameS u0)) ++ ([48, 48] : List UInt8)) ++ (bwriteS (wu64 (sindexS fsizes (u0.Data.length : Int))) 4)).length : Int) + (((bofS u0.Data).1).length : Int) ≤ 9223372036854775807) ∧
          (K ((((([48] : List UInt8) ++ (fnameS u0)) ++ ([48, 48] : List UInt8)) ++ (bwriteS (wu64 (sindexS fsizes (u0.Data.length : Int))) 4)) ++ ((bofS u0.Data).1))))))))) ∧
        (u0.Long = false →
          ((((([48] : List UInt8) ++ (fnameS u0)).length : Int) + (([48] : List UInt8).length : Int) ≤ 9223372036854775807) ∧
          ((∀ x ∈ u0.Data, 0 ≤ x ∧ x ≤ 255) ∧
          ((0 ≤ (4 : Int) ∧ (4 : Int) ≤ 64 ∧ 0 ≤ (wu64 (sindexS fsizes (u0.Data.length : Int))) ∧ (wu64 (sindexS fsizes (u0.Data.length : Int))) < 2 ^ 62) ∧
          (((((([48] : List UInt8) ++ (fnameS u0)) ++ ([48] : List UInt8)).length : Int) + ((bwriteS (wu64 (sindexS fsizes (u0.Data.length : Int))) 4).length : Int) ≤ 9223372036854775807) ∧
          ((((((([48] : List UInt8) ++ (fnameS u0)) ++ ([48] : List UInt8)) ++ (bwriteS (wu64 (sindexS fsizes (u0.Data.length : Int))) 4)).length : Int) + (((bofS u0.Data).1).length : Int) ≤ 9223372036854775807) ∧
          (K ((((([48] : List UInt8) ++ (fnameS u0)) ++ ([48] : List UInt8)) ++ (bwriteS (wu64 (sindexS fsizes (u0.Data.length : Int))) 4)) ++ ((bofS u0.Data).1))))))))))))))) ∧
    ((!u0.Remote) = false →
      ((0 ≤ u0.ID ∧ u0.ID ≤ 536870911) ∧
      (((([48] : List UInt8).length : Int) + ((fnameS u0).length : Int) ≤ 9223372036854775807) ∧
      ((u0.Fast = true →
        ((((([48] : List UInt8) ++ (fnameS u0)).length : Int) + (([49, 48, 49, 48] : List UInt8).length : Int) ≤ 9223372036854775807) ∧
        ((∀ x ∈ u0.Data, 0 ≤ x ∧ x ≤ 255) ∧
        ((0 ≤ (4 : Int) ∧ (4 : Int) ≤ 64 ∧ 0 ≤ (wu64 u0.Size) ∧ (wu64 u0.Size) < 2 ^ 62) ∧
        (((((([48] : List UInt8) ++ (fnameS u0)) ++ ([49, 48, 49, 48] : List UInt8)).length : Int) + ((bwriteS (wu64 u0.Size) 4).length : Int) ≤ 9223372036854775807) ∧
        ((((((([48] : List UInt8) ++ (fnameS u0)) ++ ([49, 48, 49, 48] : List UInt8)) ++ (bwriteS (wu64 u0.Size) 4)).length : Int) + (((bofS u0.Data).1).length : Int) ≤ 9223372036854775807) ∧
        (K ((((([48] : List UInt8) ++ (fnameS u0)) ++ ([49, 48, 49, 48] : List UInt8)) ++ (bwriteS (wu64 u0.Size) 4)) ++ ((bofS u0.Data).1))))))))) ∧
      (u0.Fast = false →
        ((u0.Long = true →
          ((((([48] : List UInt8) ++ (fnameS u0)).length : Int) + (([48, 48] : List UInt8).length : Int) ≤ 9223372036854775807) ∧
          ((∀ x ∈ u0.Data, 0 ≤ x ∧ x ≤ 255) ∧
          ((0 ≤ (4 : Int) ∧ (4 : Int) ≤ 64 ∧ 0 ≤ (wu64 u0.Size) ∧ (wu64 u0.Size) < 2 ^ 62) ∧
          (((((([48] : List UInt8) ++ (fnameS u0)) ++ ([48, 48] : List UInt8)).length : Int) + ((bwriteS (wu64 u0.Size) 4).length : Int) ≤ 9223372036854775807) ∧
          ((((((([48] : List UInt8) ++ (fnameS u0)) ++ ([48, 48] : List UInt8)) ++ (bwriteS (wu64 u0.Size) 4)).length : Int) + (((bofS u0.Data).1).length : Int) ≤ 9223372036854775807) ∧
          (K ((((([48] : List UInt8) ++ (fnameS u0)) ++ ([48, 48] : List UInt8)) ++ (bwriteS (wu64 u0.Size) 4)) ++ ((bofS u0.Data).1))))))))) ∧
        (u0.Long = false →
          ((((([48] : List UInt8) ++ (fnameS u0)).length : Int) + (([48] : List UInt8).length : Int) ≤ 9223372036854775807) ∧
          ((∀ x ∈ u0.Data, 0 ≤ x ∧ x ≤ 255) ∧
          ((0 ≤ (4 : Int) ∧ (4 : Int) ≤ 64 ∧ 0 ≤ (wu64 u0.Size) ∧ (wu64 u0.Size) < 2 ^ 62) ∧
          (((((([48] : List UInt8) ++ (fnameS u0)) ++ ([48] : List UInt8)).length : Int) + ((bwriteS (wu64 u0.Size) 4).length : Int) ≤ 9223372036854775807) ∧
          ((((((([48] : List UInt8) ++ (fnameS u0)) ++ ([48] : List UInt8)) ++ (bwriteS (wu64 u0.Size) 4)).length : Int) + (((bofS u0.Data).1).length : Int) ≤ 9223372036854775807) ∧
          (K ((((([48] : List UInt8) ++ (fnameS u0)) ++ ([48] : List UInt8)) ++ (bwriteS (wu64 u0.Size) 4)) ++ ((bofS u0.Data).1)))))))))))))))))

def fName_vc (u0 : Frame) (K : ((List UInt8) × Int) → Prop) : Prop :=
  (u0.Data.length ≤ 140737488355328 →
    ((((fcheckfr u0) != 0) = true →
      (K ([], (fcheckfr u0)))) ∧
    (((fcheckfr u0) != 0) = false →
      ((0 ≤ u0.ID ∧ u0.ID ≤ 536870911) ∧
      (K ((fnameS u0), 0))))))

def fSame_vc (u0 : Frame) (u1 : Frame) (K : Bool → Prop) : Prop :=
  (u0.Data.length ≤ 140737488355328 →
    (u1.Data.length ≤ 140737488355328 →
    (K ((((((u0.ID == u1.ID) && (u0.Long == u1.Long)) && (u0.Fast == u1.Fast)) && (u0.Remote == u1.Remote)) && (u0.Size == u1.Size)) && (beqS u0.Data u1.Data)))))

def rSame_vc (u0 : Frame) (u1 : Frame) (K : Bool → Prop) : Prop :=
  (u0.Data.length ≤ 140737488355328 →
    (u1.Data.length ≤ 140737488355328 →
    (K ((((((u0.ID == u1.ID) && (u0.Long == u1.Long)) && (u0.Fast == u1.Fast)) && (u0.Remote == u1.Remote)) && (u0.Size == u1.Size)) && (beqS u0.Data u1.Data)))))

def rfail_vc (u0 : FReader) (u1 : Int) (K : FReader → Prop) : Prop :=
  (u0.f.Data.length ≤ 140737488355328 →
    (((u0.Reader.Code == 0) = true →
      (K (⟨(⟨u0.Reader.Row, u0.Reader.At, u1, u0.Reader.c⟩ : Reader), u0.f⟩ : FReader))) ∧
    ((u0.Reader.Code == 0) = false →
      (K u0))))

/-! Pure proofs: no program in sight. -/
theorem fcheckfr_zero {f : Frame} (h : fcheckfr f = 0) : 0 ≤ f.ID ∧ f.ID ≤ 536870911 ∧ (f.Long = false → f.ID ≤ 2047) ∧ (f.Remote = true → f.Fast = false ∧ f.Data.length = 0) ∧ 0 ≤ f.Size ∧ f.Size ≤ 8 ∧ (f.Remote = false → f.Size = 0) ∧ f.Data.length ≤ 64 ∧ (f.Fast = false → f.Data.length ≤ 8) ∧ scontainsS fsizes (f.Data.length : Int) = true := by
  unfold fcheckfr at h
  cases h1 : ((decide (f.ID < 0)) || ((!f.Long) && (decide (f.ID > 2047)))) || (decide (f.ID > 536870911)) with
  | true => rw [h1] at h; cases h
  | false =>
    rw [h1, cond_false] at h
    cases h2 : f.Remote && (f.Fast || (decide ((f.Data.length : Int) > 0))) with
    | true => rw [h2] at h; cases h
    | false =>
      rw [h2, cond_false] at h
      cases h3 : ((decide (f.Size < 0)) || (decide (f.Size > 8))) || ((!f.Remote) && (f.Size != 0)) with
      | true => rw [h3] at h; cases h
      | false =>
        rw [h3, cond_false] at h
        cases h4 : (decide ((f.Data.length : Int) > 64)) || ((!f.Fast) && (decide ((f.Data.length : Int) > 8))) with
        | true => rw [h4] at h; cases h
        | false =>
          rw [h4, cond_false] at h
          cases h5 : !(scontainsS fsizes (f.Data.length : Int)) with
          | true => rw [h5] at h; cases h
          | false =>
            simp at h1 h2 h3 h4 h5
            refine ⟨by omega, by omega, fun e => by have := h1.1.2 e; omega, fun e => ?_, by omega, by omega, fun e => h3.2 e, by omega, fun e => by have := h4.2 e; omega, h5⟩
            have := h2 e
            exact ⟨this.1, by simp [this.2]⟩
/-- What must hold of a frame whose head is asked for. -/
def fheadpre (f : Frame) : Prop := 0 ≤ f.ID ∧ f.ID ≤ 536870911 ∧ 0 ≤ f.Size ∧ f.Size ≤ 8 ∧ f.Data.length ≤ 64 ∧ (∀ x ∈ f.Data, 0 ≤ x ∧ x ≤ 255) ∧ (f.Remote = false → scontainsS fsizes (f.Data.length : Int) = true)
def fcode (f : Frame) : Nat := (if f.Remote = false then sindexS fsizes (f.Data.length : Int) else f.Size).toNat
def fctl (f : Frame) : List UInt8 := if f.Fast = true then [49, 48, 49, 48] else if f.Long = true then [48, 48] else [48]
def fheadS (f : Frame) : List UInt8 := ((([48] ++ fnameS f) ++ fctl f) ++ wr 4 (fcode f)) ++ ofb f.Data
theorem sindexS_sizes (n : Int) : -1 ≤ sindexS fsizes n ∧ sindexS fsizes n ≤ 15 := by
  unfold sindexS sidx
  cases h : fsizes.findIdx? (fun q => n == q) with
  | none => dsimp only; omega
  | some i =>
    rw [List.findIdx?_eq_some_iff_getElem] at h
    obtain ⟨h1, _⟩ := h
    have : fsizes.length = 16 := rfl
    dsimp only
    omega
theorem fhead_ok (f : Frame) (h : fheadpre f) : fhead_vc f (fun r => r = fheadS f) := by
  obtain ⟨h1, h2, h3, h4, h5, h6, h7⟩ := h
  intro hl
  have p62 : (2 : Int) ^ 62 = 4611686018427387904 := rfl
  have hlb : ∀ n s : Int, (bwriteS n s).length = s.toNat := fun n s => wr_length _ _
  have hof : (bofS f.Data).1 = ofb f.Data := by unfold bofS; rw [if_neg (by omega)]
  have hofl := ofb_length f.Data
  have hnl : (fnameS f).length ≤ 32 := by rw [fnameS_len]; split <;> omega
  have key : ∀ c : Int, 0 ≤ c → c < 16 → (f.Remote = false → c = sindexS fsizes (f.Data.length : Int)) → (f.Remote = true → c = f.Size) → wu64 c = c ∧ bwriteS c 4 = wr 4 (fcode f) := by
    intro c c0 c1 c2 c3
    refine ⟨wu64_eq _ (by omega), ?_⟩
    have : c.toNat = fcode f := by
      unfold fcode
      cases hr : f.Remote with
      | false => rw [if_pos rfl, c2 hr]
      | true => rw [if_neg (by simp), c3 hr]
    unfold bwriteS
    rw [this]
    rfl
  have hs := sindexS_sizes (f.Data.length : Int)
  refine ⟨fun h8 => ⟨⟨h1, h2⟩, by simp only [List.length_cons, List.length_nil]; omega, ?_⟩, fun h8 => ⟨⟨h1, h2⟩, by simp only [List.length_cons, List.length_nil]; omega, ?_⟩⟩
  · have hr : f.Remote = false := by simpa using h8
    have hge : 0 ≤ sindexS fsizes (f.Data.length : Int) := by
      have := sidx_ge (fun q => (f.Data.length : Int) == q) fsizes
      have h9 := h7 hr
      unfold scontainsS at h9
      rw [h9] at this
      exact of_decide_eq_true this
    obtain ⟨k1, k2⟩ := key (sindexS fsizes (f.Data.length : Int)) hge (by omega) (fun _ => rfl) (fun e => by rw [hr] at e; cases e)
    rw [k1, hof]
    refine ⟨fun h10 => ⟨by simp; omega, h6, by omega, by simp [hlb]; omega, by simp [hlb, hofl]; omega, ?_⟩, fun h10 => ⟨fun h11 => ⟨by simp; omega, h6, by omega, by simp [hlb]; omega, by simp [hlb, hofl]; omega, ?_⟩, fun h11 => ⟨by simp; omega, h6, by omega, by simp [hlb]; omega, by simp [hlb, hofl]; omega, ?_⟩⟩⟩
    all_goals
      rw [k2]
      unfold fheadS fctl
    · rw [if_pos h10]
    · rw [if_neg (by simp [h10]), if_pos h11]
    · rw [if_neg (by simp [h10]), if_neg (by simp [h11])]
  · have hr : f.Remote = true := by simpa using h8
    obtain ⟨k1, k2⟩ := key f.Size h3 (by omega) (fun e => by rw [hr] at e; cases e) (fun _ => rfl)
    rw [k1, hof]
    refine ⟨fun h10 => ⟨by simp; omega, h6, by omega, by simp [hlb]; omega, by simp [hlb, hofl]; omega, ?_⟩, fun h10 => ⟨fun h11 => ⟨by simp; omega, h6, by omega, by simp [hlb]; omega, by simp [hlb, hofl]; omega, ?_⟩, fun h11 => ⟨by simp; omega, h6, by omega, by simp [hlb]; omega, by simp [hlb, hofl]; omega, ?_⟩⟩⟩
    all_goals
      rw [k2]
      unfold fheadS fctl
    · rw [if_pos h10]
    · rw [if_neg (by simp [h10]), if_pos h11]
    · rw [if_neg (by simp [h10]), if_neg (by simp [h11])]
def deBruijn64 : List Int := [0, 1, 56, 2, 57, 49, 28, 3, 61, 58, 42, 50, 38, 29, 17, 4, 62, 47, 59, 36, 45, 43, 51, 22, 53, 39, 33, 30, 24, 18, 12, 5, 63, 55, 48, 27, 60, 41, 37, 16, 46, 35, 44, 21, 52, 32, 23, 11, 54, 26, 40, 15, 34, 20, 31, 10, 25, 14, 19, 9, 13, 8, 7, 6]
def fNameS (f : Frame) : List UInt8 × Int := if fcheckfr f ≠ 0 then ([], fcheckfr f) else (fnameS f, 0)
theorem fName_ok (f : Frame) : fName_vc f (fun r => r = fNameS f) := by
  intro _
  refine ⟨fun h => ?_, fun h => ?_⟩
  · have h : fcheckfr f ≠ 0 := by simpa using h
    unfold fNameS
    rw [if_pos h]
  · have h0 : fcheckfr f = 0 := by simpa using h
    have hz := fcheckfr_zero h0
    unfold fNameS
    rw [if_neg (fun hc => hc h0)]
    exact ⟨⟨hz.1, hz.2.1⟩, rfl⟩
def sameS (a b : Frame) : Bool := decide (a = b)
theorem same_eq (a b : Frame) : ((((((a.ID == b.ID) && (a.Long == b.Long)) && (a.Fast == b.Fast)) && (a.Remote == b.Remote)) && (a.Size == b.Size)) && (beqS a.Data b.Data)) = sameS a b := by
  obtain ⟨a1, a2, a3, a4, a5, a6⟩ := a
  obtain ⟨b1, b2, b3, b4, b5, b6⟩ := b
  rw [Bool.eq_iff_iff]
  simp [sameS, beqS, and_assoc]
theorem fSame_ok (a b : Frame) : fSame_vc a b (fun r => r = sameS a b) := fun _ _ => same_eq a b
theorem rSame_ok (a b : Frame) : rSame_vc a b (fun r => r = sameS a b) := fun _ _ => same_eq a b
def rfailS (r : FReader) (e : Int) : FReader := if r.Reader.Code = 0 then ⟨⟨r.Reader.Row, r.Reader.At, e, r.Reader.c⟩, r.f⟩ else r
theorem rfail_ok (r : FReader) (e : Int) : rfail_vc r e (fun q => q = rfailS r e) := by
  intro _
  refine ⟨fun h => ?_, fun h => ?_⟩
  · unfold rfailS
    rw [if_pos (by simpa using h)]
  · unfold rfailS
    rw [if_neg (by simpa using h)]
theorem rfailS_f (r : FReader) (e : Int) : (rfailS r e).f = r.f := by unfold rfailS; split <;> rfl
theorem rfailS_Rok {r : FReader} {e : Int} (h : Rok r.Reader) : Rok (rfailS r e).Reader := by unfold rfailS; split <;> exact h
theorem rfailS_Row (r : FReader) (e : Int) : (rfailS r e).Reader.Row = r.Reader.Row ∧ (rfailS r e).Reader.At = r.Reader.At ∧ (rfailS r e).Reader.c = r.Reader.c := by unfold rfailS; split <;> exact ⟨rfl, rfl, rfl⟩
/-- What is taken leaves the reader right. -/
theorem rtakeS_Rok {r : Reader} (n : Int) (h : Rok r) : Rok (rtakeS r n).2 ∧ (rtakeS r n).2.Row = r.Row ∧ (r.Code ≠ 0 → rtakeS r n = ([], r)) ∧ ((rtakeS r n).2.Code ≠ 0 → (rtakeS r n).1 = []) := by
  by_cases hc : r.Code = 0
  · have := rloop_take n.toNat r [] h hc
    unfold rtakeS
    obtain ⟨a0, a1, a2, a3, a4, a5⟩ := h
    cases hT : takeF r.c (r.Row.drop r.At.toNat) n.toNat with
    | ok q =>
      rw [hT] at this
      obtain ⟨g1, g2, g3, g4, g5, g6, g7⟩ := this
      rw [g1]
      exact ⟨⟨by (try dsimp only); omega, by (try dsimp only); omega, a2, a3, g5, g6⟩, rfl, fun e => absurd hc e, fun e => absurd rfl e⟩
    | error e =>
      rw [hT] at this
      obtain ⟨q, g1, g2, g3, g4, g5⟩ := this
      rw [g1]
      exact ⟨g5, g4, fun e => absurd hc e, fun _ => rfl⟩
  · have e : rtakeS r n = ([], r) := by unfold rtakeS; exact rloop_bad _ _ _ hc
    rw [e]
    exact ⟨h, rfl, fun _ => rfl, fun _ => rfl⟩
/-- What is taken, of how much is left. -/
theorem rtakeS_take {r : Reader} {n : Nat} (h : Rok r) (hc : r.Code = 0) : match takeF r.c (r.Row.drop r.At.toNat) n with
    | .ok q => rtakeS r n = (q.1, ⟨r.Row, (r.Row.length : Int) - (q.2.1.length : Int), 0, q.2.2⟩) ∧ q.2.1.length ≤ r.Row.length ∧ q.2.1 = r.Row.drop (r.Row.length - q.2.1.length) ∧ r.At.toNat + n + q.2.1.length ≤ r.Row.length ∧ 0 ≤ q.2.2.n ∧ q.2.2.n ≤ 4 ∧ q.1.length = n
    | .error e => ∃ q, rtakeS r n = ([], q) ∧ q.Code = e ∧ e ≠ 0 ∧ q.Row = r.Row ∧ Rok q := by
  have := rloop_take n r [] h hc
  unfold rtakeS
  rw [Int.toNat_natCast]
  exact this
theorem takeF_row : ∀ (n : Nat) (c : Counter) (r : List UInt8) q, isRow r = true → takeF c r n = .ok q → isRow q.1 = true := by
  intro n
  induction n with
  | zero => intro c r q _ h; rw [takeF] at h; cases h; rfl
  | succ n ih =>
    intro c r q hr h
    cases r with
    | nil => rw [takeF] at h; cases h
    | cons b r =>
      rw [isRow_cons, Bool.and_eq_true] at hr
      rw [takeF_cons] at h
      split at h
      · cases r with
        | nil => cases h
        | cons y r' =>
          rw [isRow_cons, Bool.and_eq_true] at hr
          dsimp only at h
          split at h
          · cases hT : takeF (nx (nx c b) (flip b)) r' n with
            | error e => rw [hT] at h; cases h
            | ok p => rw [hT] at h; cases h; rw [isRow_cons, hr.1, ih _ _ _ hr.2.2 hT]; rfl
          · cases h
      · cases hT : takeF (nx c b) r n with
        | error e => rw [hT] at h; cases h
        | ok p => rw [hT] at h; cases h; rw [isRow_cons, hr.1, ih _ _ _ hr.2 hT]; rfl
theorem rtakeS_row {r : Reader} {n : Int} (h : Rok r) : isRow (rtakeS r n).1 = true ∧ (rtakeS r n).1.length ≤ n.toNat ∧ ((rtakeS r n).2.Code = 0 → (rtakeS r n).1.length = n.toNat) := by
  by_cases hc : r.Code = 0
  · have := rloop_take n.toNat r [] h hc
    unfold rtakeS
    cases hT : takeF r.c (r.Row.drop r.At.toNat) n.toNat with
    | ok q =>
      rw [hT] at this
      obtain ⟨g1, g2, g3, g4, g5, g6, g7⟩ := this
      rw [g1]
      refine ⟨takeF_row _ _ _ _ (isRow_drop h.2.2.2.1 _) hT, by simp [g7], fun _ => by simp [g7]⟩
    | error e =>
      rw [hT] at this
      obtain ⟨q, g1, g2, g3, g4, g5⟩ := this
      rw [g1]
      exact ⟨rfl, by simp, fun e2 => absurd (g2.symm.trans e2) g3⟩
  · have e : rtakeS r n = ([], r) := by unfold rtakeS; exact rloop_bad _ _ _ hc
    rw [e]
    exact ⟨rfl, by simp, fun e2 => absurd e2 hc⟩

end Go.Proofs.YtmbdcehmeiiaoaaGreatDoor
