/- What must hold so that each function ends well: pure predicates, made by program. -/
import Derived.Test.YtginlmgkimfjmaaPDc
set_option linter.unusedVariables false
set_option linter.unusedSimpArgs false
namespace Go.Proofs.Ytginlmgkimfjmaa
open Go.Sy Go.RowKit
def fcheckfr_vc (u0 : Frame) (K : Int → Prop) : Prop :=
  (u0.Data.length ≤ 140737488355328 →
    (((((decide (u0.ID < 0)) || ((!u0.Long) && (decide (u0.ID > 2047)))) || (decide (u0.ID > 536870911))) = true →
      (K 3)) ∧
    ((((decide (u0.ID < 0)) || ((!u0.Long) && (decide (u0.ID > 2047)))) || (decide (u0.ID > 536870911))) = false →
      (((u0.Remote && (u0.Fast || (decide ((u0.Data.length : Int) > 0)))) = true →
        (K 4)) ∧
      ((u0.Remote && (u0.Fast || (decide ((u0.Data.length : Int) > 0)))) = false →
        (((((decide (u0.Size < 0)) || (decide (u0.Size > 8))) || ((!u0.Remote) && (u0.Size != 0))) = true →
          (K 3)) ∧
        ((((decide (u0.Size < 0)) || (decide (u0.Size > 8))) || ((!u0.Remote) && (u0.Size != 0))) = false →
          ((((decide ((u0.Data.length : Int) > 64)) || ((!u0.Fast) && (decide ((u0.Data.length : Int) > 8)))) = true →
            (K 2)) ∧
          (((decide ((u0.Data.length : Int) > 64)) || ((!u0.Fast) && (decide ((u0.Data.length : Int) > 8)))) = false →
            (((!(scontainsS fsizes (u0.Data.length : Int))) = true →
              (K 4)) ∧
            ((!(scontainsS fsizes (u0.Data.length : Int))) = false →
              (K 0))))))))))))
theorem fcheckfr_mono {u0 : Frame} {K K1 : Int → Prop} (hK : ∀ r, K r → K1 r) (h : fcheckfr_vc u0 K) : fcheckfr_vc u0 K1 :=
  fun z0 => ⟨fun c1 => hK _ ((h z0).1 c1), fun c1 => ⟨fun c2 => hK _ (((h z0).2 c1).1 c2), fun c2 => ⟨fun c3 => hK _ ((((h z0).2 c1).2 c2).1 c3), fun c3 => ⟨fun c4 => hK _ (((((h z0).2 c1).2 c2).2 c3).1 c4), fun c4 => ⟨fun c5 => hK _ ((((((h z0).2 c1).2 c2).2 c3).2 c4).1 c5), fun c5 => hK _ ((((((h z0).2 c1).2 c2).2 c3).2 c4).2 c5)⟩⟩⟩⟩⟩
def fcheckfr (u0 : Frame) : Int :=
  bif ((decide (u0.ID < 0)) || ((!u0.Long) && (decide (u0.ID > 2047)))) || (decide (u0.ID > 536870911)) then 3
    else bif u0.Remote && (u0.Fast || (decide ((u0.Data.length : Int) > 0))) then 4
    else bif ((decide (u0.Size < 0)) || (decide (u0.Size > 8))) || ((!u0.Remote) && (u0.Size != 0)) then 3
    else bif (decide ((u0.Data.length : Int) > 64)) || ((!u0.Fast) && (decide ((u0.Data.length : Int) > 8))) then 2
    else bif !(scontainsS fsizes (u0.Data.length : Int)) then 4
    else 0
theorem fcheckfr_ok (u0 : Frame) : fcheckfr_vc u0 (fun r => r = fcheckfr u0) := (fun _ => ⟨fun h0 => (by simp only [fcheckfr, h0, cond_true, cond_false]), fun h0 => ⟨fun h1 => (by simp only [fcheckfr, h0, h1, cond_true, cond_false]), fun h1 => ⟨fun h2 => (by simp only [fcheckfr, h0, h1, h2, cond_true, cond_false]), fun h2 => ⟨fun h3 => (by simp only [fcheckfr, h0, h1, h2, h3, cond_true, cond_false]), fun h3 => ⟨fun h4 => (by simp only [fcheckfr, h0, h1, h2, h3, h4, cond_true, cond_false]), fun h4 => (by simp only [fcheckfr, h0, h1, h2, h3, h4, cond_true, cond_false])⟩⟩⟩⟩⟩)

def csize_vc (u0 : Int) (K : (Int × Int) → Prop) : Prop :=
  ((((decide (u0 < 0)) || (decide (u0 ≥ 5))) = true →
      (K (0, 8))) ∧
    (((decide (u0 < 0)) || (decide (u0 ≥ 5))) = false →
      ((0 ≤ u0 ∧ u0 < 5) ∧
      (K (([ckinds.1.Size, ckinds.2.1.Size, ckinds.2.2.1.Size, ckinds.2.2.2.1.Size, ckinds.2.2.2.2.Size] : List Int).getD u0.toNat 0, 0)))))
theorem csize_mono {u0 : Int} {K K1 : (Int × Int) → Prop} (hK : ∀ r, K r → K1 r) (h : csize_vc u0 K) : csize_vc u0 K1 :=
  ⟨fun c0 => hK _ (h.1 c0), fun c0 => ⟨(h.2 c0).1, hK _ ((h.2 c0).2)⟩⟩
def csize (u0 : Int) : Int × Int :=
  bif (decide (u0 < 0)) || (decide (u0 ≥ 5)) then (0, 8)
    else (([ckinds.1.Size, ckinds.2.1.Size, ckinds.2.2.1.Size, ckinds.2.2.2.1.Size, ckinds.2.2.2.2.Size] : List Int).getD u0.toNat 0, 0)
theorem csize_ok (u0 : Int) : csize_vc u0 (fun r => r = csize u0) := ⟨fun h0 => (by simp only [csize, h0, cond_true, cond_false]), fun h0 => ⟨(by (try simp at h0); omega), (by simp only [csize, h0, cond_true, cond_false])⟩⟩

def fhead_vc (u0 : Frame) (K : (List UInt8) → Prop) : Prop :=
  (u0.Data.length ≤ 140737488355328 →
    (((!u0.Remote) = true →
      ((0 ≤ u0.ID ∧ u0.ID ≤ 536870911) ∧
      (((([48] : List UInt8).length : Int) + ((fnameS u0).length : Int) ≤ 9223372036854775807) ∧
      ((u0.Fast = true →
        ((((([48] : List UInt8) ++ (fnameS u0)).length : Int) + (([49, 48, 49, 48] : List UInt8).length : Int) ≤ 9223372036854775807) ∧
        ((∀ x ∈ u0.Data, 0 ≤ x ∧ x ≤ 255) ∧
        ((0 ≤ (4 : Int) ∧ (4 : Int) ≤ 64 ∧ 0 ≤ (wu64 (sindexS fsizes (u0.Data.length : Int))) ∧ (wu64 (sindexS fsizes (u0.Data.length : Int))) < 2 ^ 62) ∧
        (((((([48] : List UInt8) ++ (fnameS u0)) ++ ([49, 48, 49, 48] : List UInt8)).length : Int) + ((bwriteS (wu64 (sindexS fsizes (u0.Data.length : Int))) 4).length : Int) ≤ 9223372036854775807) ∧
        ((((((([48] : List UInt8) ++ (fnameS u0)) ++ ([49, 48, 49, 48] : List UInt8)) ++ (bwriteS (wu64 (sindexS fsizes (u0.Data.length : Int))) 4)).length : Int) + (((bofS u0.Data).1).length : Int) ≤ 9223372036854775807) ∧
        (K ((((([48] : List UInt8) ++ (fnameS u0)) ++ ([49, 48, 49, 48] : List UInt8)) ++ (bwriteS (wu64 (sindexS fsizes (u0.Data.length : Int))) 4)) ++ ((bofS u0.Data).1))))))))) ∧
      (u0.Fast = false →
        ((u0.Long = true →
          ((((([48] : List UInt8) ++ (fnameS u0)).length : Int) + (([48, 48] : List UInt8).length : Int) ≤ 9223372036854775807) ∧
          ((∀ x ∈ u0.Data, 0 ≤ x ∧ x ≤ 255) ∧
          ((0 ≤ (4 : Int) ∧ (4 : Int) ≤ 64 ∧ 0 ≤ (wu64 (sindexS fsizes (u0.Data.length : Int))) ∧ (wu64 (sindexS fsizes (u0.Data.length : Int))) < 2 ^ 62) ∧
          (((((([48] : List UInt8) ++ (fnameS u0)) ++ ([48, 48] : List UInt8)).length : Int) + ((bwriteS (wu64 (sindexS fsizes (u0.Data.length : Int))) 4).length : Int) ≤ 9223372036854775807) ∧
          ((((((([48] : List UInt8) ++ (fnameS u0)) ++ ([48, 48] : List UInt8)) ++ (bwriteS (wu64 (sindexS fsizes (u0.Data.length : Int))) 4)).length : Int) + (((bofS u0.Data).1).length : Int) ≤ 9223372036854775807) ∧
          (K ((((([48] : List UInt8) ++ (fnameS u0)) ++ ([48, 48] : List UInt8)) ++ (bwriteS (wu64 (sindexS fsizes (u0.Data.length : Int))) 4)) ++ ((bofS u0.Data).1))))))))) ∧
        (u0.Long = false →
          ((((([48] : List UInt8) ++ (fnameS u0)).length : Int) + (([48] : List UInt8).length : Int) ≤ 9223372036854775807) ∧
          ((∀ x ∈ u0.Data, 0 ≤ x ∧ x ≤ 255) ∧
          ((0 ≤ (4 : Int) ∧ (4 : Int) ≤ 64 ∧ 0 ≤ (wu64 (sindexS fsizes (u0.Data.length : Int))) ∧ (wu64 (sindexS fsizes (u0.Data.length : Int))) < 2 ^ 62) ∧
          (((((([48] : List UInt8) ++ (fnameS u0)) ++ ([48] : List UInt8)).length : Int) + ((bwriteS (wu64 (sindexS fsizes (u0.Data.length : Int))) 4).length : Int) ≤ 9223372036854775807) ∧
          ((((((([48] : List UInt8) ++ (fnameS u0)) ++ ([48] : List UInt8)) ++ (bwriteS (wu64 (sindexS fsizes (u0.Data.length : Int))) 4)).length : Int) + (((bofS u0.Data).1).length : Int) ≤ 9223372036854775807) ∧
          (K ((((([48] : List UInt8) ++ (fnameS u0)) ++ ([48] : List UInt8)) ++ (bwriteS (wu64 (sindexS fsizes (u0.Data.length : Int))) 4)) ++ ((bofS u0.Data).1))))))))))))))) ∧
    ((!u0.Remote) = false →
      ((0 ≤ u0.ID ∧ u0.ID ≤ 536870911) ∧
      (((([48] : List UInt8).length : Int) + ((fnameS u0).length : Int) ≤ 9223372036854775807) ∧
      ((u0.Fast = true →
        ((((([48] : List UInt8) ++ (fnameS u0)).length : Int) + (([49, 48, 49, 48] : List UInt8).length : Int) ≤ 9223372036854775807) ∧
        ((∀ x ∈ u0.Data, 0 ≤ x ∧ x ≤ 255) ∧
        ((0 ≤ (4 : Int) ∧ (4 : Int) ≤ 64 ∧ 0 ≤ (wu64 u0.Size) ∧ (wu64 u0.Size) < 2 ^ 62) ∧
        (((((([48] : List UInt8) ++ (fnameS u0)) ++ ([49, 48, 49, 48] : List UInt8)).length : Int) + ((bwriteS (wu64 u0.Size) 4).length : Int) ≤ 9223372036854775807) ∧
        ((((((([48] : List UInt8) ++ (fnameS u0)) ++ ([49, 48, 49, 48] : List UInt8)) ++ (bwriteS (wu64 u0.Size) 4)).length : Int) + (((bofS u0.Data).1).length : Int) ≤ 9223372036854775807) ∧
        (K ((((([48] : List UInt8) ++ (fnameS u0)) ++ ([49, 48, 49, 48] : List UInt8)) ++ (bwriteS (wu64 u0.Size) 4)) ++ ((bofS u0.Data).1))))))))) ∧
      (u0.Fast = false →
        ((u0.Long = true →
          ((((([48] : List UInt8) ++ (fnameS u0)).length : Int) + (([48, 48] : List UInt8).length : Int) ≤ 9223372036854775807) ∧
          ((∀ x ∈ u0.Data, 0 ≤ x ∧ x ≤ 255) ∧
          ((0 ≤ (4 : Int) ∧ (4 : Int) ≤ 64 ∧ 0 ≤ (wu64 u0.Size) ∧ (wu64 u0.Size) < 2 ^ 62) ∧
          (((((([48] : List UInt8) ++ (fnameS u0)) ++ ([48, 48] : List UInt8)).length : Int) + ((bwriteS (wu64 u0.Size) 4).length : Int) ≤ 9223372036854775807) ∧
          ((((((([48] : List UInt8) ++ (fnameS u0)) ++ ([48, 48] : List UInt8)) ++ (bwriteS (wu64 u0.Size) 4)).length : Int) + (((bofS u0.Data).1).length : Int) ≤ 9223372036854775807) ∧
          (K ((((([48] : List UInt8) ++ (fnameS u0)) ++ ([48, 48] : List UInt8)) ++ (bwriteS (wu64 u0.Size) 4)) ++ ((bofS u0.Data).1))))))))) ∧
        (u0.Long = false →
          ((((([48] : List UInt8) ++ (fnameS u0)).length : Int) + (([48] : List UInt8).length : Int) ≤ 9223372036854775807) ∧
          ((∀ x ∈ u0.Data, 0 ≤ x ∧ x ≤ 255) ∧
          ((0 ≤ (4 : Int) ∧ (4 : Int) ≤ 64 ∧ 0 ≤ (wu64 u0.Size) ∧ (wu64 u0.Size) < 2 ^ 62) ∧
          (((((([48] : List UInt8) ++ (fnameS u0)) ++ ([48] : List UInt8)).length : Int) + ((bwriteS (wu64 u0.Size) 4).length : Int) ≤ 9223372036854775807) ∧
          ((((((([48] : List UInt8) ++ (fnameS u0)) ++ ([48] : List UInt8)) ++ (bwriteS (wu64 u0.Size) 4)).length : Int) + (((bofS u0.Data).1).length : Int) ≤ 9223372036854775807) ∧
          (K ((((([48] : List UInt8) ++ (fnameS u0)) ++ ([48] : List UInt8)) ++ (bwriteS (wu64 u0.Size) 4)) ++ ((bofS u0.Data).1)))))))))))))))))
theorem fhead_mono {u0 : Frame} {K K1 : (List UInt8) → Prop} (hK : ∀ r, K r → K1 r) (h : fhead_vc u0 K) : fhead_vc u0 K1 :=
  fun z0 => ⟨fun c1 => ⟨((h z0).1 c1).1, ⟨(((h z0).1 c1).2).1, ⟨fun c4 => ⟨(((((h z0).1 c1).2).2).1 c4).1, ⟨((((((h z0).1 c1).2).2).1 c4).2).1, ⟨(((((((h z0).1 c1).2).2).1 c4).2).2).1, ⟨((((((((h z0).1 c1).2).2).1 c4).2).2).2).1, ⟨(((((((((h z0).1 c1).2).2).1 c4).2).2).2).2).1, hK _ ((((((((((h z0).1 c1).2).2).1 c4).2).2).2).2).2)⟩⟩⟩⟩⟩, fun c4 => ⟨fun c5 => ⟨((((((h z0).1 c1).2).2).2 c4).1 c5).1, ⟨(((((((h z0).1 c1).2).2).2 c4).1 c5).2).1, ⟨((((((((h z0).1 c1).2).2).2 c4).1 c5).2).2).1, ⟨(((((((((h z0).1 c1).2).2).2 c4).1 c5).2).2).2).1, ⟨((((((((((h z0).1 c1).2).2).2 c4).1 c5).2).2).2).2).1, hK _ (((((((((((h z0).1 c1).2).2).2 c4).1 c5).2).2).2).2).2)⟩⟩⟩⟩⟩, fun c5 => ⟨((((((h z0).1 c1).2).2).2 c4).2 c5).1, ⟨(((((((h z0).1 c1).2).2).2 c4).2 c5).2).1, ⟨((((((((h z0).1 c1).2).2).2 c4).2 c5).2).2).1, ⟨(((((((((h z0).1 c1).2).2).2 c4).2 c5).2).2).2).1, ⟨((((((((((h z0).1 c1).2).2).2 c4).2 c5).2).2).2).2).1, hK _ (((((((((((h z0).1 c1).2).2).2 c4).2 c5).2).2).2).2).2)⟩⟩⟩⟩⟩⟩⟩⟩⟩, fun c1 => ⟨((h z0).2 c1).1, ⟨(((h z0).2 c1).2).1, ⟨fun c4 => ⟨(((((h z0).2 c1).2).2).1 c4).1, ⟨((((((h z0).2 c1).2).2).1 c4).2).1, ⟨(((((((h z0).2 c1).2).2).1 c4).2).2).1, ⟨((((((((h z0).2 c1).2).2).1 c4).2).2).2).1, ⟨(((((((((h z0).2 c1).2).2).1 c4).2).2).2).2).1, hK _ ((((((((((h z0).2 c1).2).2).1 c4).2).2).2).2).2)⟩⟩⟩⟩⟩, fun c4 => ⟨fun c5 => ⟨((((((h z0).2 c1).2).2).2 c4).1 c5).1, ⟨(((((((h z0).2 c1).2).2).2 c4).1 c5).2).1, ⟨((((((((h z0).2 c1).2).2).2 c4).1 c5).2).2).1, ⟨(((((((((h z0).2 c1).2).2).2 c4).1 c5).2).2).2).1, ⟨((((((((((h z0).2 c1).2).2).2 c4).1 c5).2).2).2).2).1, hK _ (((((((((((h z0).2 c1).2).2).2 c4).1 c5).2).2).2).2).2)⟩⟩⟩⟩⟩, fun c5 => ⟨((((((h z0).2 c1).2).2).2 c4).2 c5).1, ⟨(((((((h z0).2 c1).2).2).2 c4).2 c5).2).1, ⟨((((((((h z0).2 c1).2).2).2 c4).2 c5).2).2).1, ⟨(((((((((h z0).2 c1).2).2).2 c4).2 c5).2).2).2).1, ⟨((((((((((h z0).2 c1).2).2).2 c4).2 c5).2).2).2).2).1, hK _ (((((((((((h z0).2 c1).2).2).2 c4).2 c5).2).2).2).2).2)⟩⟩⟩⟩⟩⟩⟩⟩⟩⟩

end Go.Proofs.Ytginlmgkimfjmaa
