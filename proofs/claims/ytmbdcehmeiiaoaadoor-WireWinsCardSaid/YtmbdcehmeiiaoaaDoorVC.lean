/- What must hold so that each function ends well: pure predicates, made by program. -/
import Derived.Test.YtmbdcehmeiiaoaaDoorPB
set_option linter.unusedVariables false
set_option linter.unusedSimpArgs false
namespace Go.Proofs.YtmbdcehmeiiaoaaDoor
open Go.Sy Go.RowKit
def fhead_vc (u0 : Frame) (K : (List UInt8) → Prop) : Prop :=
  (u0.Data.length ≤ 140737488355328 →
    (((!u0.Remote) = true →
      ((0 ≤ u0.ID ∧ u0.ID ≤ 536870911) ∧
      (((([48] : List UInt8).length : Int) + ((fnameS u0).length : Int) ≤ 9223372036854775807) ∧
      ((u0.Fast = true →
        ((((([48] : List UInt8) ++ (fnameS u0)).length : Int) + (([49, 48, 49, 48] : List UInt8).length : Int) ≤ 9223372036854775807) ∧
        ((∀ x ∈ u0.Data, 0 ≤ x ∧ x ≤ 255) ∧
        ((0 ≤ (4 : Int) ∧ (4 : Int) ≤ 64 ∧ 0 ≤ (wu64 (sindexS fsizes (u0.Data.length : Int))) ∧ (wu64 (sindexS fsizes (u0.Data.length : Int))) < 2 ^ 62) ∧
        (((((([48] : List UInt8) ++ (fnameS u0)) ++ ([49, 48, 49, 48] : List UInt8)).length : Int) + ((bwriteS (wu64 (sindexS fsizes (u0.Data.length : Int))) 4).length : Int) ≤ 9223372036854775807) ∧
        ((((((([48] : List UInt8) ++ (fnameS u0)) ++ ([49, 48, 49, 48] : List UInt8)) ++ (bwriteS (wu64 (sindexS fsizes (u0.Data.length : Int))) 4)).length : Int) + (((bofS u0.Data).1).length : Int) ≤ 9223372036854775807) ∧
        (K ((((([48] : List UInt8) ++ (fnameS u0)) ++ ([49, 48, 49, 48] : List UInt8)) ++ (bwriteS (wu64 (sindexS fsizes (u0.Data.length : Int))) 4)) ++ ((bofS u0.Data).1))))))))) ∧
      (u0.Fast = false →
        ((u0.Long = true →
          ((((([48] : List UInt8) ++ (fnameS u0)).length : Int) + (([48, 48] : List UInt8).length : Int) ≤ 9223372036854775807) ∧
          ((∀ x ∈ u0.Data, 0 ≤ x ∧ x ≤ 255) ∧
          ((0 ≤ (4 : Int) ∧ (4 : Int) ≤ 64 ∧ 0 ≤ (wu64 (sindexS fsizes (u0.Data.length : Int))) ∧ (wu64 (sindexS fsizes (u0.Data.length : Int))) < 2 ^ 62) ∧
          (((((([48] : List UInt8) ++ (fnameS u0)) ++ ([48, 48] : List UInt8)).length : Int) + ((bwriteS (wu64 (sindexS fsizes (u0.Data.length : Int))) 4).length : Int) ≤ 9223372036854775807) ∧
          ((((((([48] : List UInt8) ++ (fnameS u0)) ++ ([48, 48] : List UInt8)) ++ (bwriteS (wu64 (sindexS fsizes (u0.Data.length : Int))) 4)).length : Int) + (((bofS u0.Data).1).length : Int) ≤ 9223372036854775807) ∧
          (K ((((([48] : List UInt8) ++ (fnameS u0)) ++ ([48, 48] : List UInt8)) ++ (bwriteS (wu64 (sindexS fsizes (u0.Data.length : Int))) 4)) ++ ((bofS u0.Data).1))))))))) ∧
        (u0.Long = false →
          ((((([48] : List UInt8) ++ (fnameS u0)).length : Int) + (([48] : List UInt8).length : Int) ≤ 9223372036854775807) ∧
          ((∀ x ∈ u0.Data, 0 ≤ x ∧ x ≤ 255) ∧
          ((0 ≤ (4 : Int) ∧ (4 : Int) ≤ 64 ∧ 0 ≤ (wu64 (sindexS fsizes (u0.Data.length : Int))) ∧ (wu64 (sindexS fsizes (u0.Data.length : Int))) < 2 ^ 62) ∧
          (((((([48] : List UInt8) ++ (fnameS u0)) ++ ([48] : List UInt8)).length : Int) + ((bwriteS (wu64 (sindexS fsizes (u0.Data.length : Int))) 4).length : Int) ≤ 9223372036854775807) ∧
          ((((((([48] : List UInt8) ++ (fnameS u0)) ++ ([48] : List UInt8)) ++ (bwriteS (wu64 (sindexS fsizes (u0.Data.length : Int))) 4)).length : Int) + (((bofS u0.Data).1).length : Int) ≤ 9223372036854775807) ∧
          (K ((((([48] : List UInt8) ++ (fnameS u0)) ++ ([48] : List UInt8)) ++ (bwriteS (wu64 (sindexS fsizes (u0.Data.length : Int))) 4)) ++ ((bofS u0.Data).1))))))))))))))) ∧
    ((!u0.Remote) = false →
      ((0 ≤ u0.ID ∧ u0.ID ≤ 536870911) ∧
      (((([48] : List UInt8).length : Int) + ((fnameS u0).length : Int) ≤ 9223372036854775807) ∧
      ((u0.Fast = true →
        ((((([48] : List UInt8) ++ (fnameS u0)).length : Int) + (([49, 48, 49, 48] : List UInt8).length : Int) ≤ 9223372036854775807) ∧
        ((∀ x ∈ u0.Data, 0 ≤ x ∧ x ≤ 255) ∧
        ((0 ≤ (4 : Int) ∧ (4 : Int) ≤ 64 ∧ 0 ≤ (wu64 u0.Size) ∧ (wu64 u0.Size) < 2 ^ 62) ∧
        (((((([48] : List UInt8) ++ (fnameS u0)) ++ ([49, 48, 49, 48] : List UInt8)).length : Int) + ((bwriteS (wu64 u0.Size) 4).length : Int) ≤ 9223372036854775807) ∧
        ((((((([48] : List UInt8) ++ (fnameS u0)) ++ ([49, 48, 49, 48] : List UInt8)) ++ (bwriteS (wu64 u0.Size) 4)).length : Int) + (((bofS u0.Data).1).length : Int) ≤ 9223372036854775807) ∧
        (K ((((([48] : List UInt8) ++ (fnameS u0)) ++ ([49, 48, 49, 48] : List UInt8)) ++ (bwriteS (wu64 u0.Size) 4)) ++ ((bofS u0.Data).1))))))))) ∧
      (u0.Fast = false →
        ((u0.Long = true →
          ((((([48] : List UInt8) ++ (fnameS u0)).length : Int) + (([48, 48] : List UInt8).length : Int) ≤ 9223372036854775807) ∧
          ((∀ x ∈ u0.Data, 0 ≤ x ∧ x ≤ 255) ∧
          ((0 ≤ (4 : Int) ∧ (4 : Int) ≤ 64 ∧ 0 ≤ (wu64 u0.Size) ∧ (wu64 u0.Size) < 2 ^ 62) ∧
          (((((([48] : List UInt8) ++ (fnameS u0)) ++ ([48, 48] : List UInt8)).length : Int) + ((bwriteS (wu64 u0.Size) 4).length : Int) ≤ 9223372036854775807) ∧
          ((((((([48] : List UInt8) ++ (fnameS u0)) ++ ([48, 48] : List UInt8)) ++ (bwriteS (wu64 u0.Size) 4)).length : Int) + (((bofS u0.Data).1).length : Int) ≤ 9223372036854775807) ∧
          (K ((((([48] : List UInt8) ++ (fnameS u0)) ++ ([48, 48] : List UInt8)) ++ (bwriteS (wu64 u0.Size) 4)) ++ ((bofS u0.Data).1))))))))) ∧
        (u0.Long = false →
          ((((([48] : List UInt8) ++ (fnameS u0)).length : Int) + (([48] : List UInt8).length : Int) ≤ 9223372036854775807) ∧
          ((∀ x ∈ u0.Data, 0 ≤ x ∧ x ≤ 255) ∧
          ((0 ≤ (4 : Int) ∧ (4 : Int) ≤ 64 ∧ 0 ≤ (wu64 u0.Size) ∧ (wu64 u0.Size) < 2 ^ 62) ∧
          (((((([48] : List UInt8) ++ (fnameS u0)) ++ ([48] : List UInt8)).length : Int) + ((bwriteS (wu64 u0.Size) 4).length : Int) ≤ 9223372036854775807) ∧
          ((((((([48] : List UInt8) ++ (fnameS u0)) ++ ([48] : List UInt8)) ++ (bwriteS (wu64 u0.Size) 4)).length : Int) + (((bofS u0.Data).1).length : Int) ≤ 9223372036854775807) ∧
          (K ((((([48] : List UInt8) ++ (fnameS u0)) ++ ([48] : List UInt8)) ++ (bwriteS (wu64 u0.Size) 4)) ++ ((bofS u0.Data).1)))))))))))))))))

def fName_vc (u0 : Frame) (K : ((List UInt8) × Int) → Prop) : Prop :=
  (u0.Data.length ≤ 140737488355328 →
    ((((fcheckfr u0) != 0) = true →
      (K ([], (fcheckfr u0)))) ∧
    (((fcheckfr u0) != 0) = false →
      ((0 ≤ u0.ID ∧ u0.ID ≤ 536870911) ∧
      (K ((fnameS u0), 0))))))

def fSame_vc (u0 : Frame) (u1 : Frame) (K : Bool → Prop) : Prop :=
  (u0.Data.length ≤ 140737488355328 →
    (u1.Data.length ≤ 140737488355328 →
    (K ((((((u0.ID == u1.ID) && (u0.Long == u1.Long)) && (u0.Fast == u1.Fast)) && (u0.Remote == u1.Remote)) && (u0.Size == u1.Size)) && (beqS u0.Data u1.Data)))))

def rSame_vc (u0 : Frame) (u1 : Frame) (K : Bool → Prop) : Prop :=
  (u0.Data.length ≤ 140737488355328 →
    (u1.Data.length ≤ 140737488355328 →
    (K ((((((u0.ID == u1.ID) && (u0.Long == u1.Long)) && (u0.Fast == u1.Fast)) && (u0.Remote == u1.Remote)) && (u0.Size == u1.Size)) && (beqS u0.Data u1.Data)))))

def rfail_vc (u0 : FReader) (u1 : Int) (K : FReader → Prop) : Prop :=
  (u0.f.Data.length ≤ 140737488355328 →
    (((u0.Reader.Code == 0) = true →
      (K (⟨(⟨u0.Reader.Row, u0.Reader.At, u1, u0.Reader.c⟩ : Reader), u0.f⟩ : FReader))) ∧
    ((u0.Reader.Code == 0) = false →
      (K u0))))

end Go.Proofs.YtmbdcehmeiiaoaaDoor
