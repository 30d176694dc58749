/- What must hold so that each function ends well: pure predicates, made by program. -/
import Derived.Test.YtinegicenfndkaaDoorPGe
set_option linter.unusedVariables false
set_option linter.unusedSimpArgs false
namespace Go.Proofs.YtinegicenfndkaaDoor
open Go.Sy Go.RowKit
def LGPut_vc (u0 : Int) (u1 : Int) (u2 : List Int) (K : Bool → Prop) : Prop :=
  (u2.length ≤ 140737488355328 →
    ((u2.length ≤ 140737488355328) ∧
    ((bcloneS u2).length ≤ 140737488355328 →
    ((∀ x ∈ (bcloneS u2), 0 ≤ x ∧ x ≤ 255) ∧
    (((gputS u0 u1 (bcloneS u2)).1).length ≤ 140737488355328 →
    ((((((decide (u0 < 0)) || (decide (u0 > 65535))) || (decide (u1 < 0))) || (decide (u1 > 14))) = true →
      ((((!(beqS (bcloneS u2) u2)) || true) = true →
        (K (((beqS (bcloneS u2) u2) && (((gputS u0 u1 (bcloneS u2)).2) == 3)) && ((((gputS u0 u1 (bcloneS u2)).1).length : Int) == 0)))) ∧
      (((!(beqS (bcloneS u2) u2)) || true) = false →
        ((u2.length ≤ 140737488355328) ∧
        ((bcloneS u2).length ≤ 140737488355328 →
        ((0 ≤ (1 : Int) ∧ (1 : Int) < ((bcloneS u2).length : Int)) ∧
        (∀ q209, (bcloneS u2)[(1 : Int).toNat]? = some q209 →
        ((0 ≤ (1 : Int) ∧ (1 : Int) < ((bcloneS u2).length : Int)) ∧
        (((0 ≤ u0 ∧ u0 ≤ 65535) ∧ (∀ x ∈ ((bcloneS u2).set (1 : Int).toNat (w8 ((w8 ((w8 (q209.tdiv 16)) * 16)) + (w8 u1)))), 0 ≤ x ∧ x ≤ 255) ∧ 1 ≤ ((bcloneS u2).set (1 : Int).toNat (w8 ((w8 ((w8 (q209.tdiv 16)) * 16)) + (w8 u1)))).length ∧ ((bcloneS u2).set (1 : Int).toNat (w8 ((w8 ((w8 (q209.tdiv 16)) * 16)) + (w8 u1)))).length ≤ 64) ∧
        ((0 ≤ (0 : Int) ∧ (0 : Int) < (((bcloneS u2).set (1 : Int).toNat (w8 ((w8 ((w8 (q209.tdiv 16)) * 16)) + (w8 u1)))).length : Int)) ∧
        (K ((((gputS u0 u1 (bcloneS u2)).2) == 0) && (beqS ((gputS u0 u1 (bcloneS u2)).1) (((bcloneS u2).set (1 : Int).toNat (w8 ((w8 ((w8 (q209.tdiv 16)) * 16)) + (w8 u1)))).set (0 : Int).toNat (gsumS u0 ((bcloneS u2).set (1 : Int).toNat (w8 ((w8 ((w8 (q209.tdiv 16)) * 16)) + (w8 u1))))))))))))))))))) ∧
    (((((decide (u0 < 0)) || (decide (u0 > 65535))) || (decide (u1 < 0))) || (decide (u1 > 14))) = false →
      (((decide ((u2.length : Int) < 2)) = true →
        ((((!(beqS (bcloneS u2) u2)) || true) = true →
          (K (((beqS (bcloneS u2) u2) && (((gputS u0 u1 (bcloneS u2)).2) == 7)) && ((((gputS u0 u1 (bcloneS u2)).1).length : Int) == 0)))) ∧
        (((!(beqS (bcloneS u2) u2)) || true) = false →
          ((u2.length ≤ 140737488355328) ∧
          ((bcloneS u2).length ≤ 140737488355328 →
          ((0 ≤ (1 : Int) ∧ (1 : Int) < ((bcloneS u2).length : Int)) ∧
          (∀ q418, (bcloneS u2)[(1 : Int).toNat]? = some q418 →
          ((0 ≤ (1 : Int) ∧ (1 : Int) < ((bcloneS u2).length : Int)) ∧
          (((0 ≤ u0 ∧ u0 ≤ 65535) ∧ (∀ x ∈ ((bcloneS u2).set (1 : Int).toNat (w8 ((w8 ((w8 (q418.tdiv 16)) * 16)) + (w8 u1)))), 0 ≤ x ∧ x ≤ 255) ∧ 1 ≤ ((bcloneS u2).set (1 : Int).toNat (w8 ((w8 ((w8 (q418.tdiv 16)) * 16)) + (w8 u1)))).length ∧ ((bcloneS u2).set (1 : Int).toNat (w8 ((w8 ((w8 (q418.tdiv 16)) * 16)) + (w8 u1)))).length ≤ 64) ∧
          ((0 ≤ (0 : Int) ∧ (0 : Int) < (((bcloneS u2).set (1 : Int).toNat (w8 ((w8 ((w8 (q418.tdiv 16)) * 16)) + (w8 u1)))).length : Int)) ∧
          (K ((((gputS u0 u1 (bcloneS u2)).2) == 0) && (beqS ((gputS u0 u1 (bcloneS u2)).1) (((bcloneS u2).set (1 : Int).toNat (w8 ((w8 ((w8 (q418.tdiv 16)) * 16)) + (w8 u1)))).set (0 : Int).toNat (gsumS u0 ((bcloneS u2).set (1 : Int).toNat (w8 ((w8 ((w8 (q418.tdiv 16)) * 16)) + (w8 u1))))))))))))))))))) ∧
      ((decide ((u2.length : Int) < 2)) = false →
        (((decide ((u2.length : Int) > 64)) = true →
          ((((!(beqS (bcloneS u2) u2)) || true) = true →
            (K (((beqS (bcloneS u2) u2) && (((gputS u0 u1 (bcloneS u2)).2) == 2)) && ((((gputS u0 u1 (bcloneS u2)).1).length : Int) == 0)))) ∧
          (((!(beqS (bcloneS u2) u2)) || true) = false →
            ((u2.length ≤ 140737488355328) ∧
            ((bcloneS u2).length ≤ 140737488355328 →
            ((0 ≤ (1 : Int) ∧ (1 : Int) < ((bcloneS u2).length : Int)) ∧
            (∀ q626, (bcloneS u2)[(1 : Int).toNat]? = some q626 →
            ((0 ≤ (1 : Int) ∧ (1 : Int) < ((bcloneS u2).length : Int)) ∧
            (((0 ≤ u0 ∧ u0 ≤ 65535) ∧ (∀ x ∈ ((bcloneS u2).set (1 : Int).toNat (w8 ((w8 ((w8 (q626.tdiv 16)) * 16)) + (w8 u1)))), 0 ≤ x ∧ x ≤ 255) ∧ 1 ≤ ((bcloneS u2).set (1 : Int).toNat (w8 ((w8 ((w8 (q626.tdiv 16)) * 16)) + (w8 u1)))).length ∧ ((bcloneS u2).set (1 : Int).toNat (w8 ((w8 ((w8 (q626.tdiv 16)) * 16)) + (w8 u1)))).length ≤ 64) ∧
            ((0 ≤ (0 : Int) ∧ (0 : Int) < (((bcloneS u2).set (1 : Int).toNat (w8 ((w8 ((w8 (q626.tdiv 16)) * 16)) + (w8 u1)))).length : Int)) ∧
            (K ((((gputS u0 u1 (bcloneS u2)).2) == 0) && (beqS ((gputS u0 u1 (bcloneS u2)).1) (((bcloneS u2).set (1 : Int).toNat (w8 ((w8 ((w8 (q626.tdiv 16)) * 16)) + (w8 u1)))).set (0 : Int).toNat (gsumS u0 ((bcloneS u2).set (1 : Int).toNat (w8 ((w8 ((w8 (q626.tdiv 16)) * 16)) + (w8 u1))))))))))))))))))) ∧
        ((decide ((u2.length : Int) > 64)) = false →
          ((((!(beqS (bcloneS u2) u2)) || false) = true →
            (K (((beqS (bcloneS u2) u2) && (((gputS u0 u1 (bcloneS u2)).2) == 0)) && ((((gputS u0 u1 (bcloneS u2)).1).length : Int) == 0)))) ∧
          (((!(beqS (bcloneS u2) u2)) || false) = false →
            ((u2.length ≤ 140737488355328) ∧
            ((bcloneS u2).length ≤ 140737488355328 →
            ((0 ≤ (1 : Int) ∧ (1 : Int) < ((bcloneS u2).length : Int)) ∧
            (∀ q820, (bcloneS u2)[(1 : Int).toNat]? = some q820 →
            ((0 ≤ (1 : Int) ∧ (1 : Int) < ((bcloneS u2).length : Int)) ∧
            (((0 ≤ u0 ∧ u0 ≤ 65535) ∧ (∀ x ∈ ((bcloneS u2).set (1 : Int).toNat (w8 ((w8 ((w8 (q820.tdiv 16)) * 16)) + (w8 u1)))), 0 ≤ x ∧ x ≤ 255) ∧ 1 ≤ ((bcloneS u2).set (1 : Int).toNat (w8 ((w8 ((w8 (q820.tdiv 16)) * 16)) + (w8 u1)))).length ∧ ((bcloneS u2).set (1 : Int).toNat (w8 ((w8 ((w8 (q820.tdiv 16)) * 16)) + (w8 u1)))).length ≤ 64) ∧
            ((0 ≤ (0 : Int) ∧ (0 : Int) < (((bcloneS u2).set (1 : Int).toNat (w8 ((w8 ((w8 (q820.tdiv 16)) * 16)) + (w8 u1)))).length : Int)) ∧
            (K ((((gputS u0 u1 (bcloneS u2)).2) == 0) && (beqS ((gputS u0 u1 (bcloneS u2)).1) (((bcloneS u2).set (1 : Int).toNat (w8 ((w8 ((w8 (q820.tdiv 16)) * 16)) + (w8 u1)))).set (0 : Int).toNat (gsumS u0 ((bcloneS u2).set (1 : Int).toNat (w8 ((w8 ((w8 (q820.tdiv 16)) * 16)) + (w8 u1)))))))))))))))))))))))))))))

def LGSee_vc (u0 : Guard) (u1 : List Int) (u2 : Int) (K : Bool → Prop) : Prop :=
  (u1.length ≤ 140737488355328 →
    ((∀ x ∈ u1, 0 ≤ x ∧ x ≤ 255) ∧
    (((((((((decide (u0.Key < 0)) || (decide (u0.Key > 65535))) || (decide (u0.Last < (-1)))) || (decide (u0.Last > 14))) || (decide (u0.Bad < 0))) || (decide (u0.State < 0))) || (decide (u0.State > 4))) = true →
      ((((gcheck u0) != 3) = true →
        (K false)) ∧
      (((gcheck u0) != 3) = false →
        (K ((((gseeS u0 u1 u2).2) == 3) && (((((gseeS u0 u1 u2).1).Key) == 0) && (((((gseeS u0 u1 u2).1).Last) == 0) && (((((gseeS u0 u1 u2).1).Bad) == 0) && (((((gseeS u0 u1 u2).1).State) == 0) && true))))))))) ∧
    ((((((((decide (u0.Key < 0)) || (decide (u0.Key > 65535))) || (decide (u0.Last < (-1)))) || (decide (u0.Last > 14))) || (decide (u0.Bad < 0))) || (decide (u0.State < 0))) || (decide (u0.State > 4))) = false →
      ((((gcheck u0) != 0) = true →
        (K false)) ∧
      (((gcheck u0) != 0) = false →
        ((((decide (u2 < 1)) || (decide (u2 > 14))) = true →
          (K ((((gseeS u0 u1 u2).2) == 3) && (((((gseeS u0 u1 u2).1).Key) == 0) && (((((gseeS u0 u1 u2).1).Last) == 0) && (((((gseeS u0 u1 u2).1).Bad) == 0) && (((((gseeS u0 u1 u2).1).State) == 0) && true))))))) ∧
        (((decide (u2 < 1)) || (decide (u2 > 14))) = false →
          (((decide ((u1.length : Int) < 2)) = true →
            (K ((((gseeS u0 u1 u2).2) == 7) && (((((gseeS u0 u1 u2).1).Key) == 0) && (((((gseeS u0 u1 u2).1).Last) == 0) && (((((gseeS u0 u1 u2).1).Bad) == 0) && (((((gseeS u0 u1 u2).1).State) == 0) && true))))))) ∧
          ((decide ((u1.length : Int) < 2)) = false →
            (((decide ((u1.length : Int) > 64)) = true →
              (K ((((gseeS u0 u1 u2).2) == 2) && (((((gseeS u0 u1 u2).1).Key) == 0) && (((((gseeS u0 u1 u2).1).Last) == 0) && (((((gseeS u0 u1 u2).1).Bad) == 0) && (((((gseeS u0 u1 u2).1).State) == 0) && true))))))) ∧
            ((decide ((u1.length : Int) > 64)) = false →
              ((0 ≤ (1 : Int) ∧ (1 : Int) < (u1.length : Int)) ∧
              (∀ q362, u1[(1 : Int).toNat]? = some q362 →
              ((((w64 (q362.tmod 16)) == 15) = true →
                (((decide ((w64 (u0.Bad + 1)) > 1000000)) = true →
                  (K ((((gseeS u0 u1 u2).2) == 0) && (((((gseeS u0 u1 u2).1).Key) == u0.Key) && (((((gseeS u0 u1 u2).1).Last) == u0.Last) && (((((gseeS u0 u1 u2).1).Bad) == 1000000) && (((((gseeS u0 u1 u2).1).State) == 4) && true))))))) ∧
                ((decide ((w64 (u0.Bad + 1)) > 1000000)) = false →
                  (K ((((gseeS u0 u1 u2).2) == 0) && (((((gseeS u0 u1 u2).1).Key) == u0.Key) && (((((gseeS u0 u1 u2).1).Last) == u0.Last) && (((((gseeS u0 u1 u2).1).Bad) == (w64 (u0.Bad + 1))) && (((((gseeS u0 u1 u2).1).State) == 4) && true))))))))) ∧
              (((w64 (q362.tmod 16)) == 15) = false →
                ((0 ≤ (0 : Int) ∧ (0 : Int) < (u1.length : Int)) ∧
                (∀ q529, u1[(0 : Int).toNat]? = some q529 →
                (((0 ≤ u0.Key ∧ u0.Key ≤ 65535) ∧ (∀ x ∈ u1, 0 ≤ x ∧ x ≤ 255) ∧ 1 ≤ u1.length ∧ u1.length ≤ 64) ∧
                (((!(q529 != (gsumS u0.Key u1))) = true →
                  ((((u0.Last == (-1)) || (((w64 ((w64 ((w64 (q362.tmod 16)) + 15)) - u0.Last)).tmod 15) == 1)) = true →
                    (((q529 != (gsumS u0.Key u1)) = true →
                      (K ((((gseeS u0 u1 u2).2) == 0) && (((((gseeS u0 u1 u2).1).Key) == u0.Key) && (((((gseeS u0 u1 u2).1).Last) == (w64 (q362.tmod 16))) && (((((gseeS u0 u1 u2).1).Bad) == 1) && (((((gseeS u0 u1 u2).1).State) == 4) && true))))))) ∧
                    ((q529 != (gsumS u0.Key u1)) = false →
                      (K ((((gseeS u0 u1 u2).2) == 0) && (((((gseeS u0 u1 u2).1).Key) == u0.Key) && (((((gseeS u0 u1 u2).1).Last) == (w64 (q362.tmod 16))) && (((((gseeS u0 u1 u2).1).Bad) == 0) && (((((gseeS u0 u1 u2).1).State) == 1) && true))))))))) ∧
                  (((u0.Last == (-1)) || (((w64 ((w64 ((w64 (q362.tmod 16)) + 15)) - u0.Last)).tmod 15) == 1)) = false →
                    (((((w64 ((w64 ((w64 (q362.tmod 16)) + 15)) - u0.Last)).tmod 15) == 0) = true →
                      (((q529 != (gsumS u0.Key u1)) = true →
                        (((decide ((w64 (u0.Bad + 1)) > 1000000)) = true →
                          (K ((((gseeS u0 u1 u2).2) == 0) && (((((gseeS u0 u1 u2).1).Key) == u0.Key) && (((((gseeS u0 u1 u2).1).Last) == (w64 (q362.tmod 16))) && (((((gseeS u0 u1 u2).1).Bad) == 1000000) && (((((gseeS u0 u1 u2).1).State) == 4) && true))))))) ∧
                        ((decide ((w64 (u0.Bad + 1)) > 1000000)) = false →
                          (K ((((gseeS u0 u1 u2).2) == 0) && (((((gseeS u0 u1 u2).1).Key) == u0.Key) && (((((gseeS u0 u1 u2).1).Last) == (w64 (q362.tmod 16))) && (((((gseeS u0 u1 u2).1).Bad) == (w64 (u0.Bad + 1))) && (((((gseeS u0 u1 u2).1).State) == 4) && true))))))))) ∧
                      ((q529 != (gsumS u0.Key u1)) = false →
                        (K ((((gseeS u0 u1 u2).2) == 0) && (((((gseeS u0 u1 u2).1).Key) == u0.Key) && (((((gseeS u0 u1 u2).1).Last) == (w64 (q362.tmod 16))) && (((((gseeS u0 u1 u2).1).Bad) == u0.Bad) && (((((gseeS u0 u1 u2).1).State) == 3) && true))))))))) ∧
                    ((((w64 ((w64 ((w64 (q362.tmod 16)) + 15)) - u0.Last)).tmod 15) == 0) = false →
                      (((decide (((w64 ((w64 ((w64 (q362.tmod 16)) + 15)) - u0.Last)).tmod 15) ≤ u2)) = true →
                        (((q529 != (gsumS u0.Key u1)) = true →
                          (K ((((gseeS u0 u1 u2).2) == 0) && (((((gseeS u0 u1 u2).1).Key) == u0.Key) && (((((gseeS u0 u1 u2).1).Last) == (w64 (q362.tmod 16))) && (((((gseeS u0 u1 u2).1).Bad) == 1) && (((((gseeS u0 u1 u2).1).State) == 4) && true))))))) ∧
                        ((q529 != (gsumS u0.Key u1)) = false →
                          (K ((((gseeS u0 u1 u2).2) == 0) && (((((gseeS u0 u1 u2).1).Key) == u0.Key) && (((((gseeS u0 u1 u2).1).Last) == (w64 (q362.tmod 16))) && (((((gseeS u0 u1 u2).1).Bad) == 0) && (((((gseeS u0 u1 u2).1).State) == 2) && true))))))))) ∧
                      ((decide (((w64 ((w64 ((w64 (q362.tmod 16)) + 15)) - u0.Last)).tmod 15) ≤ u2)) = false →
                        (((decide ((w64 (u0.Bad + 1)) > 1000000)) = true →
                          (K ((((gseeS u0 u1 u2).2) == 0) && (((((gseeS u0 u1 u2).1).Key) == u0.Key) && (((((gseeS u0 u1 u2).1).Last) == (w64 (q362.tmod 16))) && (((((gseeS u0 u1 u2).1).Bad) == 1000000) && (((((gseeS u0 u1 u2).1).State) == 4) && true))))))) ∧
                        ((decide ((w64 (u0.Bad + 1)) > 1000000)) = false →
                          (K ((((gseeS u0 u1 u2).2) == 0) && (((((gseeS u0 u1 u2).1).Key) == u0.Key) && (((((gseeS u0 u1 u2).1).Last) == (w64 (q362.tmod 16))) && (((((gseeS u0 u1 u2).1).Bad) == (w64 (u0.Bad + 1))) && (((((gseeS u0 u1 u2).1).State) == 4) && true))))))))))))))) ∧
                ((!(q529 != (gsumS u0.Key u1))) = false →
                  (((q529 != (gsumS u0.Key u1)) = true →
                    (((decide ((w64 (u0.Bad + 1)) > 1000000)) = true →
                      (K ((((gseeS u0 u1 u2).2) == 0) && (((((gseeS u0 u1 u2).1).Key) == u0.Key) && (((((gseeS u0 u1 u2).1).Last) == u0.Last) && (((((gseeS u0 u1 u2).1).Bad) == 1000000) && (((((gseeS u0 u1 u2).1).State) == 4) && true))))))) ∧
                    ((decide ((w64 (u0.Bad + 1)) > 1000000)) = false →
                      (K ((((gseeS u0 u1 u2).2) == 0) && (((((gseeS u0 u1 u2).1).Key) == u0.Key) && (((((gseeS u0 u1 u2).1).Last) == u0.Last) && (((((gseeS u0 u1 u2).1).Bad) == (w64 (u0.Bad + 1))) && (((((gseeS u0 u1 u2).1).State) == 4) && true))))))))) ∧
                  ((q529 != (gsumS u0.Key u1)) = false →
                    (K ((((gseeS u0 u1 u2).2) == 0) && (((((gseeS u0 u1 u2).1).Key) == u0.Key) && (((((gseeS u0 u1 u2).1).Last) == u0.Last) && (((((gseeS u0 u1 u2).1).Bad) == u0.Bad) && (((((gseeS u0 u1 u2).1).State) == u0.State) && true)))))))))))))))))))))))))))))

/-! Pure proofs: no program in sight. -/
theorem cnt_byte : ∀ (x : Fin 256) (c : Fin 15), w8 (w8 (w8 (((x.val : Nat) : Int).tdiv 16) * 16) + w8 ((c.val : Nat) : Int)) = bOr .u8 (bAnd .u8 ((x.val : Nat) : Int) 240) (w8 ((c.val : Nat) : Int)) := by decide +kernel
theorem and_mod : ∀ x : Fin 256, bAnd .u8 ((x.val : Nat) : Int) 15 = (((x.val : Nat) : Int)).tmod 16 := by decide +kernel
theorem beq_refl (a : List Int) : beqS a a = true := by unfold beqS; simp
theorem LGPut_ok (key c : Int) (d : List Int) (k0 : IntKind.i64.min ≤ key ∧ key ≤ IntKind.i64.max) (k1 : IntKind.i64.min ≤ c ∧ c ≤ IntKind.i64.max) (k2 : (∀ y0 ∈ d, IntKind.u8.min ≤ y0 ∧ y0 ≤ IntKind.u8.max) ∧ d.length * 1 ≤ lim) : LGPut_vc key c d (fun r => r = true) := by
  have hb : ∀ x ∈ d, 0 ≤ x ∧ x ≤ 255 := fun x hx => k2.1 x hx
  unfold LGPut_vc bcloneS
  rw [beq_refl]
  intro hl
  refine ⟨hl, fun _ => ⟨hb, fun _ => ⟨fun h1 => ?_, fun h1 => ⟨fun h2 => ?_, fun h2 => ⟨fun h3 => ?_, fun h3 => ?_⟩⟩⟩⟩⟩
  · have e : gputS key c d = ([], 3) := by
      unfold gputS
      rw [if_pos (by simp only [Bool.or_eq_true, decide_eq_true_eq] at h1; omega)]
    rw [e]
    exact ⟨fun _ => rfl, fun h => by simp at h⟩
  all_goals
    have h1 : ¬ (key < 0 ∨ 65535 < key ∨ c < 0 ∨ 15 ≤ c) := by
      simp only [Bool.or_eq_false_iff, decide_eq_false_iff_not] at h1
      omega
  · have e : gputS key c d = ([], 7) := by
      unfold gputS
      rw [if_neg h1, if_pos (by have := of_decide_eq_true h2; omega)]
    rw [e]
    exact ⟨fun _ => rfl, fun h => by simp at h⟩
  all_goals
    have h2 : ¬ d.length < 2 := by have := of_decide_eq_false h2; omega
  · have e : gputS key c d = ([], 2) := by
      unfold gputS
      rw [if_neg h1, if_neg h2, if_pos (by have := of_decide_eq_true h3; omega)]
    rw [e]
    exact ⟨fun _ => rfl, fun h => by simp at h⟩
  · have h3 : ¬ 64 < d.length := by have := of_decide_eq_false h3; omega
    have e : gputS key c d = ((gcnt d c).set 0 (gsumS key (gcnt d c)), 0) := by
      unfold gputS
      rw [if_neg h1, if_neg h2, if_neg h3]
    refine ⟨fun h => by simp at h, fun _ => ⟨hl, fun _ => ⟨by omega, fun q hq => ?_⟩⟩⟩
    have hq : d[1]? = some q := hq
    have hqb := hb q (List.mem_of_getElem? hq)
    have hset : d.set (1 : Int).toNat (w8 (w8 (w8 (q.tdiv 16) * 16) + w8 c)) = gcnt d c := by
      have hc := cnt_byte ⟨q.toNat, by omega⟩ ⟨c.toNat, by omega⟩
      dsimp only at hc
      rw [Int.toNat_of_nonneg hqb.1, Int.toNat_of_nonneg (by omega : 0 ≤ c)] at hc
      unfold gcnt
      rw [hc, List.getD_eq_getElem?_getD, hq]
      rfl
    rw [hset]
    obtain ⟨c1, c2, c3⟩ := gcnt_bytes d c hb ⟨by omega, by omega⟩ (by omega)
    refine ⟨by omega, ⟨by omega, c1, by omega, by omega⟩, by omega, ?_⟩
    have e0 : (0 : Int).toNat = 0 := rfl
    rw [e, e0, beq_refl]
    rfl
theorem LGSee_ok (g : Guard) (d : List Int) (most : Int) (k0 : okGuard g) (k1 : (∀ y0 ∈ d, IntKind.u8.min ≤ y0 ∧ y0 ≤ IntKind.u8.max) ∧ d.length * 1 ≤ lim) (k2 : IntKind.i64.min ≤ most ∧ most ≤ IntKind.i64.max) : LGSee_vc g d most (fun r => r = true) := by
  have hb : ∀ x ∈ d, 0 ≤ x ∧ x ≤ 255 := fun x hx => k1.1 x hx
  intro hl
  have h15 : decide (g.Last ≥ 15) = decide (g.Last > 14) := by rw [decide_eq_decide]; omega
  have hchk : gcheck g = bif ((((((decide (g.Key < 0)) || (decide (g.Key > 65535))) || (decide (g.Last < (-1)))) || (decide (g.Last > 14))) || (decide (g.Bad < 0))) || (decide (g.State < 0))) || (decide (g.State > 4)) then 3 else 0 := by
    unfold gcheck
    rw [h15]
  refine ⟨hb, fun h1 => ?_, fun h1 => ?_⟩
  · rw [h1] at hchk
    have hchk : gcheck g = 3 := hchk
    have e : gseeS g d most = (⟨0, 0, 0, 0⟩, 3) := by
      unfold gseeS
      rw [if_pos (by rw [hchk]; simp), hchk]
    rw [hchk, e]
    exact ⟨fun h => by simp at h, fun _ => rfl⟩
  · rw [h1] at hchk
    have hchk : gcheck g = 0 := hchk
    simp only [Bool.or_eq_false_iff, decide_eq_false_iff_not] at h1
    rw [hchk]
    have n0 : ¬ gcheck g ≠ 0 := fun h => h hchk
    refine ⟨fun h => by simp at h, fun _ => ⟨fun h2 => ?_, fun h2 => ⟨fun h3 => ?_, fun h3 => ⟨fun h4 => ?_, fun h4 => ?_⟩⟩⟩⟩
    · have e : gseeS g d most = (⟨0, 0, 0, 0⟩, 3) := by
        unfold gseeS
        rw [if_neg n0, if_pos (by simp only [Bool.or_eq_true, decide_eq_true_eq] at h2; omega)]
      rw [e]
      rfl
    all_goals
      have h2 : ¬ (most < 1 ∨ 15 ≤ most) := by
        simp only [Bool.or_eq_false_iff, decide_eq_false_iff_not] at h2
        omega
    · have e : gseeS g d most = (⟨0, 0, 0, 0⟩, 7) := by
        unfold gseeS
        rw [if_neg n0, if_neg h2, if_pos (by have := of_decide_eq_true h3; omega)]
      rw [e]
      rfl
    all_goals
      have h3 : ¬ d.length < 2 := by have := of_decide_eq_false h3; omega
    · have e : gseeS g d most = (⟨0, 0, 0, 0⟩, 2) := by
        unfold gseeS
        rw [if_neg n0, if_neg h2, if_neg h3, if_pos (by have := of_decide_eq_true h4; omega)]
      rw [e]
      rfl
    · have h4 : ¬ 64 < d.length := by have := of_decide_eq_false h4; omega
      refine ⟨by omega, fun q hq => ?_⟩
      have hq : d[1]? = some q := hq
      have hqb := hb q (List.mem_of_getElem? hq)
      have hand : bAnd .u8 q 15 = q.tmod 16 := by
        have := and_mod ⟨q.toNat, by omega⟩
        dsimp only at this
        rwa [Int.toNat_of_nonneg hqb.1] at this
      have hm : q.tmod 16 = q % 16 := Int.tmod_eq_emod_of_nonneg hqb.1
      have e1 : d.getD 1 0 = q := by rw [List.getD_eq_getElem?_getD, hq]; rfl
      obtain ⟨p, hp⟩ : ∃ p, d[0]? = some p := ⟨_, List.getElem?_eq_getElem (by omega)⟩
      have e0 : d.getD 0 0 = p := by rw [List.getD_eq_getElem?_getD, hp]; rfl
      have hS : gseeS g d most = (if 15 ≤ q % 16 ∨ p ≠ gsumS g.Key d then ((gbadS g).1, 0)
          else if g.Last < 0 ∨ (q % 16 - g.Last + 15) % 15 = 1 then (⟨g.Key, q % 16, 0, 1⟩, 0)
          else if (q % 16 - g.Last + 15) % 15 = 0 then (⟨g.Key, q % 16, g.Bad, 3⟩, 0)
          else if (q % 16 - g.Last + 15) % 15 ≤ most then (⟨g.Key, q % 16, 0, 2⟩, 0)
          else ((gbadS ⟨g.Key, q % 16, g.Bad, g.State⟩).1, 0)) := by
        unfold gseeS
        rw [if_neg n0, if_neg h2, if_neg h3, if_neg h4, e1, e0, hand, hm]
      have hkey : (0 ≤ g.Key ∧ g.Key ≤ 65535) ∧ (∀ x ∈ d, 0 ≤ x ∧ x ≤ 255) ∧ 1 ≤ d.length ∧ d.length ≤ 64 := ⟨by omega, hb, by omega, by omega⟩
      have w1 : w64 (q.tmod 16) = q % 16 := by rw [hm, w64_eq _ (by omega)]
      have w2 : (w64 (w64 (q % 16 + 15) - g.Last)).tmod 15 = (q % 16 - g.Last + 15) % 15 := by
        rw [w64_eq (q % 16 + 15) (by omega), w64_eq _ (by omega), Int.tmod_eq_emod_of_nonneg (by omega)]
        congr 1
        omega
      have hbd := k0.2.2.1
      have hbd2 : g.Bad ≤ 9223372036854775807 := hbd.2
      have bad : ∀ L : Int, (gbadS ⟨g.Key, L, g.Bad, g.State⟩).1 = ⟨g.Key, L, min (w64 (g.Bad + 1)) 1000000, 4⟩ := fun L => rfl
      have bad0 : (gbadS g).1 = ⟨g.Key, g.Last, min (w64 (g.Bad + 1)) 1000000, 4⟩ := rfl
      rw [w1, w2]
      have hmx : w64 (g.Bad + 1) > 1000000 → min (w64 (g.Bad + 1)) 1000000 = 1000000 := fun h => by omega
      have hmn : ¬ w64 (g.Bad + 1) > 1000000 → min (w64 (g.Bad + 1)) 1000000 = w64 (g.Bad + 1) := fun h => by omega
      rw [bad0, bad] at hS
      have hn : 0 ≤ q % 16 ∧ q % 16 ≤ 15 := by omega
      generalize q % 16 = n at *
      generalize (n - g.Last + 15) % 15 = st at *
      generalize gsumS g.Key d = gs at *
      generalize w64 (g.Bad + 1) = B1 at *
      refine ⟨fun h5 => ?_, fun h5 => ⟨by omega, fun p' hp' => ?_⟩⟩
      · have h5 : n = 15 := by simpa only [beq_iff_eq] using h5
        rw [if_pos (.inl (by omega))] at hS
        rw [hS]
        refine ⟨fun h6 => ?_, fun h6 => ?_⟩
        · rw [hmx (of_decide_eq_true h6)]; simp
        · rw [hmn (of_decide_eq_false h6)]; simp
      · have hp' : d[0]? = some p' := hp'
        rw [hp] at hp'
        cases hp'
        have h5 : n ≠ 15 := by simpa only [beq_eq_false_iff_ne] using h5
        refine ⟨hkey, fun h6 => ?_, fun h6 => ?_⟩
        · have h6 : p = gs := by simpa using h6
          rw [if_neg (by rintro (hc | hc); omega; exact hc h6)] at hS
          have np : ¬ (p != gs) = true := by rw [h6]; simp
          refine ⟨fun h7 => ?_, fun h7 => ⟨fun h8 => ?_, fun h8 => ⟨fun h9 => ?_, fun h9 => ?_⟩⟩⟩
          · have h7 : g.Last = -1 ∨ st = 1 := by simpa only [Bool.or_eq_true, beq_iff_eq] using h7
            rw [if_pos (by omega)] at hS
            rw [hS]
            exact ⟨fun h => absurd h np, fun _ => by simp⟩
          all_goals
            have h7 : ¬ (g.Last < 0 ∨ st = 1) := by
              simp only [Bool.or_eq_false_iff, beq_eq_false_iff_ne] at h7
              omega
            rw [if_neg h7] at hS
          · have h8 : st = 0 := by simpa only [beq_iff_eq] using h8
            rw [if_pos h8] at hS
            rw [hS]
            exact ⟨fun h => absurd h np, fun _ => by simp⟩
          all_goals
            have h8 : st ≠ 0 := by simpa only [beq_eq_false_iff_ne] using h8
            rw [if_neg h8] at hS
          · rw [if_pos (of_decide_eq_true h9)] at hS
            rw [hS]
            exact ⟨fun h => absurd h np, fun _ => by simp⟩
          · rw [if_neg (of_decide_eq_false h9)] at hS
            rw [hS]
            refine ⟨fun h6 => ?_, fun h6 => ?_⟩
            · rw [hmx (of_decide_eq_true h6)]; simp
            · rw [hmn (of_decide_eq_false h6)]; simp
        · have h6 : p ≠ gs := by simpa using h6
          rw [if_pos (.inr h6)] at hS
          rw [hS]
          refine ⟨fun _ => ⟨fun h6 => ?_, fun h6 => ?_⟩, fun h => absurd (by simpa using h) h6⟩
          · rw [hmx (of_decide_eq_true h6)]; simp
          · rw [hmn (of_decide_eq_false h6)]; simp

end Go.Proofs.YtinegicenfndkaaDoor
