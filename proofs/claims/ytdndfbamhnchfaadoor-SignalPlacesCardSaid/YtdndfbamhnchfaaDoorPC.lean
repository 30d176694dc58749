/- What must hold so that each function ends well: pure predicates, made by program. -/
import Derived.Test.YtdndfbamhnchfaaDoorPB
set_option linter.unusedVariables false
set_option linter.unusedSimpArgs false
namespace Go.Proofs.YtdndfbamhnchfaaDoor
open Go.Sy Go.RowKit
def sraw_vc (u0 : Signal) (u1 : Int) (u2 : Int) (K : (Int × Int) → Prop) : Prop :=
  ((((checkS u0 64) != 0) = true →
      (K (0, (checkS u0 64)))) ∧
    (((checkS u0 64) != 0) = false →
      ((((((decide (u2 < 1)) || (decide (u2 > 1000000))) || (decide (u1 > 1099511627776))) || (decide (u1 < (-1099511627776)))) = true →
        (K (0, 3))) ∧
      (((((decide (u2 < 1)) || (decide (u2 > 1000000))) || (decide (u1 > 1099511627776))) || (decide (u1 < (-1099511627776)))) = false →
        (sgcd_vc u0.Div u0.Mul fun r101 =>
        ((r101 ≠ 0) ∧
        ((r101 ≠ 0) ∧
        (∃ inv153 : Int → Int → Prop,
        (((decide ((w64 (u0.Mul.tdiv r101)) < 0)) = true →
          (inv153 (w64 (0 - (w64 (u0.Div.tdiv r101)))) (w64 (0 - (w64 (u0.Mul.tdiv r101)))))) ∧
        ((decide ((w64 (u0.Mul.tdiv r101)) < 0)) = false →
          (inv153 (w64 (u0.Div.tdiv r101)) (w64 (u0.Mul.tdiv r101))))) ∧
        (∀ (x11 : Int) (x12 : Int), inv153 x11 x12 →
          (sgcd_vc (w64 (u1 - (w64 (u0.Add * u2)))) u2 fun r171 =>
          ((r171 ≠ 0) ∧
          ((r171 ≠ 0) ∧
          (sgcd_vc x11 (w64 (u2.tdiv r171)) fun r216 =>
          ((r216 ≠ 0) ∧
          ((r216 ≠ 0) ∧
          (sgcd_vc (w64 ((w64 (u1 - (w64 (u0.Add * u2)))).tdiv r171)) x12 fun r261 =>
          ((r261 ≠ 0) ∧
          ((r261 ≠ 0) ∧
          (((((w64 ((w64 (u2.tdiv r171)).tdiv r216)) != 1) || ((w64 (x12.tdiv r261)) != 1)) = true →
            (K (0, 4))) ∧
          ((((w64 ((w64 (u2.tdiv r171)).tdiv r216)) != 1) || ((w64 (x12.tdiv r261)) != 1)) = false →
            ((1 ≤ u0.Size ∧ u0.Size ≤ 40) ∧
            ((((decide ((w64 ((w64 ((w64 (u1 - (w64 (u0.Add * u2)))).tdiv r171)).tdiv r261)) > 0)) && (decide ((w64 (x11.tdiv r216)) > 0))) = true →
              ((w64 (x11.tdiv r216) ≠ 0) ∧
              (((decide ((w64 ((w64 ((w64 (u1 - (w64 (u0.Add * u2)))).tdiv r171)).tdiv r261)) > (w64 (((boundsS u0).2).tdiv (w64 (x11.tdiv r216)))))) = true →
                (K (0, 3))) ∧
              ((decide ((w64 ((w64 ((w64 (u1 - (w64 (u0.Add * u2)))).tdiv r171)).tdiv r261)) > (w64 (((boundsS u0).2).tdiv (w64 (x11.tdiv r216)))))) = false →
                ((((decide ((w64 ((w64 ((w64 (u1 - (w64 (u0.Add * u2)))).tdiv r171)).tdiv r261)) < 0)) && (decide ((w64 (x11.tdiv r216)) > 0))) = true →
                  ((w64 (x11.tdiv r216) ≠ 0) ∧
                  (((decide ((w64 ((w64 ((w64 (u1 - (w64 (u0.Add * u2)))).tdiv r171)).tdiv r261)) < (w64 (((boundsS u0).1).tdiv (w64 (x11.tdiv r216)))))) = true →
                    (K (0, 3))) ∧
                  ((decide ((w64 ((w64 ((w64 (u1 - (w64 (u0.Add * u2)))).tdiv r171)).tdiv r261)) < (w64 (((boundsS u0).1).tdiv (w64 (x11.tdiv r216)))))) = false →
                    ((((decide ((w64 ((w64 ((w64 (u1 - (w64 (u0.Add * u2)))).tdiv r171)).tdiv r261)) > 0)) && (decide ((w64 (x11.tdiv r216)) < 0))) = true →
                      ((w64 (x11.tdiv r216) ≠ 0) ∧
                      (((decide ((w64 ((w64 ((w64 (u1 - (w64 (u0.Add * u2)))).tdiv r171)).tdiv r261)) > (w64 (((boundsS u0).1).tdiv (w64 (x11.tdiv r216)))))) = true →
                        (K (0, 3))) ∧
                      ((decide ((w64 ((w64 ((w64 (u1 - (w64 (u0.Add * u2)))).tdiv r171)).tdiv r261)) > (w64 (((boundsS u0).1).tdiv (w64 (x11.tdiv r216)))))) = false →
                        ((((decide ((w64 ((w64 ((w64 (u1 - (w64 (u0.Add * u2)))).tdiv r171)).tdiv r261)) < 0)) && (decide ((w64 (x11.tdiv r216)) < 0))) = true →
                          ((w64 (x11.tdiv r216) ≠ 0) ∧
                          (((decide ((w64 ((w64 ((w64 (u1 - (w64 (u0.Add * u2)))).tdiv r171)).tdiv r261)) < (w64 (((boundsS u0).2).tdiv (w64 (x11.tdiv r216)))))) = true →
                            (K (0, 3))) ∧
                          ((decide ((w64 ((w64 ((w64 (u1 - (w64 (u0.Add * u2)))).tdiv r171)).tdiv r261)) < (w64 (((boundsS u0).2).tdiv (w64 (x11.tdiv r216)))))) = false →
                            ((((decide ((w64 ((w64 ((w64 ((w64 (u1 - (w64 (u0.Add * u2)))).tdiv r171)).tdiv r261)) * (w64 (x11.tdiv r216)))) < ((boundsS u0).1))) || (decide ((w64 ((w64 ((w64 ((w64 (u1 - (w64 (u0.Add * u2)))).tdiv r171)).tdiv r261)) * (w64 (x11.tdiv r216)))) > ((boundsS u0).2)))) = true →
                              (K (0, 3))) ∧
                            (((decide ((w64 ((w64 ((w64 ((w64 (u1 - (w64 (u0.Add * u2)))).tdiv r171)).tdiv r261)) * (w64 (x11.tdiv r216)))) < ((boundsS u0).1))) || (decide ((w64 ((w64 ((w64 ((w64 (u1 - (w64 (u0.Add * u2)))).tdiv r171)).tdiv r261)) * (w64 (x11.tdiv r216)))) > ((boundsS u0).2)))) = false →
                              (K (w64 ((w64 ((w64 ((w64 (u1 - (w64 (u0.Add * u2)))).tdiv r171)).tdiv r261)) * (w64 (x11.tdiv r216))), 0)))))))) ∧
                        (((decide ((w64 ((w64 ((w64 (u1 - (w64 (u0.Add * u2)))).tdiv r171)).tdiv r261)) < 0)) && (decide ((w64 (x11.tdiv r216)) < 0))) = false →
                          ((((decide ((w64 ((w64 ((w64 ((w64 (u1 - (w64 (u0.Add * u2)))).tdiv r171)).tdiv r261)) * (w64 (x11.tdiv r216)))) < ((boundsS u0).1))) || (decide ((w64 ((w64 ((w64 ((w64 (u1 - (w64 (u0.Add * u2)))).tdiv r171)).tdiv r261)) * (w64 (x11.tdiv r216)))) > ((boundsS u0).2)))) = true →
                            (K (0, 3))) ∧
                          (((decide ((w64 ((w64 ((w64 ((w64 (u1 - (w64 (u0.Add * u2)))).tdiv r171)).tdiv r261)) * (w64 (x11.tdiv r216)))) < ((boundsS u0).1))) || (decide ((w64 ((w64 ((w64 ((w64 (u1 - (w64 (u0.Add * u2)))).tdiv r171)).tdiv r261)) * (w64 (x11.tdiv r216)))) > ((boundsS u0).2)))) = false →
                            (K (w64 ((w64 ((w64 ((w64 (u1 - (w64 (u0.Add * u2)))).tdiv r171)).tdiv r261)) * (w64 (x11.tdiv r216))), 0)))))))))) ∧
                    (((decide ((w64 ((w64 ((w64 (u1 - (w64 (u0.Add * u2)))).tdiv r171)).tdiv r261)) > 0)) && (decide ((w64 (x11.tdiv r216)) < 0))) = false →
                      ((((decide ((w64 ((w64 ((w64 (u1 - (w64 (u0.Add * u2)))).tdiv r171)).tdiv r261)) < 0)) && (decide ((w64 (x11.tdiv r216)) < 0))) = true →
                        ((w64 (x11.tdiv r216) ≠ 0) ∧
                        (((decide ((w64 ((w64 ((w64 (u1 - (w64 (u0.Add * u2)))).tdiv r171)).tdiv r261)) < (w64 (((boundsS u0).2).tdiv (w64 (x11.tdiv r216)))))) = true →
                          (K (0, 3))) ∧
                        ((decide ((w64 ((w64 ((w64 (u1 - (w64 (u0.Add * u2)))).tdiv r171)).tdiv r261)) < (w64 (((boundsS u0).2).tdiv (w64 (x11.tdiv r216)))))) = false →
                          ((((decide ((w64 ((w64 ((w64 ((w64 (u1 - (w64 (u0.Add * u2)))).tdiv r171)).tdiv r261)) * (w64 (x11.tdiv r216)))) < ((boundsS u0).1))) || (decide ((w64 ((w64 ((w64 ((w64 (u1 - (w64 (u0.Add * u2)))).tdiv r171)).tdiv r261)) * (w64 (x11.tdiv r216)))) > ((boundsS u0).2)))) = true →
                            (K (0, 3))) ∧
                          (((decide ((w64 ((w64 ((w64 ((w64 (u1 - (w64 (u0.Add * u2)))).tdiv r171)).tdiv r261)) * (w64 (x11.tdiv r216)))) < ((boundsS u0).1))) || (decide ((w64 ((w64 ((w64 ((w64 (u1 - (w64 (u0.Add * u2)))).tdiv r171)).tdiv r261)) * (w64 (x11.tdiv r216)))) > ((boundsS u0).2)))) = false →
                            (K (w64 ((w64 ((w64 ((w64 (u1 - (w64 (u0.Add * u2)))).tdiv r171)).tdiv r261)) * (w64 (x11.tdiv r216))), 0)))))))) ∧
                      (((decide ((w64 ((w64 ((w64 (u1 - (w64 (u0.Add * u2)))).tdiv r171)).tdiv r261)) < 0)) && (decide ((w64 (x11.tdiv r216)) < 0))) = false →
                        ((((decide ((w64 ((w64 ((w64 ((w64 (u1 - (w64 (u0.Add * u2)))).tdiv r171)).tdiv r261)) * (w64 (x11.tdiv r216)))) < ((boundsS u0).1))) || (decide ((w64 ((w64 ((w64 ((w64 (u1 - (w64 (u0.Add * u2)))).tdiv r171)).tdiv r261)) * (w64 (x11.tdiv r216)))) > ((boundsS u0).2)))) = true →
                          (K (0, 3))) ∧
                        (((decide ((w64 ((w64 ((w64 ((w64 (u1 - (w64 (u0.Add * u2)))).tdiv r171)).tdiv r261)) * (w64 (x11.tdiv r216)))) < ((boundsS u0).1))) || (decide ((w64 ((w64 ((w64 ((w64 (u1 - (w64 (u0.Add * u2)))).tdiv r171)).tdiv r261)) * (w64 (x11.tdiv r216)))) > ((boundsS u0).2)))) = false →
                          (K (w64 ((w64 ((w64 ((w64 (u1 - (w64 (u0.Add * u2)))).tdiv r171)).tdiv r261)) * (w64 (x11.tdiv r216))), 0)))))))))))) ∧
                (((decide ((w64 ((w64 ((w64 (u1 - (w64 (u0.Add * u2)))).tdiv r171)).tdiv r261)) < 0)) && (decide ((w64 (x11.tdiv r216)) > 0))) = false →
                  ((((decide ((w64 ((w64 ((w64 (u1 - (w64 (u0.Add * u2)))).tdiv r171)).tdiv r261)) > 0)) && (decide ((w64 (x11.tdiv r216)) < 0))) = true →
                    ((w64 (x11.tdiv r216) ≠ 0) ∧
                    (((decide ((w64 ((w64 ((w64 (u1 - (w64 (u0.Add * u2)))).tdiv r171)).tdiv r261)) > (w64 (((boundsS u0).1).tdiv (w64 (x11.tdiv r216)))))) = true →
                      (K (0, 3))) ∧
                    ((decide ((w64 ((w64 ((w64 (u1 - (w64 (u0.Add * u2)))).tdiv r171)).tdiv r261)) > (w64 (((boundsS u0).1).tdiv (w64 (x11.tdiv r216)))))) = false →
                      ((((decide ((w64 ((w64 ((w64 (u1 - (w64 (u0.Add * u2)))).tdiv r171)).tdiv r261)) < 0)) && (decide ((w64 (x11.tdiv r216)) < 0))) = true →
                        ((w64 (x11.tdiv r216) ≠ 0) ∧
                        (((decide ((w64 ((w64 ((w64 (u1 - (w64 (u0.Add * u2)))).tdiv r171)).tdiv r261)) < (w64 (((boundsS u0).2).tdiv (w64 (x11.tdiv r216)))))) = true →
                          (K (0, 3))) ∧
                        ((decide ((w64 ((w64 ((w64 (u1 - (w64 (u0.Add * u2)))).tdiv r171)).tdiv r261)) < (w64 (((boundsS u0).2).tdiv (w64 (x11.tdiv r216)))))) = false →
                          ((((decide ((w64 ((w64 ((w64 ((w64 (u1 - (w64 (u0.Add * u2)))).tdiv r171)).tdiv r261)) * (w64 (x11.tdiv r216)))) < ((boundsS u0).1))) || (decide ((w64 ((w64 ((w64 ((w64 (u1 - (w64 (u0.Add * u2)))).tdiv r171)).tdiv r261)) * (w64 (x11.tdiv r216)))) > ((boundsS u0).2)))) = true →
                            (K (0, 3))) ∧
                          (((decide ((w64 ((w64 ((w64 ((w64 (u1 - (w64 (u0.Add * u2)))).tdiv r171)).tdiv r261)) * (w64 (x11.tdiv r216)))) < ((boundsS u0).1))) || (decide ((w64 ((w64 ((w64 ((w64 (u1 - (w64 (u0.Add * u2)))).tdiv r171)).tdiv r261)) * (w64 (x11.tdiv r216)))) > ((boundsS u0).2)))) = false →
                            (K (w64 ((w64 ((w64 ((w64 (u1 - (w64 (u0.Add * u2)))).tdiv r171)).tdiv r261)) * (w64 (x11.tdiv r216))), 0)))))))) ∧
                      (((decide ((w64 ((w64 ((w64 (u1 - (w64 (u0.Add * u2)))).tdiv r171)).tdiv r261)) < 0)) && (decide ((w64 (x11.tdiv r216)) < 0))) = false →
                        ((((decide ((w64 ((w64 ((w64 ((w64 (u1 - (w64 (u0.Add * u2)))).tdiv r171)).tdiv r261)) * (w64 (x11.tdiv r216)))) < ((boundsS u0).1))) || (decide ((w64 ((w64 ((w64 ((w64 (u1 - (w64 (u0.Add * u2)))).tdiv r171)).tdiv r261)) * (w64 (x11.tdiv r216)))) > ((boundsS u0).2)))) = true →
                          (K (0, 3))) ∧
                        (((decide ((w64 ((w64 ((w64 ((w64 (u1 - (w64 (u0.Add * u2)))).tdiv r171)).tdiv r261)) * (w64 (x11.tdiv r216)))) < ((boundsS u0).1))) || (decide ((w64 ((w64 ((w64 ((w64 (u1 - (w64 (u0.Add * u2)))).tdiv r171)).tdiv r261)) * (w64 (x11.tdiv r216)))) > ((boundsS u0).2)))) = false →
                          (K (w64 ((w64 ((w64 ((w64 (u1 - (w64 (u0.Add * u2)))).tdiv r171)).tdiv r261)) * (w64 (x11.tdiv r216))), 0)))))))))) ∧
                  (((decide ((w64 ((w64 ((w64 (u1 - (w64 (u0.Add * u2)))).tdiv r171)).tdiv r261)) > 0)) && (decide ((w64 (x11.tdiv r216)) < 0))) = false →
                    ((((decide ((w64 ((w64 ((w64 (u1 - (w64 (u0.Add * u2)))).tdiv r171)).tdiv r261)) < 0)) && (decide ((w64 (x11.tdiv r216)) < 0))) = true →
                      ((w64 (x11.tdiv r216) ≠ 0) ∧
                      (((decide ((w64 ((w64 ((w64 (u1 - (w64 (u0.Add * u2)))).tdiv r171)).tdiv r261)) < (w64 (((boundsS u0).2).tdiv (w64 (x11.tdiv r216)))))) = true →
                        (K (0, 3))) ∧
                      ((decide ((w64 ((w64 ((w64 (u1 - (w64 (u0.Add * u2)))).tdiv r171)).tdiv r261)) < (w64 (((boundsS u0).2).tdiv (w64 (x11.tdiv r216)))))) = false →
                        ((((decide ((w64 ((w64 ((w64 ((w64 (u1 - (w64 (u0.Add * u2)))).tdiv r171)).tdiv r261)) * (w64 (x11.tdiv r216)))) < ((boundsS u0).1))) || (decide ((w64 ((w64 ((w64 ((w64 (u1 - (w64 (u0.Add * u2)))).tdiv r171)).tdiv r261)) * (w64 (x11.tdiv r216)))) > ((boundsS u0).2)))) = true →
                          (K (0, 3))) ∧
                        (((decide ((w64 ((w64 ((w64 ((w64 (u1 - (w64 (u0.Add * u2)))).tdiv r171)).tdiv r261)) * (w64 (x11.tdiv r216)))) < ((boundsS u0).1))) || (decide ((w64 ((w64 ((w64 ((w64 (u1 - (w64 (u0.Add * u2)))).tdiv r171)).tdiv r261)) * (w64 (x11.tdiv r216)))) > ((boundsS u0).2)))) = false →
                          (K (w64 ((w64 ((w64 ((w64 (u1 - (w64 (u0.Add * u2)))).tdiv r171)).tdiv r261)) * (w64 (x11.tdiv r216))), 0)))))))) ∧
                    (((decide ((w64 ((w64 ((w64 (u1 - (w64 (u0.Add * u2)))).tdiv r171)).tdiv r261)) < 0)) && (decide ((w64 (x11.tdiv r216)) < 0))) = false →
                      ((((decide ((w64 ((w64 ((w64 ((w64 (u1 - (w64 (u0.Add * u2)))).tdiv r171)).tdiv r261)) * (w64 (x11.tdiv r216)))) < ((boundsS u0).1))) || (decide ((w64 ((w64 ((w64 ((w64 (u1 - (w64 (u0.Add * u2)))).tdiv r171)).tdiv r261)) * (w64 (x11.tdiv r216)))) > ((boundsS u0).2)))) = true →
                        (K (0, 3))) ∧
                      (((decide ((w64 ((w64 ((w64 ((w64 (u1 - (w64 (u0.Add * u2)))).tdiv r171)).tdiv r261)) * (w64 (x11.tdiv r216)))) < ((boundsS u0).1))) || (decide ((w64 ((w64 ((w64 ((w64 (u1 - (w64 (u0.Add * u2)))).tdiv r171)).tdiv r261)) * (w64 (x11.tdiv r216)))) > ((boundsS u0).2)))) = false →
                        (K (w64 ((w64 ((w64 ((w64 (u1 - (w64 (u0.Add * u2)))).tdiv r171)).tdiv r261)) * (w64 (x11.tdiv r216))), 0)))))))))))))) ∧
            (((decide ((w64 ((w64 ((w64 (u1 - (w64 (u0.Add * u2)))).tdiv r171)).tdiv r261)) > 0)) && (decide ((w64 (x11.tdiv r216)) > 0))) = false →
              ((((decide ((w64 ((w64 ((w64 (u1 - (w64 (u0.Add * u2)))).tdiv r171)).tdiv r261)) < 0)) && (decide ((w64 (x11.tdiv r216)) > 0))) = true →
                ((w64 (x11.tdiv r216) ≠ 0) ∧
                (((decide ((w64 ((w64 ((w64 (u1 - (w64 (u0.Add * u2)))).tdiv r171)).tdiv r261)) < (w64 (((boundsS u0).1).tdiv (w64 (x11.tdiv r216)))))) = true →
                  (K (0, 3))) ∧
                ((decide ((w64 ((w64 ((w64 (u1 - (w64 (u0.Add * u2)))).tdiv r171)).tdiv r261)) < (w64 (((boundsS u0).1).tdiv (w64 (x11.tdiv r216)))))) = false →
                  ((((decide ((w64 ((w64 ((w64 (u1 - (w64 (u0.Add * u2)))).tdiv r171)).tdiv r261)) > 0)) && (decide ((w64 (x11.tdiv r216)) < 0))) = true →
                    ((w64 (x11.tdiv r216) ≠ 0) ∧
                    (((decide ((w64 ((w64 ((w64 (u1 - (w64 (u0.Add * u2)))).tdiv r171)).tdiv r261)) > (w64 (((boundsS u0).1).tdiv (w64 (x11.tdiv r216)))))) = true →
                      (K (0, 3))) ∧
                    ((decide ((w64 ((w64 ((w64 (u1 - (w64 (u0.Add * u2)))).tdiv r171)).tdiv r261)) > (w64 (((boundsS u0).1).tdiv (w64 (x11.tdiv r216)))))) = false →
                      ((((decide ((w64 ((w64 ((w64 (u1 - (w64 (u0.Add * u2)))).tdiv r171)).tdiv r261)) < 0)) && (decide ((w64 (x11.tdiv r216)) < 0))) = true →
                        ((w64 (x11.tdiv r216) ≠ 0) ∧
                        (((decide ((w64 ((w64 ((w64 (u1 - (w64 (u0.Add * u2)))).tdiv r171)).tdiv r261)) < (w64 (((boundsS u0).2).tdiv (w64 (x11.tdiv r216)))))) = true →
                          (K (0, 3))) ∧
                        ((decide ((w64 ((w64 ((w64 (u1 - (w64 (u0.Add * u2)))).tdiv r171)).tdiv r261)) < (w64 (((boundsS u0).2).tdiv (w64 (x11.tdiv r216)))))) = false →
                          ((((decide ((w64 ((w64 ((w64 ((w64 (u1 - (w64 (u0.Add * u2)))).tdiv r171)).tdiv r261)) * (w64 (x11.tdiv r216)))) < ((boundsS u0).1))) || (decide ((w64 ((w64 ((w64 ((w64 (u1 - (w64 (u0.Add * u2)))).tdiv r171)).tdiv r261)) * (w64 (x11.tdiv r216)))) > ((boundsS u0).2)))) = true →
                            (K (0, 3))) ∧
                          (((decide ((w64 ((w64 ((w64 ((w64 (u1 - (w64 (u0.Add * u2)))).tdiv r171)).tdiv r261)) * (w64 (x11.tdiv r216)))) < ((boundsS u0).1))) || (decide ((w64 ((w64 ((w64 ((w64 (u1 - (w64 (u0.Add * u2)))).tdiv r171)).tdiv r261)) * (w64 (x11.tdiv r216)))) > ((boundsS u0).2)))) = false →
                            (K (w64 ((w64 ((w64 ((w64 (u1 - (w64 (u0.Add * u2)))).tdiv r171)).tdiv r261)) * (w64 (x11.tdiv r216))), 0)))))))) ∧
                      (((decide ((w64 ((w64 ((w64 (u1 - (w64 (u0.Add * u2)))).tdiv r171)).tdiv r261)) < 0)) && (decide ((w64 (x11.tdiv r216)) < 0))) = false →
                        ((((decide ((w64 ((w64 ((w64 ((w64 (u1 - (w64 (u0.Add * u2)))).tdiv r171)).tdiv r261)) * (w64 (x11.tdiv r216)))) < ((boundsS u0).1))) || (decide ((w64 ((w64 ((w64 ((w64 (u1 - (w64 (u0.Add * u2)))).tdiv r171)).tdiv r261)) * (w64 (x11.tdiv r216)))) > ((boundsS u0).2)))) = true →
                          (K (0, 3))) ∧
                        (((decide ((w64 ((w64 ((w64 ((w64 (u1 - (w64 (u0.Add * u2)))).tdiv r171)).tdiv r261)) * (w64 (x11.tdiv r216)))) < ((boundsS u0).1))) || (decide ((w64 ((w64 ((w64 ((w64 (u1 - (w64 (u0.Add * u2)))).tdiv r171)).tdiv r261)) * (w64 (x11.tdiv r216)))) > ((boundsS u0).2)))) = false →
                          (K (w64 ((w64 ((w64 ((w64 (u1 - (w64 (u0.Add * u2)))).tdiv r171)).tdiv r261)) * (w64 (x11.tdiv r216))), 0)))))))))) ∧
                  (((decide ((w64 ((w64 ((w64 (u1 - (w64 (u0.Add * u2)))).tdiv r171)).tdiv r261)) > 0)) && (decide ((w64 (x11.tdiv r216)) < 0))) = false →
                    ((((decide ((w64 ((w64 ((w64 (u1 - (w64 (u0.Add * u2)))).tdiv r171)).tdiv r261)) < 0)) && (decide ((w64 (x11.tdiv r216)) < 0))) = true →
                      ((w64 (x11.tdiv r216) ≠ 0) ∧
                      (((decide ((w64 ((w64 ((w64 (u1 - (w64 (u0.Add * u2)))).tdiv r171)).tdiv r261)) < (w64 (((boundsS u0).2).tdiv (w64 (x11.tdiv r216)))))) = true →
                        (K (0, 3))) ∧
                      ((decide ((w64 ((w64 ((w64 (u1 - (w64 (u0.Add * u2)))).tdiv r171)).tdiv r261)) < (w64 (((boundsS u0).2).tdiv (w64 (x11.tdiv r216)))))) = false →
                        ((((decide ((w64 ((w64 ((w64 ((w64 (u1 - (w64 (u0.Add * u2)))).tdiv r171)).tdiv r261)) * (w64 (x11.tdiv r216)))) < ((boundsS u0).1))) || (decide ((w64 ((w64 ((w64 ((w64 (u1 - (w64 (u0.Add * u2)))).tdiv r171)).tdiv r261)) * (w64 (x11.tdiv r216)))) > ((boundsS u0).2)))) = true →
                          (K (0, 3))) ∧
                        (((decide ((w64 ((w64 ((w64 ((w64 (u1 - (w64 (u0.Add * u2)))).tdiv r171)).tdiv r261)) * (w64 (x11.tdiv r216)))) < ((boundsS u0).1))) || (decide ((w64 ((w64 ((w64 ((w64 (u1 - (w64 (u0.Add * u2)))).tdiv r171)).tdiv r261)) * (w64 (x11.tdiv r216)))) > ((boundsS u0).2)))) = false →
                          (K (w64 ((w64 ((w64 ((w64 (u1 - (w64 (u0.Add * u2)))).tdiv r171)).tdiv r261)) * (w64 (x11.tdiv r216))), 0)))))))) ∧
                    (((decide ((w64 ((w64 ((w64 (u1 - (w64 (u0.Add * u2)))).tdiv r171)).tdiv r261)) < 0)) && (decide ((w64 (x11.tdiv r216)) < 0))) = false →
                      ((((decide ((w64 ((w64 ((w64 ((w64 (u1 - (w64 (u0.Add * u2)))).tdiv r171)).tdiv r261)) * (w64 (x11.tdiv r216)))) < ((boundsS u0).1))) || (decide ((w64 ((w64 ((w64 ((w64 (u1 - (w64 (u0.Add * u2)))).tdiv r171)).tdiv r261)) * (w64 (x11.tdiv r216)))) > ((boundsS u0).2)))) = true →
                        (K (0, 3))) ∧
                      (((decide ((w64 ((w64 ((w64 ((w64 (u1 - (w64 (u0.Add * u2)))).tdiv r171)).tdiv r261)) * (w64 (x11.tdiv r216)))) < ((boundsS u0).1))) || (decide ((w64 ((w64 ((w64 ((w64 (u1 - (w64 (u0.Add * u2)))).tdiv r171)).tdiv r261)) * (w64 (x11.tdiv r216)))) > ((boundsS u0).2)))) = false →
                        (K (w64 ((w64 ((w64 ((w64 (u1 - (w64 (u0.Add * u2)))).tdiv r171)).tdiv r261)) * (w64 (x11.tdiv r216))), 0)))))))))))) ∧
              (((decide ((w64 ((w64 ((w64 (u1 - (w64 (u0.Add * u2)))).tdiv r171)).tdiv r261)) < 0)) && (decide ((w64 (x11.tdiv r216)) > 0))) = false →
                ((((decide ((w64 ((w64 ((w64 (u1 - (w64 (u0.Add * u2)))).tdiv r171)).tdiv r261)) > 0)) && (decide ((w64 (x11.tdiv r216)) < 0))) = true →
                  ((w64 (x11.tdiv r216) ≠ 0) ∧
                  (((decide ((w64 ((w64 ((w64 (u1 - (w64 (u0.Add * u2)))).tdiv r171)).tdiv r261)) > (w64 (((boundsS u0).1).tdiv (w64 (x11.tdiv r216)))))) = true →
                    (K (0, 3))) ∧
                  ((decide ((w64 ((w64 ((w64 (u1 - (w64 (u0.Add * u2)))).tdiv r171)).tdiv r261)) > (w64 (((boundsS u0).1).tdiv (w64 (x11.tdiv r216)))))) = false →
                    ((((decide ((w64 ((w64 ((w64 (u1 - (w64 (u0.Add * u2)))).tdiv r171)).tdiv r261)) < 0)) && (decide ((w64 (x11.tdiv r216)) < 0))) = true →
                      ((w64 (x11.tdiv r216) ≠ 0) ∧
                      (((decide ((w64 ((w64 ((w64 (u1 - (w64 (u0.Add * u2)))).tdiv r171)).tdiv r261)) < (w64 (((boundsS u0).2).tdiv (w64 (x11.tdiv r216)))))) = true →
                        (K (0, 3))) ∧
                      ((decide ((w64 ((w64 ((w64 (u1 - (w64 (u0.Add * u2)))).tdiv r171)).tdiv r261)) < (w64 (((boundsS u0).2).tdiv (w64 (x11.tdiv r216)))))) = false →
                        ((((decide ((w64 ((w64 ((w64 ((w64 (u1 - (w64 (u0.Add * u2)))).tdiv r171)).tdiv r261)) * (w64 (x11.tdiv r216)))) < ((boundsS u0).1))) || (decide ((w64 ((w64 ((w64 ((w64 (u1 - (w64 (u0.Add * u2)))).tdiv r171)).tdiv r261)) * (w64 (x11.tdiv r216)))) > ((boundsS u0).2)))) = true →
                          (K (0, 3))) ∧
                        (((decide ((w64 ((w64 ((w64 ((w64 (u1 - (w64 (u0.Add * u2)))).tdiv r171)).tdiv r261)) * (w64 (x11.tdiv r216)))) < ((boundsS u0).1))) || (decide ((w64 ((w64 ((w64 ((w64 (u1 - (w64 (u0.Add * u2)))).tdiv r171)).tdiv r261)) * (w64 (x11.tdiv r216)))) > ((boundsS u0).2)))) = false →
                          (K (w64 ((w64 ((w64 ((w64 (u1 - (w64 (u0.Add * u2)))).tdiv r171)).tdiv r261)) * (w64 (x11.tdiv r216))), 0)))))))) ∧
                    (((decide ((w64 ((w64 ((w64 (u1 - (w64 (u0.Add * u2)))).tdiv r171)).tdiv r261)) < 0)) && (decide ((w64 (x11.tdiv r216)) < 0))) = false →
                      ((((decide ((w64 ((w64 ((w64 ((w64 (u1 - (w64 (u0.Add * u2)))).tdiv r171)).tdiv r261)) * (w64 (x11.tdiv r216)))) < ((boundsS u0).1))) || (decide ((w64 ((w64 ((w64 ((w64 (u1 - (w64 (u0.Add * u2)))).tdiv r171)).tdiv r261)) * (w64 (x11.tdiv r216)))) > ((boundsS u0).2)))) = true →
                        (K (0, 3))) ∧
                      (((decide ((w64 ((w64 ((w64 ((w64 (u1 - (w64 (u0.Add * u2)))).tdiv r171)).tdiv r261)) * (w64 (x11.tdiv r216)))) < ((boundsS u0).1))) || (decide ((w64 ((w64 ((w64 ((w64 (u1 - (w64 (u0.Add * u2)))).tdiv r171)).tdiv r261)) * (w64 (x11.tdiv r216)))) > ((boundsS u0).2)))) = false →
                        (K (w64 ((w64 ((w64 ((w64 (u1 - (w64 (u0.Add * u2)))).tdiv r171)).tdiv r261)) * (w64 (x11.tdiv r216))), 0)))))))))) ∧
                (((decide ((w64 ((w64 ((w64 (u1 - (w64 (u0.Add * u2)))).tdiv r171)).tdiv r261)) > 0)) && (decide ((w64 (x11.tdiv r216)) < 0))) = false →
                  ((((decide ((w64 ((w64 ((w64 (u1 - (w64 (u0.Add * u2)))).tdiv r171)).tdiv r261)) < 0)) && (decide ((w64 (x11.tdiv r216)) < 0))) = true →
                    ((w64 (x11.tdiv r216) ≠ 0) ∧
                    (((decide ((w64 ((w64 ((w64 (u1 - (w64 (u0.Add * u2)))).tdiv r171)).tdiv r261)) < (w64 (((boundsS u0).2).tdiv (w64 (x11.tdiv r216)))))) = true →
                      (K (0, 3))) ∧
                    ((decide ((w64 ((w64 ((w64 (u1 - (w64 (u0.Add * u2)))).tdiv r171)).tdiv r261)) < (w64 (((boundsS u0).2).tdiv (w64 (x11.tdiv r216)))))) = false →
                      ((((decide ((w64 ((w64 ((w64 ((w64 (u1 - (w64 (u0.Add * u2)))).tdiv r171)).tdiv r261)) * (w64 (x11.tdiv r216)))) < ((boundsS u0).1))) || (decide ((w64 ((w64 ((w64 ((w64 (u1 - (w64 (u0.Add * u2)))).tdiv r171)).tdiv r261)) * (w64 (x11.tdiv r216)))) > ((boundsS u0).2)))) = true →
                        (K (0, 3))) ∧
                      (((decide ((w64 ((w64 ((w64 ((w64 (u1 - (w64 (u0.Add * u2)))).tdiv r171)).tdiv r261)) * (w64 (x11.tdiv r216)))) < ((boundsS u0).1))) || (decide ((w64 ((w64 ((w64 ((w64 (u1 - (w64 (u0.Add * u2)))).tdiv r171)).tdiv r261)) * (w64 (x11.tdiv r216)))) > ((boundsS u0).2)))) = false →
                        (K (w64 ((w64 ((w64 ((w64 (u1 - (w64 (u0.Add * u2)))).tdiv r171)).tdiv r261)) * (w64 (x11.tdiv r216))), 0)))))))) ∧
                  (((decide ((w64 ((w64 ((w64 (u1 - (w64 (u0.Add * u2)))).tdiv r171)).tdiv r261)) < 0)) && (decide ((w64 (x11.tdiv r216)) < 0))) = false →
                    ((((decide ((w64 ((w64 ((w64 ((w64 (u1 - (w64 (u0.Add * u2)))).tdiv r171)).tdiv r261)) * (w64 (x11.tdiv r216)))) < ((boundsS u0).1))) || (decide ((w64 ((w64 ((w64 ((w64 (u1 - (w64 (u0.Add * u2)))).tdiv r171)).tdiv r261)) * (w64 (x11.tdiv r216)))) > ((boundsS u0).2)))) = true →
                      (K (0, 3))) ∧
                    (((decide ((w64 ((w64 ((w64 ((w64 (u1 - (w64 (u0.Add * u2)))).tdiv r171)).tdiv r261)) * (w64 (x11.tdiv r216)))) < ((boundsS u0).1))) || (decide ((w64 ((w64 ((w64 ((w64 (u1 - (w64 (u0.Add * u2)))).tdiv r171)).tdiv r261)) * (w64 (x11.tdiv r216)))) > ((boundsS u0).2)))) = false →
                      (K (w64 ((w64 ((w64 ((w64 (u1 - (w64 (u0.Add * u2)))).tdiv r171)).tdiv r261)) * (w64 (x11.tdiv r216))), 0)))))))))))))))))))))))))))))))))

/-! Pure proofs: no program in sight. -/
theorem bounds_small (s : Signal) (h : 1 ≤ s.Size ∧ s.Size ≤ 40) : (-1099511627776 ≤ lowS s ∧ lowS s ≤ 0) ∧ 0 ≤ highS s ∧ highS s ≤ 1099511627776 := by
  have b : ∀ k : Nat, k ≤ 40 → 1 ≤ (2 : Int) ^ k ∧ (2 : Int) ^ k ≤ 1099511627776 := fun k hk => by
    have h1 : 1 ≤ 2 ^ k ∧ 2 ^ k ≤ 1099511627776 := ⟨Nat.one_le_two_pow, Nat.pow_le_pow_right (by omega : 0 < 2) hk⟩
    have c : ((2 ^ k : Nat) : Int) = (2 : Int) ^ k := by norm_cast
    rw [← c]
    omega
  have b1 := b (s.Size.toNat - 1) (by omega)
  have b2 := b s.Size.toNat (by omega)
  unfold lowS highS
  split <;> omega
theorem nzpp {v a : Int} (c : ((decide (v > 0)) && (decide (a > 0))) = true) : a ≠ 0 := by rw [Bool.and_eq_true, decide_eq_true_eq, decide_eq_true_eq] at c; omega
theorem nznp {v a : Int} (c : ((decide (v < 0)) && (decide (a > 0))) = true) : a ≠ 0 := by rw [Bool.and_eq_true, decide_eq_true_eq, decide_eq_true_eq] at c; omega
theorem nzpn {v a : Int} (c : ((decide (v > 0)) && (decide (a < 0))) = true) : a ≠ 0 := by rw [Bool.and_eq_true, decide_eq_true_eq, decide_eq_true_eq] at c; omega
theorem nznn {v a : Int} (c : ((decide (v < 0)) && (decide (a < 0))) = true) : a ≠ 0 := by rw [Bool.and_eq_true, decide_eq_true_eq, decide_eq_true_eq] at c; omega
theorem tdiv_nz {a g : Int} (ha : a ≠ 0) (hd : g ∣ a) : a.tdiv g ≠ 0 := by
  intro h
  have := Int.tdiv_mul_cancel hd
  rw [h, Int.zero_mul] at this
  exact ha this.symm
set_option maxHeartbeats 4000000 in
theorem sraw_ok (s : Signal) (num den : Int) : sraw_vc s num den (fun r => r = rawS s num den) := by
  refine ⟨fun h => ?_, fun h => ⟨fun h1 => ?_, fun h1 => ?_⟩⟩
  · have h : checkS s 64 ≠ 0 := by simpa using h
    unfold rawS
    rw [if_pos h]
  all_goals
    have h : checkS s 64 = 0 := by simpa using h
  · unfold rawS
    rw [if_neg (by rw [h]; decide), if_pos (by simpa [or_assoc] using h1)]
  have h1 : ¬ (den < 1 ∨ 1000000 < den ∨ 1099511627776 < num ∨ num < -1099511627776) := by simp only [Bool.or_eq_false_iff, decide_eq_false_iff_not] at h1; omega
  have hR : ∀ (x : Int) (ok : Bool), rawN s.Mul s.Div s.Add num den = (x, ok) → rawS s num den = if ok = false then (0, 4) else if x < lowS s ∨ highS s < x then (0, 3) else (x, 0) := by
    intro x ok hx
    unfold rawS
    rw [if_neg (by rw [h]; decide), if_neg h1, hx]
  have hN : rawN s.Mul s.Div s.Add num den = rawN s.Mul s.Div s.Add num den := rfl
  conv at hN => rhs; unfold rawN
  dsimp only at hN
  obtain ⟨⟨_, _, hs1, hs2⟩, ⟨f1, f2, f3, f4, f5, f6, f7⟩, _, _⟩ := check_zero h
  obtain ⟨⟨lo1, lo2⟩, hi1, hi2⟩ := bounds_small s ⟨hs1, hs2⟩
  have hA := mul_abs (a := s.Add) (b := den) (A := 1000000) (B := 1000000) ⟨f6, f7⟩ ⟨by omega, by omega⟩
  have e1 : w64 (s.Add * den) = s.Add * den := w64_eq _ (by omega)
  have e2 : w64 (num - s.Add * den) = num - s.Add * den := w64_eq _ (by omega)
  rw [e1, e2]
  have hup : -2200000000000 ≤ num - s.Add * den ∧ num - s.Add * den ≤ 2200000000000 := by omega
  generalize num - s.Add * den = up at *
  refine sgcd_mono (fun g hg => ?_) (sgcd_ok s.Div s.Mul ⟨by omega, by omega⟩)
  rw [← hg] at hN
  have g0 : g ≠ 0 := by have := ngcd_pos (a := s.Div) f1; omega
  have gm : g ∣ s.Mul := by rw [hg]; exact ngcd_right _ _
  have t1 := tdiv_abs s.Div g
  have t2 := tdiv_abs s.Mul g
  have n2 := tdiv_nz f1 gm
  rw [w64_eq (s.Div.tdiv g) (by omega), w64_eq (s.Mul.tdiv g) (by omega), w64_eq (0 - s.Div.tdiv g) (by omega), w64_eq (0 - s.Mul.tdiv g) (by omega), Int.zero_sub, Int.zero_sub]
  refine ⟨g0, g0, fun x y => x = (if s.Mul.tdiv g < 0 then -(s.Div.tdiv g) else s.Div.tdiv g) ∧ y = (if s.Mul.tdiv g < 0 then -(s.Mul.tdiv g) else s.Mul.tdiv g), ⟨fun c => ?_, fun c => ?_⟩, ?_⟩
  · have c := of_decide_eq_true c
    rw [if_pos c, if_pos c]
    exact ⟨rfl, rfl⟩
  · have c := of_decide_eq_false c
    rw [if_neg c, if_neg c]
    exact ⟨rfl, rfl⟩
  rintro x y ⟨hx, hy⟩
  rw [← hx, ← hy] at hN
  have bx : -1000000 ≤ x ∧ x ≤ 1000000 := by rw [hx]; split <;> omega
  have by2 : -1000000 ≤ y ∧ y ≤ 1000000 := by rw [hy]; split <;> omega
  have y0 : y ≠ 0 := by rw [hy]; split <;> omega
  clear hx hy
  refine sgcd_mono (fun k hk => ?_) (sgcd_ok up den ⟨by omega, by omega⟩)
  rw [← hk] at hN
  have k0 : k ≠ 0 := by have := ngcd_pos (a := up) (b := den) (by omega); omega
  have kd : k ∣ den := by rw [hk]; exact ngcd_right _ _
  have t3 := tdiv_abs up k
  have t4 := tdiv_abs den k
  have n4 := tdiv_nz (by omega : den ≠ 0) kd
  rw [w64_eq (up.tdiv k) (by omega), w64_eq (den.tdiv k) (by omega)]
  clear hk
  generalize up.tdiv k = up1 at *
  generalize den.tdiv k = den1 at *
  refine ⟨k0, k0, ?_⟩
  refine sgcd_mono (fun l hl => ?_) (sgcd_ok x den1 ⟨by omega, by omega⟩)
  rw [← hl] at hN
  have l0 : l ≠ 0 := by have := ngcd_pos (a := x) n4; omega
  refine ⟨l0, l0, ?_⟩
  refine sgcd_mono (fun m hm => ?_) (sgcd_ok up1 y ⟨by omega, by omega⟩)
  rw [← hm] at hN
  have m0 : m ≠ 0 := by have := ngcd_pos (a := up1) y0; omega
  refine ⟨m0, m0, ?_⟩
  have t5 := tdiv_abs den1 l
  have t6 := tdiv_abs up1 m
  have t7 := tdiv_abs x l
  have t8 := tdiv_abs y m
  rw [w64_eq (den1.tdiv l) (by omega), w64_eq (up1.tdiv m) (by omega), w64_eq (x.tdiv l) (by omega), w64_eq (y.tdiv m) (by omega)]
  have bv2 : -2200000000000 ≤ up1.tdiv m ∧ up1.tdiv m ≤ 2200000000000 := by omega
  have ba2 : -1000000 ≤ x.tdiv l ∧ x.tdiv l ≤ 1000000 := by omega
  clear t3 t4 t5 t6 t7 t8 hl hm
  generalize den1.tdiv l = den2 at *
  generalize y.tdiv m = b1 at *
  generalize up1.tdiv m = v at *
  generalize x.tdiv l = a at *
  replace hR := hR _ _ hN
  clear hN
  refine ⟨fun c => ?_, fun c => ⟨⟨hs1, hs2⟩, ?_⟩⟩
  · rw [hR, if_pos]
    rw [Bool.or_eq_true, bne_iff_ne, bne_iff_ne] at c
    rw [Bool.and_eq_false_iff, beq_eq_false_iff_ne, beq_eq_false_iff_ne]
    exact c
  rw [if_neg (by rw [Bool.or_eq_false_iff, bne_eq_false_iff_eq, bne_eq_false_iff_eq] at c; rw [c.1, c.2]; decide)] at hR
  have hva := mul_abs bv2 ba2
  have eva : w64 (v * a) = v * a := w64_eq _ (by omega)
  have q1 := tdiv_abs (highS s) a
  have q2 := tdiv_abs (lowS s) a
  have eh : w64 ((boundsS s).2.tdiv a) = (highS s).tdiv a := w64_eq _ (by show _ ≤ (highS s).tdiv a ∧ (highS s).tdiv a ≤ _; omega)
  have el : w64 ((boundsS s).1.tdiv a) = (lowS s).tdiv a := w64_eq _ (by show _ ≤ (lowS s).tdiv a ∧ (lowS s).tdiv a ≤ _; omega)
  rw [eva, eh, el]
  have hout : ∀ hc : (0 < v ∧ 0 < a ∧ (highS s).tdiv a < v) ∨ (v < 0 ∧ 0 < a ∧ v < (lowS s).tdiv a) ∨ (0 < v ∧ a < 0 ∧ (lowS s).tdiv a < v) ∨ (v < 0 ∧ a < 0 ∧ v < (highS s).tdiv a), ((0 : Int), (3 : Int)) = rawS s num den := by
    intro hc
    have := raw_range lo2 hi1 hc
    rw [hR, if_pos (by omega)]
  have o1 : ((decide (v > 0)) && (decide (a > 0))) = true → (decide (v > (highS s).tdiv a)) = true → ((0 : Int), (3 : Int)) = rawS s num den := by
    intro c d
    rw [Bool.and_eq_true, decide_eq_true_eq, decide_eq_true_eq] at c
    exact hout (.inl ⟨c.1, c.2, of_decide_eq_true d⟩)
  have o2 : ((decide (v < 0)) && (decide (a > 0))) = true → (decide (v < (lowS s).tdiv a)) = true → ((0 : Int), (3 : Int)) = rawS s num den := by
    intro c d
    rw [Bool.and_eq_true, decide_eq_true_eq, decide_eq_true_eq] at c
    exact hout (.inr (.inl ⟨c.1, c.2, of_decide_eq_true d⟩))
  have o3 : ((decide (v > 0)) && (decide (a < 0))) = true → (decide (v > (lowS s).tdiv a)) = true → ((0 : Int), (3 : Int)) = rawS s num den := by
    intro c d
    rw [Bool.and_eq_true, decide_eq_true_eq, decide_eq_true_eq] at c
    exact hout (.inr (.inr (.inl ⟨c.1, c.2, of_decide_eq_true d⟩)))
  have o4 : ((decide (v < 0)) && (decide (a < 0))) = true → (decide (v < (highS s).tdiv a)) = true → ((0 : Int), (3 : Int)) = rawS s num den := by
    intro c d
    rw [Bool.and_eq_true, decide_eq_true_eq, decide_eq_true_eq] at c
    exact hout (.inr (.inr (.inr ⟨c.1, c.2, of_decide_eq_true d⟩)))
  have hfin : ((((decide (v * a < (boundsS s).1)) || (decide (v * a > (boundsS s).2))) = true → ((0 : Int), (3 : Int)) = rawS s num den) ∧ (((decide (v * a < (boundsS s).1)) || (decide (v * a > (boundsS s).2))) = false → (v * a, (0 : Int)) = rawS s num den)) := by
    refine ⟨fun c => ?_, fun c => ?_⟩
    · rw [Bool.or_eq_true, decide_eq_true_eq, decide_eq_true_eq] at c
      have c : v * a < lowS s ∨ highS s < v * a := c
      rw [hR, if_pos c]
    · rw [Bool.or_eq_false_iff, decide_eq_false_iff_not, decide_eq_false_iff_not] at c
      have c1 : ¬ v * a < lowS s := c.1
      have c2 : ¬ highS s < v * a := c.2
      rw [hR, if_neg (by rintro (hh | hh); exact c1 hh; exact c2 hh)]
  exact ⟨fun c => ⟨nzpp c, fun d => o1 c d, fun _ => ⟨fun c => ⟨nznp c, fun d => o2 c d, fun _ => ⟨fun c => ⟨nzpn c, fun d => o3 c d, fun _ => ⟨fun c => ⟨nznn c, fun d => o4 c d, fun _ => hfin⟩, fun _ => hfin⟩⟩, fun _ => ⟨fun c => ⟨nznn c, fun d => o4 c d, fun _ => hfin⟩, fun _ => hfin⟩⟩⟩, fun _ => ⟨fun c => ⟨nzpn c, fun d => o3 c d, fun _ => ⟨fun c => ⟨nznn c, fun d => o4 c d, fun _ => hfin⟩, fun _ => hfin⟩⟩, fun _ => ⟨fun c => ⟨nznn c, fun d => o4 c d, fun _ => hfin⟩, fun _ => hfin⟩⟩⟩⟩, fun _ => ⟨fun c => ⟨nznp c, fun d => o2 c d, fun _ => ⟨fun c => ⟨nzpn c, fun d => o3 c d, fun _ => ⟨fun c => ⟨nznn c, fun d => o4 c d, fun _ => hfin⟩, fun _ => hfin⟩⟩, fun _ => ⟨fun c => ⟨nznn c, fun d => o4 c d, fun _ => hfin⟩, fun _ => hfin⟩⟩⟩, fun _ => ⟨fun c => ⟨nzpn c, fun d => o3 c d, fun _ => ⟨fun c => ⟨nznn c, fun d => o4 c d, fun _ => hfin⟩, fun _ => hfin⟩⟩, fun _ => ⟨fun c => ⟨nznn c, fun d => o4 c d, fun _ => hfin⟩, fun _ => hfin⟩⟩⟩⟩

end Go.Proofs.YtdndfbamhnchfaaDoor
