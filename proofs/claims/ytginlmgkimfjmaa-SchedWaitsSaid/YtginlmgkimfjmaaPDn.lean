/- What must hold so that each function ends well: pure predicates, made by program. -/
import Derived.Test.YtginlmgkimfjmaaPDm
set_option linter.unusedVariables false
set_option linter.unusedSimpArgs false
namespace Go.Proofs.Ytginlmgkimfjmaa
open Go.Sy Go.RowKit
def ssym_vc (u0 : List Job) (u1 : Int) (u2 : Int) (u3 : Int) (u4 : Job → Job → Int) (K : (List Job) → Prop) : Prop :=
  (u0.length ≤ 140737488355328 →
    ((((w64 (u2 - u1)) == 1) = true →
      (∃ inv30 : Int → Prop,
      (∃ inv254 : Int → Int → Prop, ∃ mu254 : Int → Int → Nat, inv254 u2 u3 ∧
      (∀ (x10v : Int) (x11 : Int), inv254 x10v x11 →
      (((decide (x10v < x11)) = true →
        ((0 ≤ w64 (bShr .u64 (wu64 (w64 (x10v + x11))) 1) ∧ w64 (bShr .u64 (wu64 (w64 (x10v + x11))) 1) < (u0.length : Int)) ∧
        (∀ qd4_0, u0[(w64 (bShr .u64 (wu64 (w64 (x10v + x11))) 1)).toNat]? = some qd4_0 →
        ((0 ≤ u1 ∧ u1 < (u0.length : Int)) ∧
        (∀ qd8_0, u0[u1.toNat]? = some qd8_0 →
        (((decide ((u4 qd4_0 qd8_0) < 0)) = true →
          (inv254 (w64 ((w64 (bShr .u64 (wu64 (w64 (x10v + x11))) 1)) + 1)) x11 ∧ mu254 (w64 ((w64 (bShr .u64 (wu64 (w64 (x10v + x11))) 1)) + 1)) x11 < mu254 x10v x11)) ∧
        ((decide ((u4 qd4_0 qd8_0) < 0)) = false →
          (inv254 x10v (w64 (bShr .u64 (wu64 (w64 (x10v + x11))) 1)) ∧ mu254 x10v (w64 (bShr .u64 (wu64 (w64 (x10v + x11))) 1)) < mu254 x10v x11)))))))) ∧
      ((decide (x10v < x11)) = false →
        (inv30 x10v))))) ∧
      (∀ (x10 : Int), inv30 x10 →
        (∃ inv49 : Int → (List Job) → Prop, ∃ mu49 : Int → (List Job) → Nat, inv49 u1 u0 ∧
        (∀ (x13 : Int) (zao1 : List Job), inv49 x13 zao1 →
        (((decide (x13 < (w64 (x10 - 1)))) = true →
          ((0 ≤ w64 (x13 + 1) ∧ w64 (x13 + 1) < (zao1.length : Int)) ∧
          (∀ qd9_0, zao1[(w64 (x13 + 1)).toNat]? = some qd9_0 →
          ((0 ≤ x13 ∧ x13 < (zao1.length : Int)) ∧
          (∀ qd13_0, zao1[x13.toNat]? = some qd13_0 →
          ((0 ≤ x13 ∧ x13 < (zao1.length : Int)) ∧
          ((0 ≤ w64 (x13 + 1) ∧ w64 (x13 + 1) < (zao1.length : Int)) ∧
          (inv49 (w64 (x13 + 1)) ((zao1.set x13.toNat qd9_0).set (w64 (x13 + 1)).toNat qd13_0) ∧ mu49 (w64 (x13 + 1)) ((zao1.set x13.toNat qd9_0).set (w64 (x13 + 1)).toNat qd13_0) < mu49 x13 zao1)))))))) ∧
        ((decide (x13 < (w64 (x10 - 1)))) = false →
          ((zao1.length = u0.length) ∧
          (K zao1))))))))) ∧
    (((w64 (u2 - u1)) == 1) = false →
      ((((w64 (u3 - u2)) == 1) = true →
        (∃ inv441 : Int → Prop,
        (∃ inv663 : Int → Int → Prop, ∃ mu663 : Int → Int → Nat, inv663 u1 u2 ∧
        (∀ (x14v : Int) (x15 : Int), inv663 x14v x15 →
        (((decide (x14v < x15)) = true →
          ((0 ≤ u2 ∧ u2 < (u0.length : Int)) ∧
          (∀ qd4_0, u0[u2.toNat]? = some qd4_0 →
          ((0 ≤ w64 (bShr .u64 (wu64 (w64 (x14v + x15))) 1) ∧ w64 (bShr .u64 (wu64 (w64 (x14v + x15))) 1) < (u0.length : Int)) ∧
          (∀ qd8_0, u0[(w64 (bShr .u64 (wu64 (w64 (x14v + x15))) 1)).toNat]? = some qd8_0 →
          (((!(decide ((u4 qd4_0 qd8_0) < 0))) = true →
            (inv663 (w64 ((w64 (bShr .u64 (wu64 (w64 (x14v + x15))) 1)) + 1)) x15 ∧ mu663 (w64 ((w64 (bShr .u64 (wu64 (w64 (x14v + x15))) 1)) + 1)) x15 < mu663 x14v x15)) ∧
          ((!(decide ((u4 qd4_0 qd8_0) < 0))) = false →
            (inv663 x14v (w64 (bShr .u64 (wu64 (w64 (x14v + x15))) 1)) ∧ mu663 x14v (w64 (bShr .u64 (wu64 (w64 (x14v + x15))) 1)) < mu663 x14v x15)))))))) ∧
        ((decide (x14v < x15)) = false →
          (inv441 x14v))))) ∧
        (∀ (x14 : Int), inv441 x14 →
          (∃ inv460 : Int → (List Job) → Prop, ∃ mu460 : Int → (List Job) → Nat, inv460 u2 u0 ∧
          (∀ (x17 : Int) (zao1 : List Job), inv460 x17 zao1 →
          (((decide (x17 > x14)) = true →
            ((0 ≤ w64 (x17 - 1) ∧ w64 (x17 - 1) < (zao1.length : Int)) ∧
            (∀ qd9_0, zao1[(w64 (x17 - 1)).toNat]? = some qd9_0 →
            ((0 ≤ x17 ∧ x17 < (zao1.length : Int)) ∧
            (∀ qd13_0, zao1[x17.toNat]? = some qd13_0 →
            ((0 ≤ x17 ∧ x17 < (zao1.length : Int)) ∧
            ((0 ≤ w64 (x17 - 1) ∧ w64 (x17 - 1) < (zao1.length : Int)) ∧
            (inv460 (w64 (x17 - 1)) ((zao1.set x17.toNat qd9_0).set (w64 (x17 - 1)).toNat qd13_0) ∧ mu460 (w64 (x17 - 1)) ((zao1.set x17.toNat qd9_0).set (w64 (x17 - 1)).toNat qd13_0) < mu460 x17 zao1)))))))) ∧
          ((decide (x17 > x14)) = false →
            ((zao1.length = u0.length) ∧
            (K zao1))))))))) ∧
      (((w64 (u3 - u2)) == 1) = false →
        (((decide (u2 > (w64 (bShr .u64 (wu64 (w64 (u1 + u3))) 1)))) = true →
          (∃ inv898 : Int → Prop,
          (∃ inv1255 : Int → Int → Prop, ∃ mu1255 : Int → Int → Nat, inv1255 (w64 ((w64 ((w64 (bShr .u64 (wu64 (w64 (u1 + u3))) 1)) + u2)) - u3)) (w64 (bShr .u64 (wu64 (w64 (u1 + u3))) 1)) ∧
          (∀ (x20v : Int) (x21 : Int), inv1255 x20v x21 →
          (((decide (x20v < x21)) = true →
            ((0 ≤ w64 ((w64 ((w64 ((w64 (bShr .u64 (wu64 (w64 (u1 + u3))) 1)) + u2)) - 1)) - (w64 (bShr .u64 (wu64 (w64 (x20v + x21))) 1))) ∧ w64 ((w64 ((w64 ((w64 (bShr .u64 (wu64 (w64 (u1 + u3))) 1)) + u2)) - 1)) - (w64 (bShr .u64 (wu64 (w64 (x20v + x21))) 1))) < (u0.length : Int)) ∧
            (∀ qd6_0, u0[(w64 ((w64 ((w64 ((w64 (bShr .u64 (wu64 (w64 (u1 + u3))) 1)) + u2)) - 1)) - (w64 (bShr .u64 (wu64 (w64 (x20v + x21))) 1)))).toNat]? = some qd6_0 →
            ((0 ≤ w64 (bShr .u64 (wu64 (w64 (x20v + x21))) 1) ∧ w64 (bShr .u64 (wu64 (w64 (x20v + x21))) 1) < (u0.length : Int)) ∧
            (∀ qd10_0, u0[(w64 (bShr .u64 (wu64 (w64 (x20v + x21))) 1)).toNat]? = some qd10_0 →
            (((!(decide ((u4 qd6_0 qd10_0) < 0))) = true →
              (inv1255 (w64 ((w64 (bShr .u64 (wu64 (w64 (x20v + x21))) 1)) + 1)) x21 ∧ mu1255 (w64 ((w64 (bShr .u64 (wu64 (w64 (x20v + x21))) 1)) + 1)) x21 < mu1255 x20v x21)) ∧
            ((!(decide ((u4 qd6_0 qd10_0) < 0))) = false →
              (inv1255 x20v (w64 (bShr .u64 (wu64 (w64 (x20v + x21))) 1)) ∧ mu1255 x20v (w64 (bShr .u64 (wu64 (w64 (x20v + x21))) 1)) < mu1255 x20v x21)))))))) ∧
          ((decide (x20v < x21)) = false →
            (inv898 x20v))))) ∧
          (∀ (x20 : Int), inv898 x20 →
            ((((decide (x20 < u2)) && (decide (u2 < (w64 ((w64 ((w64 (bShr .u64 (wu64 (w64 (u1 + u3))) 1)) + u2)) - x20))))) = true →
              (srot_vc u0 x20 u2 (w64 ((w64 ((w64 (bShr .u64 (wu64 (w64 (u1 + u3))) 1)) + u2)) - x20)) u4 fun r952 =>
              (r952.length ≤ 140737488355328 →
              ((((decide (u1 < x20)) && (decide (x20 < (w64 (bShr .u64 (wu64 (w64 (u1 + u3))) 1))))) = true →
                ((symMu r952 u1 x20 (w64 (bShr .u64 (wu64 (w64 (u1 + u3))) 1)) u4 < symMu u0 u1 u2 u3 u4 ∧ symPre r952 u1 x20 (w64 (bShr .u64 (wu64 (w64 (u1 + u3))) 1)) u4) ∧
                ((segC2 r952 u1 x20 (w64 (bShr .u64 (wu64 (w64 (u1 + u3))) 1)) u4).length ≤ 140737488355328 →
                ((((decide ((w64 (bShr .u64 (wu64 (w64 (u1 + u3))) 1)) < (w64 ((w64 ((w64 (bShr .u64 (wu64 (w64 (u1 + u3))) 1)) + u2)) - x20)))) && (decide ((w64 ((w64 ((w64 (bShr .u64 (wu64 (w64 (u1 + u3))) 1)) + u2)) - x20)) < u3))) = true →
                  ((symMu (segC2 r952 u1 x20 (w64 (bShr .u64 (wu64 (w64 (u1 + u3))) 1)) u4) (w64 (bShr .u64 (wu64 (w64 (u1 + u3))) 1)) (w64 ((w64 ((w64 (bShr .u64 (wu64 (w64 (u1 + u3))) 1)) + u2)) - x20)) u3 u4 < symMu u0 u1 u2 u3 u4 ∧ symPre (segC2 r952 u1 x20 (w64 (bShr .u64 (wu64 (w64 (u1 + u3))) 1)) u4) (w64 (bShr .u64 (wu64 (w64 (u1 + u3))) 1)) (w64 ((w64 ((w64 (bShr .u64 (wu64 (w64 (u1 + u3))) 1)) + u2)) - x20)) u3 u4) ∧
                  ((segC2 (segC2 r952 u1 x20 (w64 (bShr .u64 (wu64 (w64 (u1 + u3))) 1)) u4) (w64 (bShr .u64 (wu64 (w64 (u1 + u3))) 1)) (w64 ((w64 ((w64 (bShr .u64 (wu64 (w64 (u1 + u3))) 1)) + u2)) - x20)) u3 u4).length ≤ 140737488355328 →
                  (((segC2 (segC2 r952 u1 x20 (w64 (bShr .u64 (wu64 (w64 (u1 + u3))) 1)) u4) (w64 (bShr .u64 (wu64 (w64 (u1 + u3))) 1)) (w64 ((w64 ((w64 (bShr .u64 (wu64 (w64 (u1 + u3))) 1)) + u2)) - x20)) u3 u4).length = u0.length) ∧
                  (K (segC2 (segC2 r952 u1 x20 (w64 (bShr .u64 (wu64 (w64 (u1 + u3))) 1)) u4) (w64 (bShr .u64 (wu64 (w64 (u1 + u3))) 1)) (w64 ((w64 ((w64 (bShr .u64 (wu64 (w64 (u1 + u3))) 1)) + u2)) - x20)) u3 u4)))))) ∧
                (((decide ((w64 (bShr .u64 (wu64 (w64 (u1 + u3))) 1)) < (w64 ((w64 ((w64 (bShr .u64 (wu64 (w64 (u1 + u3))) 1)) + u2)) - x20)))) && (decide ((w64 ((w64 ((w64 (bShr .u64 (wu64 (w64 (u1 + u3))) 1)) + u2)) - x20)) < u3))) = false →
                  (((segC2 r952 u1 x20 (w64 (bShr .u64 (wu64 (w64 (u1 + u3))) 1)) u4).length = u0.length) ∧
                  (K (segC2 r952 u1 x20 (w64 (bShr .u64 (wu64 (w64 (u1 + u3))) 1)) u4)))))))) ∧
              (((decide (u1 < x20)) && (decide (x20 < (w64 (bShr .u64 (wu64 (w64 (u1 + u3))) 1))))) = false →
                ((((decide ((w64 (bShr .u64 (wu64 (w64 (u1 + u3))) 1)) < (w64 ((w64 ((w64 (bShr .u64 (wu64 (w64 (u1 + u3))) 1)) + u2)) - x20)))) && (decide ((w64 ((w64 ((w64 (bShr .u64 (wu64 (w64 (u1 + u3))) 1)) + u2)) - x20)) < u3))) = true →
                  ((symMu r952 (w64 (bShr .u64 (wu64 (w64 (u1 + u3))) 1)) (w64 ((w64 ((w64 (bShr .u64 (wu64 (w64 (u1 + u3))) 1)) + u2)) - x20)) u3 u4 < symMu u0 u1 u2 u3 u4 ∧ symPre r952 (w64 (bShr .u64 (wu64 (w64 (u1 + u3))) 1)) (w64 ((w64 ((w64 (bShr .u64 (wu64 (w64 (u1 + u3))) 1)) + u2)) - x20)) u3 u4) ∧
                  ((segC2 r952 (w64 (bShr .u64 (wu64 (w64 (u1 + u3))) 1)) (w64 ((w64 ((w64 (bShr .u64 (wu64 (w64 (u1 + u3))) 1)) + u2)) - x20)) u3 u4).length ≤ 140737488355328 →
                  (((segC2 r952 (w64 (bShr .u64 (wu64 (w64 (u1 + u3))) 1)) (w64 ((w64 ((w64 (bShr .u64 (wu64 (w64 (u1 + u3))) 1)) + u2)) - x20)) u3 u4).length = u0.length) ∧
                  (K (segC2 r952 (w64 (bShr .u64 (wu64 (w64 (u1 + u3))) 1)) (w64 ((w64 ((w64 (bShr .u64 (wu64 (w64 (u1 + u3))) 1)) + u2)) - x20)) u3 u4)))))) ∧
                (((decide ((w64 (bShr .u64 (wu64 (w64 (u1 + u3))) 1)) < (w64 ((w64 ((w64 (bShr .u64 (wu64 (w64 (u1 + u3))) 1)) + u2)) - x20)))) && (decide ((w64 ((w64 ((w64 (bShr .u64 (wu64 (w64 (u1 + u3))) 1)) + u2)) - x20)) < u3))) = false →
                  ((r952.length = u0.length) ∧
                  (K r952))))))))) ∧
            (((decide (x20 < u2)) && (decide (u2 < (w64 ((w64 ((w64 (bShr .u64 (wu64 (w64 (u1 + u3))) 1)) + u2)) - x20))))) = false →
              ((((decide (u1 < x20)) && (decide (x20 < (w64 (bShr .u64 (wu64 (w64 (u1 + u3))) 1))))) = true →
                ((symMu u0 u1 x20 (w64 (bShr .u64 (wu64 (w64 (u1 + u3))) 1)) u4 < symMu u0 u1 u2 u3 u4 ∧ symPre u0 u1 x20 (w64 (bShr .u64 (wu64 (w64 (u1 + u3))) 1)) u4) ∧
                ((segC2 u0 u1 x20 (w64 (bShr .u64 (wu64 (w64 (u1 + u3))) 1)) u4).length ≤ 140737488355328 →
                ((((decide ((w64 (bShr .u64 (wu64 (w64 (u1 + u3))) 1)) < (w64 ((w64 ((w64 (bShr .u64 (wu64 (w64 (u1 + u3))) 1)) + u2)) - x20)))) && (decide ((w64 ((w64 ((w64 (bShr .u64 (wu64 (w64 (u1 + u3))) 1)) + u2)) - x20)) < u3))) = true →
                  ((symMu (segC2 u0 u1 x20 (w64 (bShr .u64 (wu64 (w64 (u1 + u3))) 1)) u4) (w64 (bShr .u64 (wu64 (w64 (u1 + u3))) 1)) (w64 ((w64 ((w64 (bShr .u64 (wu64 (w64 (u1 + u3))) 1)) + u2)) - x20)) u3 u4 < symMu u0 u1 u2 u3 u4 ∧ symPre (segC2 u0 u1 x20 (w64 (bShr .u64 (wu64 (w64 (u1 + u3))) 1)) u4) (w64 (bShr .u64 (wu64 (w64 (u1 + u3))) 1)) (w64 ((w64 ((w64 (bShr .u64 (wu64 (w64 (u1 + u3))) 1)) + u2)) - x20)) u3 u4) ∧
                  ((segC2 (segC2 u0 u1 x20 (w64 (bShr .u64 (wu64 (w64 (u1 + u3))) 1)) u4) (w64 (bShr .u64 (wu64 (w64 (u1 + u3))) 1)) (w64 ((w64 ((w64 (bShr .u64 (wu64 (w64 (u1 + u3))) 1)) + u2)) - x20)) u3 u4).length ≤ 140737488355328 →
                  (((segC2 (segC2 u0 u1 x20 (w64 (bShr .u64 (wu64 (w64 (u1 + u3))) 1)) u4) (w64 (bShr .u64 (wu64 (w64 (u1 + u3))) 1)) (w64 ((w64 ((w64 (bShr .u64 (wu64 (w64 (u1 + u3))) 1)) + u2)) - x20)) u3 u4).length = u0.length) ∧
                  (K (segC2 (segC2 u0 u1 x20 (w64 (bShr .u64 (wu64 (w64 (u1 + u3))) 1)) u4) (w64 (bShr .u64 (wu64 (w64 (u1 + u3))) 1)) (w64 ((w64 ((w64 (bShr .u64 (wu64 (w64 (u1 + u3))) 1)) + u2)) - x20)) u3 u4)))))) ∧
                (((decide ((w64 (bShr .u64 (wu64 (w64 (u1 + u3))) 1)) < (w64 ((w64 ((w64 (bShr .u64 (wu64 (w64 (u1 + u3))) 1)) + u2)) - x20)))) && (decide ((w64 ((w64 ((w64 (bShr .u64 (wu64 (w64 (u1 + u3))) 1)) + u2)) - x20)) < u3))) = false →
                  (((segC2 u0 u1 x20 (w64 (bShr .u64 (wu64 (w64 (u1 + u3))) 1)) u4).length = u0.length) ∧
                  (K (segC2 u0 u1 x20 (w64 (bShr .u64 (wu64 (w64 (u1 + u3))) 1)) u4)))))))) ∧
              (((decide (u1 < x20)) && (decide (x20 < (w64 (bShr .u64 (wu64 (w64 (u1 + u3))) 1))))) = false →
                ((((decide ((w64 (bShr .u64 (wu64 (w64 (u1 + u3))) 1)) < (w64 ((w64 ((w64 (bShr .u64 (wu64 (w64 (u1 + u3))) 1)) + u2)) - x20)))) && (decide ((w64 ((w64 ((w64 (bShr .u64 (wu64 (w64 (u1 + u3))) 1)) + u2)) - x20)) < u3))) = true →
                  ((symMu u0 (w64 (bShr .u64 (wu64 (w64 (u1 + u3))) 1)) (w64 ((w64 ((w64 (bShr .u64 (wu64 (w64 (u1 + u3))) 1)) + u2)) - x20)) u3 u4 < symMu u0 u1 u2 u3 u4 ∧ symPre u0 (w64 (bShr .u64 (wu64 (w64 (u1 + u3))) 1)) (w64 ((w64 ((w64 (bShr .u64 (wu64 (w64 (u1 + u3))) 1)) + u2)) - x20)) u3 u4) ∧
                  ((segC2 u0 (w64 (bShr .u64 (wu64 (w64 (u1 + u3))) 1)) (w64 ((w64 ((w64 (bShr .u64 (wu64 (w64 (u1 + u3))) 1)) + u2)) - x20)) u3 u4).length ≤ 140737488355328 →
                  (((segC2 u0 (w64 (bShr .u64 (wu64 (w64 (u1 + u3))) 1)) (w64 ((w64 ((w64 (bShr .u64 (wu64 (w64 (u1 + u3))) 1)) + u2)) - x20)) u3 u4).length = u0.length) ∧
                  (K (segC2 u0 (w64 (bShr .u64 (wu64 (w64 (u1 + u3))) 1)) (w64 ((w64 ((w64 (bShr .u64 (wu64 (w64 (u1 + u3))) 1)) + u2)) - x20)) u3 u4)))))) ∧
                (((decide ((w64 (bShr .u64 (wu64 (w64 (u1 + u3))) 1)) < (w64 ((w64 ((w64 (bShr .u64 (wu64 (w64 (u1 + u3))) 1)) + u2)) - x20)))) && (decide ((w64 ((w64 ((w64 (bShr .u64 (wu64 (w64 (u1 + u3))) 1)) + u2)) - x20)) < u3))) = false →
                  ((u0.length = u0.length) ∧
                  (K u0))))))))))) ∧
        ((decide (u2 > (w64 (bShr .u64 (wu64 (w64 (u1 + u3))) 1)))) = false →
          (∃ inv1458 : Int → Prop,
          (∃ inv1815 : Int → Int → Prop, ∃ mu1815 : Int → Int → Nat, inv1815 u1 u2 ∧
          (∀ (x20v : Int) (x21 : Int), inv1815 x20v x21 →
          (((decide (x20v < x21)) = true →
            ((0 ≤ w64 ((w64 ((w64 ((w64 (bShr .u64 (wu64 (w64 (u1 + u3))) 1)) + u2)) - 1)) - (w64 (bShr .u64 (wu64 (w64 (x20v + x21))) 1))) ∧ w64 ((w64 ((w64 ((w64 (bShr .u64 (wu64 (w64 (u1 + u3))) 1)) + u2)) - 1)) - (w64 (bShr .u64 (wu64 (w64 (x20v + x21))) 1))) < (u0.length : Int)) ∧
            (∀ qd6_0, u0[(w64 ((w64 ((w64 ((w64 (bShr .u64 (wu64 (w64 (u1 + u3))) 1)) + u2)) - 1)) - (w64 (bShr .u64 (wu64 (w64 (x20v + x21))) 1)))).toNat]? = some qd6_0 →
            ((0 ≤ w64 (bShr .u64 (wu64 (w64 (x20v + x21))) 1) ∧ w64 (bShr .u64 (wu64 (w64 (x20v + x21))) 1) < (u0.length : Int)) ∧
            (∀ qd10_0, u0[(w64 (bShr .u64 (wu64 (w64 (x20v + x21))) 1)).toNat]? = some qd10_0 →
            (((!(decide ((u4 qd6_0 qd10_0) < 0))) = true →
              (inv1815 (w64 ((w64 (bShr .u64 (wu64 (w64 (x20v + x21))) 1)) + 1)) x21 ∧ mu1815 (w64 ((w64 (bShr .u64 (wu64 (w64 (x20v + x21))) 1)) + 1)) x21 < mu1815 x20v x21)) ∧
            ((!(decide ((u4 qd6_0 qd10_0) < 0))) = false →
              (inv1815 x20v (w64 (bShr .u64 (wu64 (w64 (x20v + x21))) 1)) ∧ mu1815 x20v (w64 (bShr .u64 (wu64 (w64 (x20v + x21))) 1)) < mu1815 x20v x21)))))))) ∧
          ((decide (x20v < x21)) = false →
            (inv1458 x20v))))) ∧
          (∀ (x20 : Int), inv1458 x20 →
            ((((decide (x20 < u2)) && (decide (u2 < (w64 ((w64 ((w64 (bShr .u64 (wu64 (w64 (u1 + u3))) 1)) + u2)) - x20))))) = true →
              (srot_vc u0 x20 u2 (w64 ((w64 ((w64 (bShr .u64 (wu64 (w64 (u1 + u3))) 1)) + u2)) - x20)) u4 fun r1512 =>
              (r1512.length ≤ 140737488355328 →
              ((((decide (u1 < x20)) && (decide (x20 < (w64 (bShr .u64 (wu64 (w64 (u1 + u3))) 1))))) = true →
                ((symMu r1512 u1 x20 (w64 (bShr .u64 (wu64 (w64 (u1 + u3))) 1)) u4 < symMu u0 u1 u2 u3 u4 ∧ symPre r1512 u1 x20 (w64 (bShr .u64 (wu64 (w64 (u1 + u3))) 1)) u4) ∧
                ((segC2 r1512 u1 x20 (w64 (bShr .u64 (wu64 (w64 (u1 + u3))) 1)) u4).length ≤ 140737488355328 →
                ((((decide ((w64 (bShr .u64 (wu64 (w64 (u1 + u3))) 1)) < (w64 ((w64 ((w64 (bShr .u64 (wu64 (w64 (u1 + u3))) 1)) + u2)) - x20)))) && (decide ((w64 ((w64 ((w64 (bShr .u64 (wu64 (w64 (u1 + u3))) 1)) + u2)) - x20)) < u3))) = true →
                  ((symMu (segC2 r1512 u1 x20 (w64 (bShr .u64 (wu64 (w64 (u1 + u3))) 1)) u4) (w64 (bShr .u64 (wu64 (w64 (u1 + u3))) 1)) (w64 ((w64 ((w64 (bShr .u64 (wu64 (w64 (u1 + u3))) 1)) + u2)) - x20)) u3 u4 < symMu u0 u1 u2 u3 u4 ∧ symPre (segC2 r1512 u1 x20 (w64 (bShr .u64 (wu64 (w64 (u1 + u3))) 1)) u4) (w64 (bShr .u64 (wu64 (w64 (u1 + u3))) 1)) (w64 ((w64 ((w64 (bShr .u64 (wu64 (w64 (u1 + u3))) 1)) + u2)) - x20)) u3 u4) ∧
                  ((segC2 (segC2 r1512 u1 x20 (w64 (bShr .u64 (wu64 (w64 (u1 + u3))) 1)) u4) (w64 (bShr .u64 (wu64 (w64 (u1 + u3))) 1)) (w64 ((w64 ((w64 (bShr .u64 (wu64 (w64 (u1 + u3))) 1)) + u2)) - x20)) u3 u4).length ≤ 140737488355328 →
                  (((segC2 (segC2 r1512 u1 x20 (w64 (bShr .u64 (wu64 (w64 (u1 + u3))) 1)) u4) (w64 (bShr .u64 (wu64 (w64 (u1 + u3))) 1)) (w64 ((w64 ((w64 (bShr .u64 (wu64 (w64 (u1 + u3))) 1)) + u2)) - x20)) u3 u4).length = u0.length) ∧
                  (K (segC2 (segC2 r1512 u1 x20 (w64 (bShr .u64 (wu64 (w64 (u1 + u3))) 1)) u4) (w64 (bShr .u64 (wu64 (w64 (u1 + u3))) 1)) (w64 ((w64 ((w64 (bShr .u64 (wu64 (w64 (u1 + u3))) 1)) + u2)) - x20)) u3 u4)))))) ∧
                (((decide ((w64 (bShr .u64 (wu64 (w64 (u1 + u3))) 1)) < (w64 ((w64 ((w64 (bShr .u64 (wu64 (w64 (u1 + u3))) 1)) + u2)) - x20)))) && (decide ((w64 ((w64 ((w64 (bShr .u64 (wu64 (w64 (u1 + u3))) 1)) + u2)) - x20)) < u3))) = false →
                  (((segC2 r1512 u1 x20 (w64 (bShr .u64 (wu64 (w64 (u1 + u3))) 1)) u4).length = u0.length) ∧
                  (K (segC2 r1512 u1 x20 (w64 (bShr .u64 (wu64 (w64 (u1 + u3))) 1)) u4)))))))) ∧
              (((decide (u1 < x20)) && (decide (x20 < (w64 (bShr .u64 (wu64 (w64 (u1 + u3))) 1))))) = false →
                ((((decide ((w64 (bShr .u64 (wu64 (w64 (u1 + u3))) 1)) < (w64 ((w64 ((w64 (bShr .u64 (wu64 (w64 (u1 + u3))) 1)) + u2)) - x20)))) && (decide ((w64 ((w64 ((w64 (bShr .u64 (wu64 (w64 (u1 + u3))) 1)) + u2)) - x20)) < u3))) = true →
                  ((symMu r1512 (w64 (bShr .u64 (wu64 (w64 (u1 + u3))) 1)) (w64 ((w64 ((w64 (bShr .u64 (wu64 (w64 (u1 + u3))) 1)) + u2)) - x20)) u3 u4 < symMu u0 u1 u2 u3 u4 ∧ symPre r1512 (w64 (bShr .u64 (wu64 (w64 (u1 + u3))) 1)) (w64 ((w64 ((w64 (bShr .u64 (wu64 (w64 (u1 + u3))) 1)) + u2)) - x20)) u3 u4) ∧
                  ((segC2 r1512 (w64 (bShr .u64 (wu64 (w64 (u1 + u3))) 1)) (w64 ((w64 ((w64 (bShr .u64 (wu64 (w64 (u1 + u3))) 1)) + u2)) - x20)) u3 u4).length ≤ 140737488355328 →
                  (((segC2 r1512 (w64 (bShr .u64 (wu64 (w64 (u1 + u3))) 1)) (w64 ((w64 ((w64 (bShr .u64 (wu64 (w64 (u1 + u3))) 1)) + u2)) - x20)) u3 u4).length = u0.length) ∧
                  (K (segC2 r1512 (w64 (bShr .u64 (wu64 (w64 (u1 + u3))) 1)) (w64 ((w64 ((w64 (bShr .u64 (wu64 (w64 (u1 + u3))) 1)) + u2)) - x20)) u3 u4)))))) ∧
                (((decide ((w64 (bShr .u64 (wu64 (w64 (u1 + u3))) 1)) < (w64 ((w64 ((w64 (bShr .u64 (wu64 (w64 (u1 + u3))) 1)) + u2)) - x20)))) && (decide ((w64 ((w64 ((w64 (bShr .u64 (wu64 (w64 (u1 + u3))) 1)) + u2)) - x20)) < u3))) = false →
                  ((r1512.length = u0.length) ∧
                  (K r1512))))))))) ∧
            (((decide (x20 < u2)) && (decide (u2 < (w64 ((w64 ((w64 (bShr .u64 (wu64 (w64 (u1 + u3))) 1)) + u2)) - x20))))) = false →
              ((((decide (u1 < x20)) && (decide (x20 < (w64 (bShr .u64 (wu64 (w64 (u1 + u3))) 1))))) = true →
                ((symMu u0 u1 x20 (w64 (bShr .u64 (wu64 (w64 (u1 + u3))) 1)) u4 < symMu u0 u1 u2 u3 u4 ∧ symPre u0 u1 x20 (w64 (bShr .u64 (wu64 (w64 (u1 + u3))) 1)) u4) ∧
                ((segC2 u0 u1 x20 (w64 (bShr .u64 (wu64 (w64 (u1 + u3))) 1)) u4).length ≤ 140737488355328 →
                ((((decide ((w64 (bShr .u64 (wu64 (w64 (u1 + u3))) 1)) < (w64 ((w64 ((w64 (bShr .u64 (wu64 (w64 (u1 + u3))) 1)) + u2)) - x20)))) && (decide ((w64 ((w64 ((w64 (bShr .u64 (wu64 (w64 (u1 + u3))) 1)) + u2)) - x20)) < u3))) = true →
                  ((symMu (segC2 u0 u1 x20 (w64 (bShr .u64 (wu64 (w64 (u1 + u3))) 1)) u4) (w64 (bShr .u64 (wu64 (w64 (u1 + u3))) 1)) (w64 ((w64 ((w64 (bShr .u64 (wu64 (w64 (u1 + u3))) 1)) + u2)) - x20)) u3 u4 < symMu u0 u1 u2 u3 u4 ∧ symPre (segC2 u0 u1 x20 (w64 (bShr .u64 (wu64 (w64 (u1 + u3))) 1)) u4) (w64 (bShr .u64 (wu64 (w64 (u1 + u3))) 1)) (w64 ((w64 ((w64 (bShr .u64 (wu64 (w64 (u1 + u3))) 1)) + u2)) - x20)) u3 u4) ∧
                  ((segC2 (segC2 u0 u1 x20 (w64 (bShr .u64 (wu64 (w64 (u1 + u3))) 1)) u4) (w64 (bShr .u64 (wu64 (w64 (u1 + u3))) 1)) (w64 ((w64 ((w64 (bShr .u64 (wu64 (w64 (u1 + u3))) 1)) + u2)) - x20)) u3 u4).length ≤ 140737488355328 →
                  (((segC2 (segC2 u0 u1 x20 (w64 (bShr .u64 (wu64 (w64 (u1 + u3))) 1)) u4) (w64 (bShr .u64 (wu64 (w64 (u1 + u3))) 1)) (w64 ((w64 ((w64 (bShr .u64 (wu64 (w64 (u1 + u3))) 1)) + u2)) - x20)) u3 u4).length = u0.length) ∧
                  (K (segC2 (segC2 u0 u1 x20 (w64 (bShr .u64 (wu64 (w64 (u1 + u3))) 1)) u4) (w64 (bShr .u64 (wu64 (w64 (u1 + u3))) 1)) (w64 ((w64 ((w64 (bShr .u64 (wu64 (w64 (u1 + u3))) 1)) + u2)) - x20)) u3 u4)))))) ∧
                (((decide ((w64 (bShr .u64 (wu64 (w64 (u1 + u3))) 1)) < (w64 ((w64 ((w64 (bShr .u64 (wu64 (w64 (u1 + u3))) 1)) + u2)) - x20)))) && (decide ((w64 ((w64 ((w64 (bShr .u64 (wu64 (w64 (u1 + u3))) 1)) + u2)) - x20)) < u3))) = false →
                  (((segC2 u0 u1 x20 (w64 (bShr .u64 (wu64 (w64 (u1 + u3))) 1)) u4).length = u0.length) ∧
                  (K (segC2 u0 u1 x20 (w64 (bShr .u64 (wu64 (w64 (u1 + u3))) 1)) u4)))))))) ∧
              (((decide (u1 < x20)) && (decide (x20 < (w64 (bShr .u64 (wu64 (w64 (u1 + u3))) 1))))) = false →
                ((((decide ((w64 (bShr .u64 (wu64 (w64 (u1 + u3))) 1)) < (w64 ((w64 ((w64 (bShr .u64 (wu64 (w64 (u1 + u3))) 1)) + u2)) - x20)))) && (decide ((w64 ((w64 ((w64 (bShr .u64 (wu64 (w64 (u1 + u3))) 1)) + u2)) - x20)) < u3))) = true →
                  ((symMu u0 (w64 (bShr .u64 (wu64 (w64 (u1 + u3))) 1)) (w64 ((w64 ((w64 (bShr .u64 (wu64 (w64 (u1 + u3))) 1)) + u2)) - x20)) u3 u4 < symMu u0 u1 u2 u3 u4 ∧ symPre u0 (w64 (bShr .u64 (wu64 (w64 (u1 + u3))) 1)) (w64 ((w64 ((w64 (bShr .u64 (wu64 (w64 (u1 + u3))) 1)) + u2)) - x20)) u3 u4) ∧
                  ((segC2 u0 (w64 (bShr .u64 (wu64 (w64 (u1 + u3))) 1)) (w64 ((w64 ((w64 (bShr .u64 (wu64 (w64 (u1 + u3))) 1)) + u2)) - x20)) u3 u4).length ≤ 140737488355328 →
                  (((segC2 u0 (w64 (bShr .u64 (wu64 (w64 (u1 + u3))) 1)) (w64 ((w64 ((w64 (bShr .u64 (wu64 (w64 (u1 + u3))) 1)) + u2)) - x20)) u3 u4).length = u0.length) ∧
                  (K (segC2 u0 (w64 (bShr .u64 (wu64 (w64 (u1 + u3))) 1)) (w64 ((w64 ((w64 (bShr .u64 (wu64 (w64 (u1 + u3))) 1)) + u2)) - x20)) u3 u4)))))) ∧
                (((decide ((w64 (bShr .u64 (wu64 (w64 (u1 + u3))) 1)) < (w64 ((w64 ((w64 (bShr .u64 (wu64 (w64 (u1 + u3))) 1)) + u2)) - x20)))) && (decide ((w64 ((w64 ((w64 (bShr .u64 (wu64 (w64 (u1 + u3))) 1)) + u2)) - x20)) < u3))) = false →
                  ((u0.length = u0.length) ∧
                  (K u0)))))))))))))))))

/-! Pure proofs: no program in sight. -/
theorem srot_ok (l : List Job) (a m b : Int) (cmp : Job → Job → Int) (p u v q : List Job) (hl : l = p ++ (u ++ (v ++ q))) (ha : a = p.length) (hm : m = a + u.length) (hb : b = m + v.length) (hu : u ≠ []) (hv : v ≠ []) (hs : l.length ≤ 10000000) : srot_vc l a m b cmp (fun r => r = p ++ (v ++ (u ++ q))) := by
  intro _
  have hlen : l.length = p.length + u.length + v.length + q.length := by rw [hl]; simp; omega
  have pos : ∀ {x : List Job}, x ≠ [] → 0 < x.length := fun h => List.length_pos_iff.2 h
  have ne : ∀ {x : List Job}, 0 < x.length → x ≠ [] := fun h => List.length_pos_iff.1 h
  have e1 : w64 (m - a) = u.length := by rw [w64_eq _ (by omega)]; omega
  have e2 : w64 (b - m) = v.length := by rw [w64_eq _ (by omega)]; omega
  rw [e1, e2]
  refine ⟨fun i j z => ∃ (p' u' v' q' : List Job), i = u'.length ∧ j = v'.length ∧ u' ≠ [] ∧ v' ≠ [] ∧ z = p' ++ (u' ++ (v' ++ q')) ∧ m = p'.length + u'.length ∧ z.length = l.length ∧ p' ++ (v' ++ (u' ++ q')) = p ++ (v ++ (u ++ q)), fun i j _ => (i + j).toNat, ⟨p, u, v, q, rfl, rfl, hu, hv, hl, by omega, rfl, rfl⟩, ?_⟩
  rintro _ _ _ ⟨p', u', v', q', rfl, rfl, hu', hv', rfl, hm', hz, hf⟩
  have h1 := pos hu'
  have h2 := pos hv'
  have hzl : (p' ++ (u' ++ (v' ++ q'))).length = p'.length + u'.length + v'.length + q'.length := by simp; omega
  refine ⟨fun h3 => ⟨fun h4 => ?_, fun h4 => ?_⟩, fun h3 => ?_⟩
  · have h4 := of_decide_eq_true h4
    have e3 : w64 (m - (u'.length : Int)) = p'.length := by rw [w64_eq _ (by omega)]; omega
    rw [e3]
    obtain ⟨u1, u2, rfl, l1⟩ : ∃ u1 u2, u' = u1 ++ u2 ∧ u1.length = v'.length := ⟨_, _, (List.take_append_drop v'.length u').symm, by simp; omega⟩
    have l2 : (u1 ++ u2).length = u1.length + u2.length := List.length_append
    refine sswap_mono ?_ (sswap_ok _ _ _ _ cmp p' u1 u2 v' q' (by simp) rfl (by omega) (by rw [l1]) l1.symm (by omega))
    rintro _ rfl _
    have e4 : w64 (((u1 ++ u2).length : Int) - (v'.length : Int)) = u2.length := by rw [w64_eq _ (by omega), l2]; omega
    rw [e4]
    refine ⟨⟨p' ++ v', u2, u1, q', rfl, by rw [l1], ne (by omega), ne (by omega), by simp, by simp; omega, by simp; omega, ?_⟩, by (try dsimp only); omega⟩
    rw [← hf]
    simp
  · have h3 : (u'.length : Int) ≠ (v'.length : Int) := by simpa using h3
    have h4 : ¬ (u'.length : Int) > (v'.length : Int) := of_decide_eq_false h4
    have e3 : w64 (m - (u'.length : Int)) = p'.length := by rw [w64_eq _ (by omega)]; omega
    have e5 : w64 (w64 (m + (v'.length : Int)) - (u'.length : Int)) = p'.length + v'.length := by rw [w64_eq (m + _) (by omega), w64_eq _ (by omega)]; omega
    rw [e3, e5]
    obtain ⟨v1, v2, rfl, l1⟩ : ∃ v1 v2, v' = v1 ++ v2 ∧ v2.length = u'.length := ⟨_, _, (List.take_append_drop (v'.length - u'.length) v').symm, by simp; omega⟩
    have l2 : (v1 ++ v2).length = v1.length + v2.length := List.length_append
    refine sswap_mono ?_ (sswap_ok _ _ _ _ cmp p' u' v1 v2 q' (by simp) rfl (by omega) rfl l1 (by omega))
    rintro _ rfl _
    have e4 : w64 (((v1 ++ v2).length : Int) - (u'.length : Int)) = v1.length := by rw [w64_eq _ (by omega), l2]; omega
    rw [e4]
    refine ⟨⟨p', v2, v1, u' ++ q', by rw [l1], rfl, ne (by omega), ne (by omega), by simp, by omega, by simp; omega, ?_⟩, by (try dsimp only); omega⟩
    rw [← hf]
    simp
  · have h3 : (u'.length : Int) = (v'.length : Int) := by simpa using h3
    have e3 : w64 (m - (u'.length : Int)) = p'.length := by rw [w64_eq _ (by omega)]; omega
    rw [e3]
    refine sswap_mono ?_ (sswap_ok _ _ _ _ cmp p' u' [] v' q' (by simp) rfl (by simp; omega) rfl (by omega) (by omega))
    rintro _ rfl _
    exact ⟨by simp; omega, by rw [← hf]; simp⟩
theorem half_eq (x : Int) (h : 0 ≤ x ∧ x ≤ 1000000000) : w64 (bShr .u64 (wu64 (w64 x)) 1) = x / 2 := by
  have e1 : wu64 (w64 x) = x := by rw [w64_eq x (by omega)]; exact IntWalk.u64_in x (by omega)
  have e2 : bShr .u64 x 1 = x / 2 := by
    unfold bShr
    rw [Int.fdiv_eq_ediv_of_nonneg _ (by decide)]
    rfl
  rw [e1, e2, w64_eq _ (by omega)]
theorem Srt.take_le {key : Job → Int} {x : List Job} (h : Srt key x) {i : Nat} {d : Job} (hd : x[i]? = some d) : ∀ e ∈ x.take (i + 1), key e ≤ key d := by
  intro e he
  obtain ⟨j, hj⟩ := List.getElem?_of_mem he
  rw [List.getElem?_take] at hj
  split at hj
  · exact h.at_ (by omega) hj hd
  · cases hj
theorem Srt.drop_ge {key : Job → Int} {x : List Job} (h : Srt key x) {i : Nat} {d : Job} (hd : x[i]? = some d) : ∀ e ∈ x.drop i, key d ≤ key e := by
  intro e he
  obtain ⟨j, hj⟩ := List.getElem?_of_mem he
  rw [List.getElem?_drop] at hj
  exact h.at_ (by omega) hd hj
theorem Srt.take {key : Job → Int} {x : List Job} (h : Srt key x) (n : Nat) : Srt key (x.take n) := h.sublist (List.take_sublist _ _)
theorem Srt.drop {key : Job → Int} {x : List Job} (h : Srt key x) (n : Nat) : Srt key (x.drop n) := h.sublist (List.drop_sublist _ _)
theorem take_drop_cons {x : List Job} {k : Nat} {c : Job} (h : x[k]? = some c) : x.drop k = c :: x.drop (k + 1) ∧ x.take (k + 1) = x.take k ++ [c] := by
  have hk := (List.getElem?_eq_some_iff.1 h).1
  refine ⟨?_, by rw [List.take_add_one, h]; rfl⟩
  rw [List.drop_eq_getElem_cons hk]
  congr 1
  rw [List.getElem?_eq_getElem hk] at h
  exact Option.some.inj h
theorem and_dec {a b c d : Int} : (decide (a < b) && decide (c < d)) = true ↔ a < b ∧ c < d := by simp
theorem and_decF {a b c d : Int} : (decide (a < b) && decide (c < d)) = false ↔ ¬ (a < b ∧ c < d) := by simp
theorem ssym_right (l z : List Job) (a m b mi en : Int) (cmp : Job → Job → Int) (key : Job → Int) (p s1 u v q : List Job) (ha : a = p.length) (hmi : mi = a + s1.length) (hen : en = mi + u.length) (hb : b = en + v.length) (hz : z = p ++ (s1 ++ (u ++ (v ++ q)))) (h0 : 0 < s1.length) (hlen : z.length = l.length) (hlim : l.length ≤ 10000000)
    (hk : Keyed cmp key (u ++ v)) (hu : Srt key u) (hv : Srt key v) (hend : p ++ (s1 ++ (sortC cmp (u ++ v) ++ q)) = segC2 l a m b cmp) :
    ((((decide (mi < en)) && (decide (en < b))) = true → ((symMu z mi en b cmp < symMu l a m b cmp ∧ symPre z mi en b cmp) ∧ ((segC2 z mi en b cmp).length ≤ 140737488355328 → (((segC2 z mi en b cmp).length = l.length) ∧ (segC2 z mi en b cmp = segC2 l a m b cmp))))) ∧
      (((decide (mi < en)) && (decide (en < b))) = false → ((z.length = l.length) ∧ (z = segC2 l a m b cmp)))) := by
  have hzl : z.length = p.length + s1.length + u.length + v.length + q.length := by rw [hz]; simp; omega
  refine ⟨fun h => ?_, fun h => ⟨hlen, ?_⟩⟩
  · have h := and_dec.1 h
    refine ⟨⟨by unfold symMu; omega, key, p ++ s1, u, v, q, by rw [hz]; simp, by simp; omega, by omega, by omega, List.length_pos_iff.1 (by omega), List.length_pos_iff.1 (by omega), hk, hu, hv, by omega⟩, fun _ => ?_⟩
    have e : segC2 z mi en b cmp = segC2 l a m b cmp := by
      rw [← hend]
      have e1 : z = (p ++ s1) ++ ((u ++ v) ++ q) := by rw [hz]; simp
      obtain ⟨k1, k2⟩ := sortC_spec hk
      unfold segC2
      rw [e1, segC_eq (y := sortC cmp (u ++ v)) (by simp; omega) (by simp; omega) hk k1 k2]
      simp
    refine ⟨?_, e⟩
    unfold segC2
    rw [segC_len (by omega)]
    exact hlen
  · have h := and_decF.1 h
    have hs : Srt key (u ++ v) := by
      by_cases hu0 : u.length = 0
      · rw [List.eq_nil_of_length_eq_zero hu0]; exact hv
      · have : v.length = 0 := by omega
        rw [List.eq_nil_of_length_eq_zero this]; simpa using hu
    rw [← hend, sortC_sorted hk hs, hz]
    simp
theorem ssym_left (l z : List Job) (a m b s mi en : Int) (cmp : Job → Job → Int) (key : Job → Int) (p a1 b1 u v q : List Job) (ha : a = p.length) (hs : s = a + a1.length) (hmi : mi = s + b1.length) (hen : en = mi + u.length) (hb : b = en + v.length) (hz : z = p ++ (a1 ++ (b1 ++ (u ++ (v ++ q))))) (h0 : 0 < a1.length + b1.length) (h9 : 0 < u.length + v.length) (hlen : z.length = l.length) (hlim : l.length ≤ 10000000)
    (hk1 : Keyed cmp key (a1 ++ b1)) (ha1 : Srt key a1) (hb1 : Srt key b1) (hk : Keyed cmp key (u ++ v)) (hu : Srt key u) (hv : Srt key v) (hend : p ++ ((sortC cmp (a1 ++ b1) ++ sortC cmp (u ++ v)) ++ q) = segC2 l a m b cmp) :
    ((((decide (a < s)) && (decide (s < mi))) = true → ((symMu z a s mi cmp < symMu l a m b cmp ∧ symPre z a s mi cmp) ∧ ((segC2 z a s mi cmp).length ≤ 140737488355328 →
      ((((decide (mi < en)) && (decide (en < b))) = true → ((symMu (segC2 z a s mi cmp) mi en b cmp < symMu l a m b cmp ∧ symPre (segC2 z a s mi cmp) mi en b cmp) ∧ ((segC2 (segC2 z a s mi cmp) mi en b cmp).length ≤ 140737488355328 → (((segC2 (segC2 z a s mi cmp) mi en b cmp).length = l.length) ∧ (segC2 (segC2 z a s mi cmp) mi en b cmp = segC2 l a m b cmp))))) ∧
      (((decide (mi < en)) && (decide (en < b))) = false → (((segC2 z a s mi cmp).length = l.length) ∧ (segC2 z a s mi cmp = segC2 l a m b cmp))))))) ∧
     (((decide (a < s)) && (decide (s < mi))) = false →
      ((((decide (mi < en)) && (decide (en < b))) = true → ((symMu z mi en b cmp < symMu l a m b cmp ∧ symPre z mi en b cmp) ∧ ((segC2 z mi en b cmp).length ≤ 140737488355328 → (((segC2 z mi en b cmp).length = l.length) ∧ (segC2 z mi en b cmp = segC2 l a m b cmp))))) ∧
      (((decide (mi < en)) && (decide (en < b))) = false → ((z.length = l.length) ∧ (z = segC2 l a m b cmp)))))) := by
  have hzl : z.length = p.length + a1.length + b1.length + u.length + v.length + q.length := by rw [hz]; simp; omega
  have hsl : (sortC cmp (a1 ++ b1)).length = a1.length + b1.length := by rw [sortC_len]; simp
  refine ⟨fun h => ?_, fun h => ?_⟩
  · have h := and_dec.1 h
    refine ⟨⟨by unfold symMu; omega, key, p, a1, b1, u ++ (v ++ q), hz, ha, by omega, by omega, List.length_pos_iff.1 (by omega), List.length_pos_iff.1 (by omega), hk1, ha1, hb1, by omega⟩, fun _ => ?_⟩
    have e : segC2 z a s mi cmp = p ++ (sortC cmp (a1 ++ b1) ++ (u ++ (v ++ q))) := by
      have e1 : z = p ++ ((a1 ++ b1) ++ (u ++ (v ++ q))) := by rw [hz]; simp
      obtain ⟨k1, k2⟩ := sortC_spec hk1
      unfold segC2
      rw [e1, segC_eq (y := sortC cmp (a1 ++ b1)) ha (by simp; omega) hk1 k1 k2]
    exact ssym_right l _ a m b mi en cmp key p (sortC cmp (a1 ++ b1)) u v q ha (by omega) hen hb e (by omega) (by unfold segC2; rw [segC_len (by omega)]; exact hlen) hlim hk hu hv (by rw [← hend]; simp)
  · have h := and_decF.1 h
    have hs1 : Srt key (a1 ++ b1) := by
      by_cases hu0 : a1.length = 0
      · rw [List.eq_nil_of_length_eq_zero hu0]; exact hb1
      · have : b1.length = 0 := by omega
        rw [List.eq_nil_of_length_eq_zero this]; simpa using ha1
    rw [sortC_sorted hk1 hs1] at hend
    exact ssym_right l _ a m b mi en cmp key p (a1 ++ b1) u v q ha (by simp; omega) hen hb (by rw [hz]; simp) (by simp; omega) hlen hlim hk hu hv (by rw [← hend]; simp)
theorem ssym_ok (l : List Job) (a m b : Int) (cmp : Job → Job → Int) (hpre : symPre l a m b cmp) : ssym_vc l a m b cmp (fun r => r = segC2 l a m b cmp) := by
  obtain ⟨key, p, x, y, q, rfl, rfl, rfl, rfl, hx0, hy0, hk, hsx, hsy, hlim⟩ := hpre
  have hx1 : 0 < x.length := List.length_pos_iff.2 hx0
  have hy1 : 0 < y.length := List.length_pos_iff.2 hy0
  have hkc : ∀ c ∈ x ++ y, ∀ d ∈ x ++ y, (cmp c d < 0 ↔ key c < key d) := hk
  have hlen : (p ++ (x ++ (y ++ q))).length = p.length + x.length + y.length + q.length := by simp; omega
  have hat : ∀ (i : Nat), (p ++ (x ++ (y ++ q)))[p.length + i]? = (x ++ (y ++ q))[i]? := fun i => by rw [List.getElem?_append_right (by omega)]; congr 1; omega
  have hatx : ∀ (i : Nat), i < x.length → (p ++ (x ++ (y ++ q)))[p.length + i]? = x[i]? := fun i hi => by rw [hat, List.getElem?_append_left hi]
  have haty : ∀ (i : Nat), i < y.length → (p ++ (x ++ (y ++ q)))[p.length + x.length + i]? = y[i]? := fun i hi => by rw [show p.length + x.length + i = p.length + (x.length + i) by omega, hat, List.getElem?_append_right (by omega), List.getElem?_append_left (by omega)]; congr 1; omega
  have hfin : ∀ z : List Job, Srt key z → Fe key z (x ++ y) → p ++ (z ++ q) = segC2 (p ++ (x ++ (y ++ q))) (p.length : Int) ((p.length : Int) + x.length) ((p.length : Int) + x.length + y.length) cmp := fun z h1 h2 => by
    have := (segC_eq (cmp := cmp) (key := key) (p := p) (q := q) (x := x ++ y) (y := z) (a := p.length) (b := (p.length : Int) + x.length + y.length) rfl (by simp; omega) hk h1 h2)
    rw [← this]
    unfold segC2
    simp
  intro _
  rw [w64_eq ((p.length : Int) + x.length - p.length) (by omega), w64_eq ((p.length : Int) + x.length + y.length - ((p.length : Int) + x.length)) (by omega)]
  refine ⟨fun h1 => ?_, fun h1 => ⟨fun h2 => ?_, fun h2 => ?_⟩⟩
  · -- one ahead
    have h1 : x.length = 1 := by simp at h1; omega
    obtain ⟨c, rfl⟩ : ∃ c, x = [c] := List.length_eq_one_iff.1 h1
    have hL : (p ++ ([c] ++ (y ++ q))).length = p.length + 1 + y.length + q.length := hlen
    refine ⟨fun i => ∃ k : Nat, i = (p.length : Int) + 1 + k ∧ k ≤ y.length ∧ (∀ d ∈ y.take k, key d < key c) ∧ ∀ d ∈ y.drop k, key c ≤ key d, ?_, ?_⟩
    · refine ⟨fun i j => ∃ k t : Nat, i = (p.length : Int) + 1 + k ∧ j = (p.length : Int) + 1 + t ∧ k ≤ t ∧ t ≤ y.length ∧ (∀ d ∈ y.take k, key d < key c) ∧ ∀ d ∈ y.drop t, key c ≤ key d, fun i j => (j - i).toNat, ⟨0, y.length, by simp, by simp, by omega, by omega, by simp, by simp⟩, ?_⟩
      rintro _ _ ⟨k, t, rfl, rfl, hkt, hty, h3, h4⟩
      refine ⟨fun h5 => ?_, fun h5 => ⟨k, rfl, by omega, h3, ?_⟩⟩
      · have h5 := of_decide_eq_true h5
        rw [half_eq _ (by omega)]
        obtain ⟨e, he, hek, het⟩ : ∃ e : Nat, ((p.length : Int) + 1 + k + ((p.length : Int) + 1 + t)) / 2 = (p.length : Int) + 1 + e ∧ k ≤ e ∧ e < t := ⟨(((p.length : Int) + 1 + k + ((p.length : Int) + 1 + t)) / 2 - p.length - 1).toNat, by omega, by omega, by omega⟩
        rw [he]
        obtain ⟨d, hd⟩ : ∃ d, y[e]? = some d := ⟨_, List.getElem?_eq_getElem (by omega)⟩
        have hdy : d ∈ y := List.mem_of_getElem? hd
        refine ⟨by omega, fun d' hd' => ⟨by omega, fun c' hc' => ?_⟩⟩
        have e1 : ((p.length : Int) + 1 + e).toNat = p.length + [c].length + e := by simp; omega
        have e2 : ((p.length : Int)).toNat = p.length + 0 := by omega
        rw [e1, haty e (by omega), hd] at hd'
        rw [e2, hatx 0 (by simp)] at hc'
        cases hd'
        cases hc'
        have hkk := hkc d (by simp [hdy]) c (by simp)
        refine ⟨fun h6 => ?_, fun h6 => ?_⟩
        · have h6 := hkk.1 (of_decide_eq_true h6)
          rw [w64_eq _ (by omega)]
          exact ⟨⟨e + 1, t, by omega, rfl, by omega, hty, fun d' hd' => by have := hsy.take_le hd d' hd'; omega, h4⟩, by (try dsimp only); omega⟩
        · have h6 : ¬ key d < key c := by rw [← hkk]; exact of_decide_eq_false h6
          exact ⟨⟨k, e, rfl, rfl, by omega, by omega, h3, fun d' hd' => by have := hsy.drop_ge hd d' hd'; omega⟩, by (try dsimp only); omega⟩
      · have : k = t := by have := of_decide_eq_false h5; omega
        subst this
        exact h4
    · rintro _ ⟨k, rfl, hky, h3, h4⟩
      rw [w64_eq ((p.length : Int) + 1 + k - 1) (by omega)]
      refine ⟨fun i z => ∃ t : Nat, i = (p.length : Int) + t ∧ t ≤ k ∧ z = p ++ (y.take t ++ c :: (y.drop t ++ q)), fun i _ => ((p.length : Int) + k - i).toNat, ⟨0, by simp, by omega, by simp⟩, ?_⟩
      rintro _ _ ⟨t, rfl, htk, rfl⟩
      have hzl : (p ++ (y.take t ++ c :: (y.drop t ++ q))).length = (p ++ ([c] ++ (y ++ q))).length := by simp; omega
      refine ⟨fun h5 => ?_, fun h5 => ?_⟩
      · have h5 : t < k := by have := of_decide_eq_true h5; omega
        rw [w64_eq ((p.length : Int) + t + 1) (by omega), hzl]
        obtain ⟨d, hd⟩ : ∃ d, y[t]? = some d := ⟨_, List.getElem?_eq_getElem (by omega)⟩
        obtain ⟨e1, e2⟩ := take_drop_cons hd
        have ez : p ++ (y.take t ++ c :: (y.drop t ++ q)) = (p ++ y.take t) ++ c :: ([] ++ d :: (y.drop (t + 1) ++ q)) := by rw [e1]; simp
        obtain ⟨g1, g2, g3, _⟩ := swap2 (p ++ y.take t) [] (y.drop (t + 1) ++ q) c d (i := ((p.length : Int) + t).toNat) (j := ((p.length : Int) + t + 1).toNat) (by simp; omega) (by simp; omega)
        rw [ez]
        refine ⟨by omega, fun d' hd' => ⟨by omega, fun c' hc' => ⟨by omega, by omega, ?_⟩⟩⟩
        rw [g2] at hd'
        rw [g1] at hc'
        cases hd'
        cases hc'
        rw [g3]
        exact ⟨⟨t + 1, by omega, by omega, by rw [e2]; simp⟩, by (try dsimp only); omega⟩
      · have h5 : t = k := by have := of_decide_eq_false h5; omega
        subst h5
        refine ⟨hzl, ?_⟩
        have := hfin (y.take t ++ c :: y.drop t) ((hsy.take t).app (List.pairwise_cons.2 ⟨h4, hsy.drop t⟩) fun d hd e he => by
          have := h3 d hd
          rcases List.mem_cons.1 he with rfl | he
          · omega
          · have := h4 e he; omega) (by
          have h6 : Fe key (y.take t ++ [c]) ([c] ++ y.take t) := Fe.swap fun d hd e he => by
            have : e = c := by simpa using he
            subst this
            have := h3 d hd
            omega
          have := h6.app (Fe.refl (y.drop t))
          simpa using this)
        rw [← this]
        simp
  · -- one behind
    have h2 : y.length = 1 := by simp at h2; omega
    obtain ⟨c, rfl⟩ : ∃ c, y = [c] := List.length_eq_one_iff.1 h2
    have hL : (p ++ (x ++ ([c] ++ q))).length = p.length + x.length + 1 + q.length := hlen
    refine ⟨fun i => ∃ k : Nat, i = (p.length : Int) + k ∧ k ≤ x.length ∧ (∀ d ∈ x.take k, key d ≤ key c) ∧ ∀ d ∈ x.drop k, key c < key d, ?_, ?_⟩
    · refine ⟨fun i j => ∃ k t : Nat, i = (p.length : Int) + k ∧ j = (p.length : Int) + t ∧ k ≤ t ∧ t ≤ x.length ∧ (∀ d ∈ x.take k, key d ≤ key c) ∧ ∀ d ∈ x.drop t, key c < key d, fun i j => (j - i).toNat, ⟨0, x.length, by simp, by simp, by omega, by omega, by simp, by simp⟩, ?_⟩
      rintro _ _ ⟨k, t, rfl, rfl, hkt, hty, h3, h4⟩
      refine ⟨fun h5 => ?_, fun h5 => ⟨k, rfl, by omega, h3, ?_⟩⟩
      · have h5 := of_decide_eq_true h5
        rw [half_eq _ (by omega)]
        obtain ⟨e, he, hek, het⟩ : ∃ e : Nat, ((p.length : Int) + k + ((p.length : Int) + t)) / 2 = (p.length : Int) + e ∧ k ≤ e ∧ e < t := ⟨(((p.length : Int) + k + ((p.length : Int) + t)) / 2 - p.length).toNat, by omega, by omega, by omega⟩
        rw [he]
        obtain ⟨d, hd⟩ : ∃ d, x[e]? = some d := ⟨_, List.getElem?_eq_getElem (by omega)⟩
        have hdx : d ∈ x := List.mem_of_getElem? hd
        refine ⟨by omega, fun c' hc' => ⟨by omega, fun d' hd' => ?_⟩⟩
        have e1 : ((p.length : Int) + e).toNat = p.length + e := by omega
        have e2 : ((p.length : Int) + x.length).toNat = p.length + x.length + 0 := by omega
        rw [e1, hatx e (by omega), hd] at hd'
        rw [e2, haty 0 (by simp)] at hc'
        cases hd'
        cases hc'
        have hkk := hkc c (by simp) d (by simp [hdx])
        refine ⟨fun h6 => ?_, fun h6 => ?_⟩
        · have h6 : ¬ key c < key d := by rw [← hkk]; simpa using h6
          rw [w64_eq _ (by omega)]
          exact ⟨⟨e + 1, t, by omega, rfl, by omega, hty, fun d' hd' => by have := hsx.take_le hd d' hd'; omega, h4⟩, by (try dsimp only); omega⟩
        · have h6 : key c < key d := by rw [← hkk]; simpa using h6
          exact ⟨⟨k, e, rfl, rfl, by omega, by omega, h3, fun d' hd' => by have := hsx.drop_ge hd d' hd'; omega⟩, by (try dsimp only); omega⟩
      · have : k = t := by have := of_decide_eq_false h5; omega
        subst this
        exact h4
    · rintro _ ⟨k, rfl, hky, h3, h4⟩
      refine ⟨fun i z => ∃ t : Nat, i = (p.length : Int) + t ∧ k ≤ t ∧ t ≤ x.length ∧ z = p ++ (x.take t ++ c :: (x.drop t ++ q)), fun i _ => (i - ((p.length : Int) + k)).toNat, ⟨x.length, rfl, by omega, by omega, by simp⟩, ?_⟩
      rintro _ _ ⟨t, rfl, htk, htx, rfl⟩
      have hzl : (p ++ (x.take t ++ c :: (x.drop t ++ q))).length = (p ++ (x ++ ([c] ++ q))).length := by simp; omega
      refine ⟨fun h5 => ?_, fun h5 => ?_⟩
      · have h5 : k < t := by have := of_decide_eq_true h5; omega
        rw [w64_eq ((p.length : Int) + t - 1) (by omega), hzl]
        obtain ⟨s, rfl⟩ : ∃ s, t = s + 1 := ⟨t - 1, by omega⟩
        obtain ⟨d, hd⟩ : ∃ d, x[s]? = some d := ⟨_, List.getElem?_eq_getElem (by omega)⟩
        obtain ⟨e1, e2⟩ := take_drop_cons hd
        have ez : p ++ (x.take (s + 1) ++ c :: (x.drop (s + 1) ++ q)) = (p ++ x.take s) ++ d :: ([] ++ c :: (x.drop (s + 1) ++ q)) := by rw [e2]; simp
        obtain ⟨g1, g2, _, g4⟩ := swap2 (p ++ x.take s) [] (x.drop (s + 1) ++ q) d c (i := ((p.length : Int) + ((s + 1 : Nat) : Int) - 1).toNat) (j := ((p.length : Int) + ((s + 1 : Nat) : Int)).toNat) (by simp; omega) (by simp; omega)
        rw [ez]
        refine ⟨by omega, fun d' hd' => ⟨by omega, fun c' hc' => ⟨by omega, by omega, ?_⟩⟩⟩
        rw [g1] at hd'
        rw [g2] at hc'
        cases hd'
        cases hc'
        rw [g4]
        exact ⟨⟨s, by omega, by omega, by omega, by rw [e1]; simp⟩, by (try dsimp only); omega⟩
      · have h5 : t = k := by have := of_decide_eq_false h5; omega
        subst h5
        refine ⟨hzl, ?_⟩
        have := hfin (x.take t ++ c :: x.drop t) ((hsx.take t).app (List.pairwise_cons.2 ⟨fun d hd => by have := h4 d hd; omega, hsx.drop t⟩) fun d hd e he => by
          have := h3 d hd
          rcases List.mem_cons.1 he with rfl | he
          · omega
          · have := h4 e he; omega) (by
          have h6 : Fe key ([c] ++ x.drop t) (x.drop t ++ [c]) := Fe.swap fun e he d hd => by
            have : e = c := by simpa using he
            subst this
            have := h4 d hd
            omega
          have := (Fe.refl (x.take t)).app h6
          rw [← List.append_assoc, ← List.append_assoc, List.take_append_drop] at this
          simpa using this)
        rw [← this]
        simp
  · -- both longer
    have h1 : x.length ≠ 1 := by
      intro e
      have : ((p.length : Int) + x.length - p.length) = 1 := by omega
      rw [this] at h1
      cases h1
    obtain ⟨g, hg⟩ : ∃ g : Nat, ((p.length : Int) + ((p.length : Int) + x.length + y.length)) / 2 = (p.length : Int) + g := ⟨(x.length + y.length) / 2, by omega⟩
    have hg2 : 2 * g ≤ x.length + y.length ∧ x.length + y.length ≤ 2 * g + 1 := by omega
    rw [half_eq ((p.length : Int) + ((p.length : Int) + x.length + y.length)) (by omega), hg, w64_eq ((p.length : Int) + g + ((p.length : Int) + x.length)) (by omega), w64_eq ((p.length : Int) + g + ((p.length : Int) + x.length) - ((p.length : Int) + x.length + y.length)) (by omega), w64_eq ((p.length : Int) + g + ((p.length : Int) + x.length) - 1) (by omega)]
    refine ⟨fun h3 => ⟨fun i => ∃ s : Nat, i = (p.length : Int) + s ∧ s ≤ x.length ∧ s ≤ g ∧ g - s ≤ y.length ∧ (∀ d ∈ x.take s, ∀ e ∈ y.drop (g - s), key d ≤ key e) ∧ ∀ e ∈ y.take (g - s), ∀ d ∈ x.drop s, key e < key d, ⟨fun i j => ∃ s r : Nat, i = (p.length : Int) + s ∧ j = (p.length : Int) + r ∧ s ≤ r ∧ r ≤ x.length ∧ r ≤ g ∧ g - s ≤ y.length ∧ (∀ d ∈ x.take s, ∀ e ∈ y.drop (g - s), key d ≤ key e) ∧ ∀ e ∈ y.take (g - r), ∀ d ∈ x.drop r, key e < key d, fun i j => (j - i).toNat, ?i1, ?st1⟩, ?tl1⟩,
      fun h3 => ⟨fun i => ∃ s : Nat, i = (p.length : Int) + s ∧ s ≤ x.length ∧ s ≤ g ∧ g - s ≤ y.length ∧ (∀ d ∈ x.take s, ∀ e ∈ y.drop (g - s), key d ≤ key e) ∧ ∀ e ∈ y.take (g - s), ∀ d ∈ x.drop s, key e < key d, ⟨fun i j => ∃ s r : Nat, i = (p.length : Int) + s ∧ j = (p.length : Int) + r ∧ s ≤ r ∧ r ≤ x.length ∧ r ≤ g ∧ g - s ≤ y.length ∧ (∀ d ∈ x.take s, ∀ e ∈ y.drop (g - s), key d ≤ key e) ∧ ∀ e ∈ y.take (g - r), ∀ d ∈ x.drop r, key e < key d, fun i j => (j - i).toNat, ?i2, ?st2⟩, ?tl2⟩⟩
    case i1 =>
      have h3 := of_decide_eq_true h3
      have h4 : y.drop (g - (g - y.length)) = [] := List.drop_of_length_le (by omega)
      have h5 : y.take (g - g) = [] := by rw [Nat.sub_self]; rfl
      exact ⟨g - y.length, g, by omega, rfl, by omega, by omega, by omega, by omega, (fun d _ e he => by rw [h4] at he; cases he), (fun e he => by rw [h5] at he; cases he)⟩
    case i2 =>
      have h3 := of_decide_eq_false h3
      have h5 : x.drop x.length = [] := List.drop_of_length_le (by omega)
      exact ⟨0, x.length, by simp, rfl, by omega, by omega, by omega, by omega, (fun d hd => by simp at hd), (fun e he d hd => by rw [h5] at hd; cases hd)⟩
    case st1 | st2 =>
      rintro _ _ ⟨s, r, rfl, rfl, hsr, hrx, hrg, hgs, hp1, hp2⟩
      refine ⟨fun h5 => ?_, fun h5 => ?_⟩
      · have h5 := of_decide_eq_true h5
        rw [half_eq _ (by omega)]
        obtain ⟨t, ht, hst, htr⟩ : ∃ t : Nat, ((p.length : Int) + s + ((p.length : Int) + r)) / 2 = (p.length : Int) + t ∧ s ≤ t ∧ t < r := ⟨(s + r) / 2, by omega, by omega, by omega⟩
        rw [ht, w64_eq ((p.length : Int) + g + ((p.length : Int) + x.length) - 1 - ((p.length : Int) + t)) (by omega)]
        obtain ⟨d, hd⟩ : ∃ d, x[t]? = some d := ⟨_, List.getElem?_eq_getElem (by omega)⟩
        obtain ⟨e, he⟩ : ∃ e, y[g - 1 - t]? = some e := ⟨_, List.getElem?_eq_getElem (by omega)⟩
        have hdx : d ∈ x := List.mem_of_getElem? hd
        have hey : e ∈ y := List.mem_of_getElem? he
        refine ⟨by omega, fun e' he' => ⟨by omega, fun d' hd' => ?_⟩⟩
        have e1 : ((p.length : Int) + g + ((p.length : Int) + x.length) - 1 - ((p.length : Int) + t)).toNat = p.length + x.length + (g - 1 - t) := by omega
        have e2 : ((p.length : Int) + t).toNat = p.length + t := by omega
        rw [e1, haty _ (by omega), he] at he'
        rw [e2, hatx _ (by omega), hd] at hd'
        cases hd'
        cases he'
        have hkk := hkc e (by simp [hey]) d (by simp [hdx])
        refine ⟨fun h6 => ?_, fun h6 => ?_⟩
        · have h6 : ¬ key e < key d := by rw [← hkk]; simpa using h6
          rw [w64_eq ((p.length : Int) + t + 1) (by omega)]
          refine ⟨⟨t + 1, r, by omega, rfl, by omega, hrx, hrg, by omega, fun d' hd' e' he' => ?_, hp2⟩, by (try dsimp only); omega⟩
          have k1 := hsx.take_le hd d' hd'
          rw [show g - (t + 1) = g - 1 - t by omega] at he'
          have k2 := hsy.drop_ge he e' he'
          omega
        · have h6 : key e < key d := by rw [← hkk]; simpa using h6
          refine ⟨⟨s, t, rfl, rfl, by omega, by omega, by omega, hgs, hp1, fun e' he' d' hd' => ?_⟩, by (try dsimp only); omega⟩
          have k1 := hsx.drop_ge hd d' hd'
          rw [show g - t = g - 1 - t + 1 by omega] at he'
          have k2 := hsy.take_le he e' he'
          omega
      · have : s = r := by have := of_decide_eq_false h5; omega
        subst this
        exact ⟨s, rfl, hrx, hrg, hgs, hp1, hp2⟩
    case tl1 | tl2 =>
      rintro _ ⟨s, rfl, hsx1, hsg, hgs, hp1, hp2⟩
      have hen : w64 ((p.length : Int) + g + ((p.length : Int) + x.length) - ((p.length : Int) + s)) = (p.length : Int) + x.length + ((g - s : Nat) : Int) := by rw [w64_eq _ (by omega)]; omega
      rw [hen]
      have ex : x = x.take s ++ x.drop s := (List.take_append_drop _ _).symm
      have ey : y = y.take (g - s) ++ y.drop (g - s) := (List.take_append_drop _ _).symm
      have l1 : (x.take s).length = s := by simp; omega
      have l2 : (x.drop s).length = x.length - s := by simp
      have l3 : (y.take (g - s)).length = g - s := by simp; omega
      have l4 : (y.drop (g - s)).length = y.length - (g - s) := by simp
      have hend : p ++ ((sortC cmp (x.take s ++ y.take (g - s)) ++ sortC cmp (x.drop s ++ y.drop (g - s))) ++ q) = segC2 (p ++ (x ++ (y ++ q))) (p.length : Int) ((p.length : Int) + x.length) ((p.length : Int) + x.length + y.length) cmp := by
        have m1 : ∀ c ∈ x.take s ++ y.take (g - s), c ∈ x ++ y := fun c hc => by
          rcases List.mem_append.1 hc with h | h
          · exact List.mem_append.2 (.inl (List.mem_of_mem_take h))
          · exact List.mem_append.2 (.inr (List.mem_of_mem_take h))
        have m2 : ∀ c ∈ x.drop s ++ y.drop (g - s), c ∈ x ++ y := fun c hc => by
          rcases List.mem_append.1 hc with h | h
          · exact List.mem_append.2 (.inl (List.mem_of_mem_drop h))
          · exact List.mem_append.2 (.inr (List.mem_of_mem_drop h))
        obtain ⟨k1, k2⟩ := sortC_spec (hk.sub m1)
        obtain ⟨k3, k4⟩ := sortC_spec (hk.sub m2)
        refine hfin _ (k1.app k3 fun c hc d hd => ?_) ((k2.app k4).trans ?_)
        · have hc := (k2.mem c).1 hc
          have hd := (k4.mem d).1 hd
          rcases List.mem_append.1 hc with h | h <;> rcases List.mem_append.1 hd with h' | h'
          · rw [ex] at hsx; exact hsx.rel c h d h'
          · exact hp1 c h d h'
          · have := hp2 c h d h'; omega
          · rw [ey] at hsy; exact hsy.rel c h d h'
        · have h7 : Fe key (y.take (g - s) ++ x.drop s) (x.drop s ++ y.take (g - s)) := Fe.swap fun c hc d hd => by have := hp2 c hc d hd; omega
          have h8 := (Fe.refl (x.take s)).app (h7.app (Fe.refl (y.drop (g - s))))
          have e3 : x.take s ++ (x.drop s ++ y.take (g - s) ++ y.drop (g - s)) = x ++ y := by rw [List.append_assoc, ← ey, ← List.append_assoc, ← ex]
          rw [e3] at h8
          simpa using h8
      have kk1 : Keyed cmp key (x.take s ++ y.take (g - s)) := hk.sub fun c hc => by
        rcases List.mem_append.1 hc with h | h
        · exact List.mem_append.2 (.inl (List.mem_of_mem_take h))
        · exact List.mem_append.2 (.inr (List.mem_of_mem_take h))
      have kk2 : Keyed cmp key (x.drop s ++ y.drop (g - s)) := hk.sub fun c hc => by
        rcases List.mem_append.1 hc with h | h
        · exact List.mem_append.2 (.inl (List.mem_of_mem_drop h))
        · exact List.mem_append.2 (.inr (List.mem_of_mem_drop h))
      have left : ∀ z, z = p ++ (x.take s ++ (y.take (g - s) ++ (x.drop s ++ (y.drop (g - s) ++ q)))) → _ := fun z hz => ssym_left (p ++ (x ++ (y ++ q))) z (p.length : Int) ((p.length : Int) + x.length) ((p.length : Int) + x.length + y.length) ((p.length : Int) + s) ((p.length : Int) + g) ((p.length : Int) + x.length + ((g - s : Nat) : Int)) cmp key p (x.take s) (y.take (g - s)) (x.drop s) (y.drop (g - s)) q rfl (by omega) (by omega) (by omega) (by omega) hz (by omega) (by omega) (by rw [hz, hlen]; simp; omega) hlim kk1 (hsx.take s) (hsy.take _) kk2 (hsx.drop s) (hsy.drop _) hend
      refine ⟨fun h5 => ?_, fun h5 => ?_⟩
      · have h5 := and_dec.1 h5
        refine srot_mono ?_ (srot_ok _ _ _ _ cmp (p ++ x.take s) (x.drop s) (y.take (g - s)) (y.drop (g - s) ++ q) ?_ (by simp; omega) (by omega) (by omega) (List.length_pos_iff.1 (by omega)) (List.length_pos_iff.1 (by omega)) (by omega))
        · intro z hz _
          exact left z (by rw [hz]; simp)
        · conv => lhs; rw [ex, ey]
          simp only [List.append_assoc]
      · have h5 := and_decF.1 h5
        refine left _ ?_
        by_cases h6 : x.length ≤ s
        · have e1 : x.drop s = [] := List.drop_of_length_le h6
          have e2 : x.take s = x := List.take_of_length_le h6
          rw [e1, e2]
          conv => lhs; rw [ey]
          simp only [List.append_assoc, List.nil_append]
        · have h7 : g - s = 0 := by omega
          rw [h7]
          conv => lhs; rw [ex]
          simp only [List.append_assoc, List.take_zero, List.drop_zero, List.nil_append]
def sinsS (l : List Job) (a b : Int) (cmp : Job → Job → Int) : List Job := segC cmp l a b
def sinsPre (l : List Job) (a b : Int) (cmp : Job → Job → Int) : Prop := ∃ (key : Job → Int) (p x q : List Job), l = p ++ (x ++ q) ∧ a = p.length ∧ b = p.length + x.length ∧ Keyed cmp key x ∧ l.length ≤ 10000000
theorem sins_ok2 (l : List Job) (a b : Int) (cmp : Job → Job → Int) (h : sinsPre l a b cmp) : sins_vc l a b cmp (fun r => r = sinsS l a b cmp) := by
  obtain ⟨key, p, x, q, hl, ha, hb, hk, hs⟩ := h
  refine sins_mono ?_ (sins_ok l a b cmp key p x q hl ha hb hk hs)
  rintro _ rfl
  obtain ⟨k1, k2⟩ := sortC_spec hk
  unfold sinsS
  rw [hl, segC_eq (y := sortC cmp x) ha (by omega) hk k1 k2]

end Go.Proofs.Ytginlmgkimfjmaa
