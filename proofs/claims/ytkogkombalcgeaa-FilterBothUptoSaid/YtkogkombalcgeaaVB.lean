/- What must hold so that each function ends well: pure predicates, made by program. -/
import Derived.Test.YtkogkombalcgeaaPA
set_option linter.unusedVariables false
set_option linter.unusedSimpArgs false
namespace Go.Proofs.Ytkogkombalcgeaa
open Go.Sy Go.RowKit
def fcheckfr_vc (u0 : Frame) (K : Int → Prop) : Prop :=
  (u0.Data.length ≤ 140737488355328 →
    (((((decide (u0.ID < 0)) || ((!u0.Long) && (decide (u0.ID > 2047)))) || (decide (u0.ID > 536870911))) = true →
      (K 3)) ∧
    ((((decide (u0.ID < 0)) || ((!u0.Long) && (decide (u0.ID > 2047)))) || (decide (u0.ID > 536870911))) = false →
      (((u0.Remote && (u0.Fast || (decide ((u0.Data.length : Int) > 0)))) = true →
        (K 4)) ∧
      ((u0.Remote && (u0.Fast || (decide ((u0.Data.length : Int) > 0)))) = false →
        (((((decide (u0.Size < 0)) || (decide (u0.Size > 8))) || ((!u0.Remote) && (u0.Size != 0))) = true →
          (K 3)) ∧
        ((((decide (u0.Size < 0)) || (decide (u0.Size > 8))) || ((!u0.Remote) && (u0.Size != 0))) = false →
          ((((decide ((u0.Data.length : Int) > 64)) || ((!u0.Fast) && (decide ((u0.Data.length : Int) > 8)))) = true →
            (K 2)) ∧
          (((decide ((u0.Data.length : Int) > 64)) || ((!u0.Fast) && (decide ((u0.Data.length : Int) > 8)))) = false →
            (((!(scontainsS fsizes (u0.Data.length : Int))) = true →
              (K 4)) ∧
            ((!(scontainsS fsizes (u0.Data.length : Int))) = false →
              (K 0))))))))))))
theorem fcheckfr_mono {u0 : Frame} {K K1 : Int → Prop} (hK : ∀ r, K r → K1 r) (h : fcheckfr_vc u0 K) : fcheckfr_vc u0 K1 :=
  fun z0 => ⟨fun c1 => hK _ ((h z0).1 c1), fun c1 => ⟨fun c2 => hK _ (((h z0).2 c1).1 c2), fun c2 => ⟨fun c3 => hK _ ((((h z0).2 c1).2 c2).1 c3), fun c3 => ⟨fun c4 => hK _ (((((h z0).2 c1).2 c2).2 c3).1 c4), fun c4 => ⟨fun c5 => hK _ ((((((h z0).2 c1).2 c2).2 c3).2 c4).1 c5), fun c5 => hK _ ((((((h z0).2 c1).2 c2).2 c3).2 c4).2 c5)⟩⟩⟩⟩⟩
def fcheckfr (u0 : Frame) : Int :=
  bif ((decide (u0.ID < 0)) || ((!u0.Long) && (decide (u0.ID > 2047)))) || (decide (u0.ID > 536870911)) then 3
    else bif u0.Remote && (u0.Fast || (decide ((u0.Data.length : Int) > 0))) then 4
    else bif ((decide (u0.Size < 0)) || (decide (u0.Size > 8))) || ((!u0.Remote) && (u0.Size != 0)) then 3
    else bif (decide ((u0.Data.length : Int) > 64)) || ((!u0.Fast) && (decide ((u0.Data.length : Int) > 8))) then 2
    else bif !(scontainsS fsizes (u0.Data.length : Int)) then 4
    else 0
theorem fcheckfr_ok (u0 : Frame) : fcheckfr_vc u0 (fun r => r = fcheckfr u0) := (fun _ => ⟨fun h0 => (by simp only [fcheckfr, h0, cond_true, cond_false]), fun h0 => ⟨fun h1 => (by simp only [fcheckfr, h0, h1, cond_true, cond_false]), fun h1 => ⟨fun h2 => (by simp only [fcheckfr, h0, h1, h2, cond_true, cond_false]), fun h2 => ⟨fun h3 => (by simp only [fcheckfr, h0, h1, h2, h3, cond_true, cond_false]), fun h3 => ⟨fun h4 => (by simp only [fcheckfr, h0, h1, h2, h3, h4, cond_true, cond_false]), fun h4 => (by simp only [fcheckfr, h0, h1, h2, h3, h4, cond_true, cond_false])⟩⟩⟩⟩⟩)

def rcheckfr_vc (u0 : Frame) (K : Int → Prop) : Prop :=
  (u0.Data.length ≤ 140737488355328 →
    ((u0.Long = true →
      ((((decide (u0.ID < 0)) || (decide (u0.ID > 536870911))) = true →
        (K 3)) ∧
      (((decide (u0.ID < 0)) || (decide (u0.ID > 536870911))) = false →
        (((u0.Remote && (u0.Fast || ((u0.Data.length : Int) != 0))) = true →
          (K 4)) ∧
        ((u0.Remote && (u0.Fast || ((u0.Data.length : Int) != 0))) = false →
          (((((decide (u0.Size < 0)) || (decide (u0.Size > 8))) || ((decide (u0.Size > 0)) && (!u0.Remote))) = true →
            (K 3)) ∧
          ((((decide (u0.Size < 0)) || (decide (u0.Size > 8))) || ((decide (u0.Size > 0)) && (!u0.Remote))) = false →
            ((((decide ((u0.Data.length : Int) > 64)) || ((decide ((u0.Data.length : Int) > 8)) && (!u0.Fast))) = true →
              (K 2)) ∧
            (((decide ((u0.Data.length : Int) > 64)) || ((decide ((u0.Data.length : Int) > 8)) && (!u0.Fast))) = false →
              (((!(scontainsS rsizes (u0.Data.length : Int))) = true →
                (K 4)) ∧
              ((!(scontainsS rsizes (u0.Data.length : Int))) = false →
                (K 0)))))))))))) ∧
    (u0.Long = false →
      ((((decide (u0.ID < 0)) || (decide (u0.ID > 2047))) = true →
        (K 3)) ∧
      (((decide (u0.ID < 0)) || (decide (u0.ID > 2047))) = false →
        (((u0.Remote && (u0.Fast || ((u0.Data.length : Int) != 0))) = true →
          (K 4)) ∧
        ((u0.Remote && (u0.Fast || ((u0.Data.length : Int) != 0))) = false →
          (((((decide (u0.Size < 0)) || (decide (u0.Size > 8))) || ((decide (u0.Size > 0)) && (!u0.Remote))) = true →
            (K 3)) ∧
          ((((decide (u0.Size < 0)) || (decide (u0.Size > 8))) || ((decide (u0.Size > 0)) && (!u0.Remote))) = false →
            ((((decide ((u0.Data.length : Int) > 64)) || ((decide ((u0.Data.length : Int) > 8)) && (!u0.Fast))) = true →
              (K 2)) ∧
            (((decide ((u0.Data.length : Int) > 64)) || ((decide ((u0.Data.length : Int) > 8)) && (!u0.Fast))) = false →
              (((!(scontainsS rsizes (u0.Data.length : Int))) = true →
                (K 4)) ∧
              ((!(scontainsS rsizes (u0.Data.length : Int))) = false →
                (K 0))))))))))))))
theorem rcheckfr_mono {u0 : Frame} {K K1 : Int → Prop} (hK : ∀ r, K r → K1 r) (h : rcheckfr_vc u0 K) : rcheckfr_vc u0 K1 :=
  fun z0 => ⟨fun c1 => ⟨fun c2 => hK _ (((h z0).1 c1).1 c2), fun c2 => ⟨fun c3 => hK _ ((((h z0).1 c1).2 c2).1 c3), fun c3 => ⟨fun c4 => hK _ (((((h z0).1 c1).2 c2).2 c3).1 c4), fun c4 => ⟨fun c5 => hK _ ((((((h z0).1 c1).2 c2).2 c3).2 c4).1 c5), fun c5 => ⟨fun c6 => hK _ (((((((h z0).1 c1).2 c2).2 c3).2 c4).2 c5).1 c6), fun c6 => hK _ (((((((h z0).1 c1).2 c2).2 c3).2 c4).2 c5).2 c6)⟩⟩⟩⟩⟩, fun c1 => ⟨fun c2 => hK _ (((h z0).2 c1).1 c2), fun c2 => ⟨fun c3 => hK _ ((((h z0).2 c1).2 c2).1 c3), fun c3 => ⟨fun c4 => hK _ (((((h z0).2 c1).2 c2).2 c3).1 c4), fun c4 => ⟨fun c5 => hK _ ((((((h z0).2 c1).2 c2).2 c3).2 c4).1 c5), fun c5 => ⟨fun c6 => hK _ (((((((h z0).2 c1).2 c2).2 c3).2 c4).2 c5).1 c6), fun c6 => hK _ (((((((h z0).2 c1).2 c2).2 c3).2 c4).2 c5).2 c6)⟩⟩⟩⟩⟩⟩
def rcheckfr (u0 : Frame) : Int :=
  bif u0.Long then (bif (decide (u0.ID < 0)) || (decide (u0.ID > 536870911)) then 3
      else bif u0.Remote && (u0.Fast || ((u0.Data.length : Int) != 0)) then 4
      else bif ((decide (u0.Size < 0)) || (decide (u0.Size > 8))) || ((decide (u0.Size > 0)) && (!u0.Remote)) then 3
      else bif (decide ((u0.Data.length : Int) > 64)) || ((decide ((u0.Data.length : Int) > 8)) && (!u0.Fast)) then 2
      else bif !(scontainsS rsizes (u0.Data.length : Int)) then 4
      else 0)
    else bif (decide (u0.ID < 0)) || (decide (u0.ID > 2047)) then 3
    else bif u0.Remote && (u0.Fast || ((u0.Data.length : Int) != 0)) then 4
    else bif ((decide (u0.Size < 0)) || (decide (u0.Size > 8))) || ((decide (u0.Size > 0)) && (!u0.Remote)) then 3
    else bif (decide ((u0.Data.length : Int) > 64)) || ((decide ((u0.Data.length : Int) > 8)) && (!u0.Fast)) then 2
    else bif !(scontainsS rsizes (u0.Data.length : Int)) then 4
    else 0
theorem rcheckfr_ok (u0 : Frame) : rcheckfr_vc u0 (fun r => r = rcheckfr u0) := (fun _ => ⟨fun h0 => ⟨fun h1 => (by simp only [rcheckfr, h0, h1, cond_true, cond_false]), fun h1 => ⟨fun h2 => (by simp only [rcheckfr, h0, h1, h2, cond_true, cond_false]), fun h2 => ⟨fun h3 => (by simp only [rcheckfr, h0, h1, h2, h3, cond_true, cond_false]), fun h3 => ⟨fun h4 => (by simp only [rcheckfr, h0, h1, h2, h3, h4, cond_true, cond_false]), fun h4 => ⟨fun h5 => (by simp only [rcheckfr, h0, h1, h2, h3, h4, h5, cond_true, cond_false]), fun h5 => (by simp only [rcheckfr, h0, h1, h2, h3, h4, h5, cond_true, cond_false])⟩⟩⟩⟩⟩, fun h0 => ⟨fun h1 => (by simp only [rcheckfr, h0, h1, cond_true, cond_false]), fun h1 => ⟨fun h2 => (by simp only [rcheckfr, h0, h1, h2, cond_true, cond_false]), fun h2 => ⟨fun h3 => (by simp only [rcheckfr, h0, h1, h2, h3, cond_true, cond_false]), fun h3 => ⟨fun h4 => (by simp only [rcheckfr, h0, h1, h2, h3, h4, cond_true, cond_false]), fun h4 => ⟨fun h5 => (by simp only [rcheckfr, h0, h1, h2, h3, h4, h5, cond_true, cond_false]), fun h5 => (by simp only [rcheckfr, h0, h1, h2, h3, h4, h5, cond_true, cond_false])⟩⟩⟩⟩⟩⟩)

def lets_vc (u0 : List Filter) (u1 : Frame) (K : Bool → Prop) : Prop :=
  (u0.length ≤ 140737488355328 →
    (u1.Data.length ≤ 140737488355328 →
    (K (fcontfS u0 (fun x0 => lets1 x0 u1)))))
theorem lets_mono {u0 : List Filter} {u1 : Frame} {K K1 : Bool → Prop} (hK : ∀ r, K r → K1 r) (h : lets_vc u0 u1 K) : lets_vc u0 u1 K1 :=
  fun z0 => fun z1 => hK _ ((h z0) z1)
def lets (u0 : List Filter) (u1 : Frame) : Bool :=
  (fcontfS u0 (fun x0 => lets1 x0 u1))
theorem lets_ok (u0 : List Filter) (u1 : Frame) : lets_vc u0 u1 (fun r => r = lets u0 u1) := (fun _ => (fun _ => (by rfl)))

def filterin_vc (u0 : List Filter) (u1 : Frame) (K : ((List Int) × Int) → Prop) : Prop :=
  (u0.length ≤ 140737488355328 →
    (u1.Data.length ≤ 140737488355328 →
    ((((fcheckS u0) != 0) = true →
      (K (([] : List Int), (fcheckS u0)))) ∧
    (((fcheckS u0) != 0) = false →
      ((((fcheckfr u1) != 0) = true →
        (K (([] : List Int), (fcheckfr u1)))) ∧
      (((fcheckfr u1) != 0) = false →
        (∃ inv81 : (List Int) → Int → Prop, ∃ mu81 : (List Int) → Int → Nat, inv81 ([] : List Int) 0 ∧
        (∀ (x8 : List Int) (x22 : Int), inv81 x8 x22 →
        (((decide (x22 < (u0.length : Int))) = true →
          ((0 ≤ x22 ∧ x22 ≤ (w64 (x22 + 1)) ∧ (w64 (x22 + 1)) ≤ (u0.length : Int)) ∧
          (((lets ((u0.take (w64 (x22 + 1)).toNat).drop x22.toNat) u1) = true →
            (((x8.length + 1) * 8 ≤ 140737488355328) ∧
            (inv81 (x8 ++ [x22]) (w64 (x22 + 1)) ∧ mu81 (x8 ++ [x22]) (w64 (x22 + 1)) < mu81 x8 x22))) ∧
          ((lets ((u0.take (w64 (x22 + 1)).toNat).drop x22.toNat) u1) = false →
            (inv81 x8 (w64 (x22 + 1)) ∧ mu81 x8 (w64 (x22 + 1)) < mu81 x8 x22))))) ∧
        ((decide (x22 < (u0.length : Int))) = false →
          (K (x8, 0))))))))))))
theorem filterin_mono {u0 : List Filter} {u1 : Frame} {K K1 : ((List Int) × Int) → Prop} (hK : ∀ r, K r → K1 r) (h : filterin_vc u0 u1 K) : filterin_vc u0 u1 K1 :=
  fun z0 => fun z1 => ⟨fun c2 => hK _ (((h z0) z1).1 c2), fun c2 => ⟨fun c3 => hK _ ((((h z0) z1).2 c2).1 c3), fun c3 => (Exists.elim ((((h z0) z1).2 c2).2 c3) fun i4 e4 => Exists.elim e4 fun m4 g4 => ⟨i4, m4, g4.1, fun x8 x22 z4 => ⟨fun c5 => ⟨((g4.2 x8 x22 z4).1 c5).1, ⟨fun c7 => ⟨((((g4.2 x8 x22 z4).1 c5).2).1 c7).1, ((((g4.2 x8 x22 z4).1 c5).2).1 c7).2⟩, fun c7 => ((((g4.2 x8 x22 z4).1 c5).2).2 c7)⟩⟩, fun c5 => hK _ ((g4.2 x8 x22 z4).2 c5)⟩⟩)⟩⟩

def fcount_vc (u0 : List Filter) (u1 : Int) (u2 : Int) (u3 : Int) (K : Int → Prop) : Prop :=
  (u0.length ≤ 140737488355328 →
    ((((u0.length : Int) == 0) = true →
      (K 0)) ∧
    (((u0.length : Int) == 0) = false →
      (∃ inv32 : Int → Int → Prop, ∃ mu32 : Int → Int → Nat, inv32 0 0 ∧
      (∀ (x9 : Int) (x24 : Int), inv32 x9 x24 →
      (((decide (x24 < (u0.length : Int))) = true →
        ((0 ≤ x24 ∧ x24 < (u0.length : Int)) ∧
        (∀ q56, u0[x24.toNat]? = some q56 →
        ((((bAndNot .i64 q56.Mask u2) == 0) = true →
          (ffree_vc (bAndNot .i64 u1 u2) fun r93 =>
          (K r93))) ∧
        (((bAndNot .i64 q56.Mask u2) == 0) = false →
          (inv32 (bOr .i64 x9 (bAndNot .i64 q56.Mask u2)) (w64 (x24 + 1)) ∧ mu32 (bOr .i64 x9 (bAndNot .i64 q56.Mask u2)) (w64 (x24 + 1)) < mu32 x9 x24)))))) ∧
      ((decide (x24 < (u0.length : Int))) = false →
        (∃ inv146 : Int → Int → Prop, ∃ mu146 : Int → Int → Nat, inv146 0 0 ∧
        (∀ (x13 : Int) (x50 : Int), inv146 x13 x50 →
        (((decide (x50 < 2)) = true →
          ((0 ≤ x50 ∧ x50 < 2) ∧
          (∃ inv183 : (List Filter) → Int → Prop, ∃ mu183 : (List Filter) → Int → Nat, inv183 ([] : List Filter) 0 ∧
          (∀ (x16 : List Filter) (x55 : Int), inv183 x16 x55 →
          (((decide (x55 < (u0.length : Int))) = true →
            ((0 ≤ x55 ∧ x55 < (u0.length : Int)) ∧
            (∀ q208, u0[x55.toNat]? = some q208 →
            ((((bAnd .i64 (bAnd .i64 (bXor .i64 q208.Want (([0, bAnd .i64 x9 (w64 (0 - x9))] : List Int).getD x50.toNat 0)) (bAnd .i64 x9 (w64 (0 - x9)))) q208.Mask) == 0) = true →
              (((x16.length + 1) * 24 ≤ 140737488355328) ∧
              (inv183 (x16 ++ [q208]) (w64 (x55 + 1)) ∧ mu183 (x16 ++ [q208]) (w64 (x55 + 1)) < mu183 x16 x55))) ∧
            (((bAnd .i64 (bAnd .i64 (bXor .i64 q208.Want (([0, bAnd .i64 x9 (w64 (0 - x9))] : List Int).getD x50.toNat 0)) (bAnd .i64 x9 (w64 (0 - x9)))) q208.Mask) == 0) = false →
              (inv183 x16 (w64 (x55 + 1)) ∧ mu183 x16 (w64 (x55 + 1)) < mu183 x16 x55)))))) ∧
          ((decide (x55 < (u0.length : Int))) = false →
            ((cmu x16 u1 (bOr .i64 u2 (bAnd .i64 x9 (w64 (0 - x9)))) (bOr .i64 u3 (([0, bAnd .i64 x9 (w64 (0 - x9))] : List Int).getD x50.toNat 0)) < cmu u0 u1 u2 u3 ∧ cpre x16 u1 (bOr .i64 u2 (bAnd .i64 x9 (w64 (0 - x9)))) (bOr .i64 u3 (([0, bAnd .i64 x9 (w64 (0 - x9))] : List Int).getD x50.toNat 0))) ∧
            (inv146 (w64 (x13 + (countS x16 u1 (bOr .i64 u2 (bAnd .i64 x9 (w64 (0 - x9)))) (bOr .i64 u3 (([0, bAnd .i64 x9 (w64 (0 - x9))] : List Int).getD x50.toNat 0))))) (w64 (x50 + 1)) ∧ mu146 (w64 (x13 + (countS x16 u1 (bOr .i64 u2 (bAnd .i64 x9 (w64 (0 - x9)))) (bOr .i64 u3 (([0, bAnd .i64 x9 (w64 (0 - x9))] : List Int).getD x50.toNat 0))))) (w64 (x50 + 1)) < mu146 x13 x50)))))))) ∧
        ((decide (x50 < 2)) = false →
          (K x13))))))))))))
theorem fcount_mono {u0 : List Filter} {u1 : Int} {u2 : Int} {u3 : Int} {K K1 : Int → Prop} (hK : ∀ r, K r → K1 r) (h : fcount_vc u0 u1 u2 u3 K) : fcount_vc u0 u1 u2 u3 K1 :=
  fun z0 => ⟨fun c1 => hK _ ((h z0).1 c1), fun c1 => (Exists.elim ((h z0).2 c1) fun i2 e2 => Exists.elim e2 fun m2 g2 => ⟨i2, m2, g2.1, fun x9 x24 z2 => ⟨fun c3 => ⟨((g2.2 x9 x24 z2).1 c3).1, fun q56 z5 => ⟨fun c6 => ffree_mono (fun r93 h7 => hK _ h7) (((((g2.2 x9 x24 z2).1 c3).2) q56 z5).1 c6), fun c6 => (((((g2.2 x9 x24 z2).1 c3).2) q56 z5).2 c6)⟩⟩, fun c3 => (Exists.elim ((g2.2 x9 x24 z2).2 c3) fun i4 e4 => Exists.elim e4 fun m4 g4 => ⟨i4, m4, g4.1, fun x13 x50 z4 => ⟨fun c5 => ⟨((g4.2 x13 x50 z4).1 c5).1, (Exists.elim (((g4.2 x13 x50 z4).1 c5).2) fun i7 e7 => Exists.elim e7 fun m7 g7 => ⟨i7, m7, g7.1, fun x16 x55 z7 => ⟨fun c8 => ⟨((g7.2 x16 x55 z7).1 c8).1, fun q208 z10 => ⟨fun c11 => ⟨(((((g7.2 x16 x55 z7).1 c8).2) q208 z10).1 c11).1, (((((g7.2 x16 x55 z7).1 c8).2) q208 z10).1 c11).2⟩, fun c11 => (((((g7.2 x16 x55 z7).1 c8).2) q208 z10).2 c11)⟩⟩, fun c8 => ⟨((g7.2 x16 x55 z7).2 c8).1, ((g7.2 x16 x55 z7).2 c8).2⟩⟩⟩)⟩, fun c5 => hK _ ((g4.2 x13 x50 z4).2 c5)⟩⟩)⟩⟩)⟩

end Go.Proofs.Ytkogkombalcgeaa
