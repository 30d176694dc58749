/- What must hold so that each function ends well: pure predicates, made by program. -/
import Derived.Test.YtkogkombalcgeaaPD
set_option linter.unusedVariables false
set_option linter.unusedSimpArgs false
namespace Go.Proofs.Ytkogkombalcgeaa
open Go.Sy Go.RowKit
def LRanges_vc (u0 : Int) (u1 : Int) (u2 : Bool) (K : Bool → Prop) : Prop :=
  (((rangesS u0 u1 u2).1).length ≤ 140737488355328 →
    ((u2 = true →
      (((((decide (u0 < 0)) || (decide (u1 > 536870911))) || (decide (u0 > u1))) = true →
        (K ((((rangesS u0 u1 u2).2) == 3) && ((((rangesS u0 u1 u2).1).length : Int) == 0)))) ∧
      ((((decide (u0 < 0)) || (decide (u1 > 536870911))) || (decide (u0 > u1))) = false →
        (∃ inv114 : Int → (List Filter) → Prop, ∃ mu114 : Int → (List Filter) → Nat, inv114 u0 ([] : List Filter) ∧
        (∀ (x0 : Int) (x10 : List Filter), inv114 x0 x10 →
        (((decide (x0 ≤ u1)) = true →
          (∃ inv141 : Int → Prop, ∃ mu141 : Int → Nat, inv141 1 ∧
          (∀ (x11 : Int), inv141 x11 →
          ((w64 (2 * x11) ≠ 0) ∧
          (((((x0.tmod (w64 (2 * x11))) == 0) && (decide ((w64 ((w64 (x0 + (w64 (2 * x11)))) - 1)) ≤ u1))) = true →
            (inv141 (w64 (x11 * 2)) ∧ mu141 (w64 (x11 * 2)) < mu141 x11)) ∧
          ((((x0.tmod (w64 (2 * x11))) == 0) && (decide ((w64 ((w64 (x0 + (w64 (2 * x11)))) - 1)) ≤ u1))) = false →
            (((x10.length + 1) * 24 ≤ 140737488355328) ∧
            (inv114 (w64 (x0 + x11)) (x10 ++ [(⟨x0, w64 (536870911 - (w64 (x11 - 1))), u2⟩ : Filter)]) ∧ mu114 (w64 (x0 + x11)) (x10 ++ [(⟨x0, w64 (536870911 - (w64 (x11 - 1))), u2⟩ : Filter)]) < mu114 x0 x10)))))))) ∧
        ((decide (x0 ≤ u1)) = false →
          (K ((((rangesS u0 u1 u2).2) == 0) && (feqS ((rangesS u0 u1 u2).1) x10)))))))))) ∧
    (u2 = false →
      (((((decide (u0 < 0)) || (decide (u1 > 2047))) || (decide (u0 > u1))) = true →
        (K ((((rangesS u0 u1 u2).2) == 3) && ((((rangesS u0 u1 u2).1).length : Int) == 0)))) ∧
      ((((decide (u0 < 0)) || (decide (u1 > 2047))) || (decide (u0 > u1))) = false →
        (∃ inv345 : Int → (List Filter) → Prop, ∃ mu345 : Int → (List Filter) → Nat, inv345 u0 ([] : List Filter) ∧
        (∀ (x0 : Int) (x10 : List Filter), inv345 x0 x10 →
        (((decide (x0 ≤ u1)) = true →
          (∃ inv372 : Int → Prop, ∃ mu372 : Int → Nat, inv372 1 ∧
          (∀ (x11 : Int), inv372 x11 →
          ((w64 (2 * x11) ≠ 0) ∧
          (((((x0.tmod (w64 (2 * x11))) == 0) && (decide ((w64 ((w64 (x0 + (w64 (2 * x11)))) - 1)) ≤ u1))) = true →
            (inv372 (w64 (x11 * 2)) ∧ mu372 (w64 (x11 * 2)) < mu372 x11)) ∧
          ((((x0.tmod (w64 (2 * x11))) == 0) && (decide ((w64 ((w64 (x0 + (w64 (2 * x11)))) - 1)) ≤ u1))) = false →
            (((x10.length + 1) * 24 ≤ 140737488355328) ∧
            (inv345 (w64 (x0 + x11)) (x10 ++ [(⟨x0, w64 (2047 - (w64 (x11 - 1))), u2⟩ : Filter)]) ∧ mu345 (w64 (x0 + x11)) (x10 ++ [(⟨x0, w64 (2047 - (w64 (x11 - 1))), u2⟩ : Filter)]) < mu345 x0 x10)))))))) ∧
        ((decide (x0 ≤ u1)) = false →
          (K ((((rangesS u0 u1 u2).2) == 0) && (feqS ((rangesS u0 u1 u2).1) x10))))))))))))
theorem LRanges_mono {u0 : Int} {u1 : Int} {u2 : Bool} {K K1 : Bool → Prop} (hK : ∀ r, K r → K1 r) (h : LRanges_vc u0 u1 u2 K) : LRanges_vc u0 u1 u2 K1 :=
  fun z0 => ⟨fun c1 => ⟨fun c2 => hK _ (((h z0).1 c1).1 c2), fun c2 => (Exists.elim (((h z0).1 c1).2 c2) fun i3 e3 => Exists.elim e3 fun m3 g3 => ⟨i3, m3, g3.1, fun x0 x10 z3 => ⟨fun c4 => (Exists.elim ((g3.2 x0 x10 z3).1 c4) fun i5 e5 => Exists.elim e5 fun m5 g5 => ⟨i5, m5, g5.1, fun x11 z5 => ⟨(g5.2 x11 z5).1, ⟨fun c7 => (((g5.2 x11 z5).2).1 c7), fun c7 => ⟨(((g5.2 x11 z5).2).2 c7).1, (((g5.2 x11 z5).2).2 c7).2⟩⟩⟩⟩), fun c4 => hK _ ((g3.2 x0 x10 z3).2 c4)⟩⟩)⟩, fun c1 => ⟨fun c2 => hK _ (((h z0).2 c1).1 c2), fun c2 => (Exists.elim (((h z0).2 c1).2 c2) fun i3 e3 => Exists.elim e3 fun m3 g3 => ⟨i3, m3, g3.1, fun x0 x10 z3 => ⟨fun c4 => (Exists.elim ((g3.2 x0 x10 z3).1 c4) fun i5 e5 => Exists.elim e5 fun m5 g5 => ⟨i5, m5, g5.1, fun x11 z5 => ⟨(g5.2 x11 z5).1, ⟨fun c7 => (((g5.2 x11 z5).2).1 c7), fun c7 => ⟨(((g5.2 x11 z5).2).2 c7).1, (((g5.2 x11 z5).2).2 c7).2⟩⟩⟩⟩), fun c4 => hK _ ((g3.2 x0 x10 z3).2 c4)⟩⟩)⟩⟩

def LLeast_vc (u0 : List Filter) (K : Bool → Prop) : Prop :=
  (u0.length ≤ 140737488355328 →
    (((fleastS u0).1).length ≤ 140737488355328 →
    ((((fcheckS u0) != 0) = true →
      (K ((((fleastS u0).2) == (fcheckS u0)) && ((((fleastS u0).1).length : Int) == 0)))) ∧
    (((fcheckS u0) != 0) = false →
      (∃ inv99 : (List Filter) → Int → Prop, ∃ mu99 : (List Filter) → Int → Nat, inv99 ([] : List Filter) 0 ∧
      (∀ (x6 : List Filter) (x38 : Int), inv99 x6 x38 →
      (((decide (x38 < (u0.length : Int))) = true →
        ((0 ≤ x38 ∧ x38 < (u0.length : Int)) ∧
        (∀ q126, u0[x38.toNat]? = some q126 →
        (∃ inv156 : Bool → Int → Prop, ∃ mu156 : Bool → Int → Nat, inv156 true 0 ∧
        (∀ (x9 : Bool) (x45 : Int), inv156 x9 x45 →
        (((decide (x45 < (u0.length : Int))) = true →
          ((0 ≤ x45 ∧ x45 < (u0.length : Int)) ∧
          (∀ q182, u0[x45.toNat]? = some q182 →
          ((((x38 == x45) || (!(inall q126 q182))) = true →
            (inv156 x9 (w64 (x45 + 1)) ∧ mu156 x9 (w64 (x45 + 1)) < mu156 x9 x45)) ∧
          (((x38 == x45) || (!(inall q126 q182))) = false →
            ((((!(inall q182 q126)) || (decide (x45 < x38))) = true →
              (inv156 false (w64 (x45 + 1)) ∧ mu156 false (w64 (x45 + 1)) < mu156 x9 x45)) ∧
            (((!(inall q182 q126)) || (decide (x45 < x38))) = false →
              (inv156 x9 (w64 (x45 + 1)) ∧ mu156 x9 (w64 (x45 + 1)) < mu156 x9 x45)))))))) ∧
        ((decide (x45 < (u0.length : Int))) = false →
          ((x9 = true →
            (((x6.length + 1) * 24 ≤ 140737488355328) ∧
            (inv99 (x6 ++ [(⟨bAnd .i64 q126.Want q126.Mask, q126.Mask, q126.Long⟩ : Filter)]) (w64 (x38 + 1)) ∧ mu99 (x6 ++ [(⟨bAnd .i64 q126.Want q126.Mask, q126.Mask, q126.Long⟩ : Filter)]) (w64 (x38 + 1)) < mu99 x6 x38))) ∧
          (x9 = false →
            (inv99 x6 (w64 (x38 + 1)) ∧ mu99 x6 (w64 (x38 + 1)) < mu99 x6 x38)))))))))) ∧
      ((decide (x38 < (u0.length : Int))) = false →
        (K ((((fleastS u0).2) == 0) && (feqS ((fleastS u0).1) x6)))))))))))
theorem LLeast_mono {u0 : List Filter} {K K1 : Bool → Prop} (hK : ∀ r, K r → K1 r) (h : LLeast_vc u0 K) : LLeast_vc u0 K1 :=
  fun z0 => fun z1 => ⟨fun c2 => hK _ (((h z0) z1).1 c2), fun c2 => (Exists.elim (((h z0) z1).2 c2) fun i3 e3 => Exists.elim e3 fun m3 g3 => ⟨i3, m3, g3.1, fun x6 x38 z3 => ⟨fun c4 => ⟨((g3.2 x6 x38 z3).1 c4).1, fun q126 z6 => (Exists.elim ((((g3.2 x6 x38 z3).1 c4).2) q126 z6) fun i7 e7 => Exists.elim e7 fun m7 g7 => ⟨i7, m7, g7.1, fun x9 x45 z7 => ⟨fun c8 => ⟨((g7.2 x9 x45 z7).1 c8).1, fun q182 z10 => ⟨fun c11 => (((((g7.2 x9 x45 z7).1 c8).2) q182 z10).1 c11), fun c11 => ⟨fun c12 => ((((((g7.2 x9 x45 z7).1 c8).2) q182 z10).2 c11).1 c12), fun c12 => ((((((g7.2 x9 x45 z7).1 c8).2) q182 z10).2 c11).2 c12)⟩⟩⟩, fun c8 => ⟨fun c9 => ⟨(((g7.2 x9 x45 z7).2 c8).1 c9).1, (((g7.2 x9 x45 z7).2 c8).1 c9).2⟩, fun c9 => (((g7.2 x9 x45 z7).2 c8).2 c9)⟩⟩⟩)⟩, fun c4 => hK _ ((g3.2 x6 x38 z3).2 c4)⟩⟩)⟩

def LIn_vc (u0 : List Filter) (u1 : Frame) (K : Bool → Prop) : Prop :=
  (u0.length ≤ 140737488355328 →
    (u1.Data.length ≤ 140737488355328 →
    (((finS u0 u1).1).length ≤ 140737488355328 →
    ((((fcheckS u0) != (fcheckS u0)) = true →
      (K false)) ∧
    (((fcheckS u0) != (fcheckS u0)) = false →
      ((((fcheckS u0) == 0) = true →
        ((((rcheckfr u1) != 0) = true →
          (K ((((finS u0 u1).2) == (rcheckfr u1)) && ((((finS u0 u1).1).length : Int) == 0)))) ∧
        (((rcheckfr u1) != 0) = false →
          (∃ inv135 : (List Int) → Int → Prop, ∃ mu135 : (List Int) → Int → Nat, inv135 ([] : List Int) 0 ∧
          (∀ (x8 : List Int) (x43 : Int), inv135 x8 x43 →
          (((decide (x43 < (u0.length : Int))) = true →
            ((0 ≤ x43 ∧ x43 < (u0.length : Int)) ∧
            (∀ q162, u0[x43.toNat]? = some q162 →
            (((letsin q162 u1) = true →
              (((x8.length + 1) * 8 ≤ 140737488355328) ∧
              (inv135 (x8 ++ [x43]) (w64 (x43 + 1)) ∧ mu135 (x8 ++ [x43]) (w64 (x43 + 1)) < mu135 x8 x43))) ∧
            ((letsin q162 u1) = false →
              (inv135 x8 (w64 (x43 + 1)) ∧ mu135 x8 (w64 (x43 + 1)) < mu135 x8 x43)))))) ∧
          ((decide (x43 < (u0.length : Int))) = false →
            (K ((((finS u0 u1).2) == 0) && (sequalS ((finS u0 u1).1) x8)))))))))) ∧
      (((fcheckS u0) == 0) = false →
        ((((fcheckS u0) != 0) = true →
          (K ((((finS u0 u1).2) == (fcheckS u0)) && ((((finS u0 u1).1).length : Int) == 0)))) ∧
        (((fcheckS u0) != 0) = false →
          (∃ inv297 : (List Int) → Int → Prop, ∃ mu297 : (List Int) → Int → Nat, inv297 ([] : List Int) 0 ∧
          (∀ (x8 : List Int) (x43 : Int), inv297 x8 x43 →
          (((decide (x43 < (u0.length : Int))) = true →
            ((0 ≤ x43 ∧ x43 < (u0.length : Int)) ∧
            (∀ q324, u0[x43.toNat]? = some q324 →
            (((letsin q324 u1) = true →
              (((x8.length + 1) * 8 ≤ 140737488355328) ∧
              (inv297 (x8 ++ [x43]) (w64 (x43 + 1)) ∧ mu297 (x8 ++ [x43]) (w64 (x43 + 1)) < mu297 x8 x43))) ∧
            ((letsin q324 u1) = false →
              (inv297 x8 (w64 (x43 + 1)) ∧ mu297 x8 (w64 (x43 + 1)) < mu297 x8 x43)))))) ∧
          ((decide (x43 < (u0.length : Int))) = false →
            (K ((((finS u0 u1).2) == 0) && (sequalS ((finS u0 u1).1) x8))))))))))))))))
theorem LIn_mono {u0 : List Filter} {u1 : Frame} {K K1 : Bool → Prop} (hK : ∀ r, K r → K1 r) (h : LIn_vc u0 u1 K) : LIn_vc u0 u1 K1 :=
  fun z0 => fun z1 => fun z2 => ⟨fun c3 => hK _ ((((h z0) z1) z2).1 c3), fun c3 => ⟨fun c4 => ⟨fun c5 => hK _ ((((((h z0) z1) z2).2 c3).1 c4).1 c5), fun c5 => (Exists.elim ((((((h z0) z1) z2).2 c3).1 c4).2 c5) fun i6 e6 => Exists.elim e6 fun m6 g6 => ⟨i6, m6, g6.1, fun x8 x43 z6 => ⟨fun c7 => ⟨((g6.2 x8 x43 z6).1 c7).1, fun q162 z9 => ⟨fun c10 => ⟨(((((g6.2 x8 x43 z6).1 c7).2) q162 z9).1 c10).1, (((((g6.2 x8 x43 z6).1 c7).2) q162 z9).1 c10).2⟩, fun c10 => (((((g6.2 x8 x43 z6).1 c7).2) q162 z9).2 c10)⟩⟩, fun c7 => hK _ ((g6.2 x8 x43 z6).2 c7)⟩⟩)⟩, fun c4 => ⟨fun c5 => hK _ ((((((h z0) z1) z2).2 c3).2 c4).1 c5), fun c5 => (Exists.elim ((((((h z0) z1) z2).2 c3).2 c4).2 c5) fun i6 e6 => Exists.elim e6 fun m6 g6 => ⟨i6, m6, g6.1, fun x8 x43 z6 => ⟨fun c7 => ⟨((g6.2 x8 x43 z6).1 c7).1, fun q324 z9 => ⟨fun c10 => ⟨(((((g6.2 x8 x43 z6).1 c7).2) q324 z9).1 c10).1, (((((g6.2 x8 x43 z6).1 c7).2) q324 z9).1 c10).2⟩, fun c10 => (((((g6.2 x8 x43 z6).1 c7).2) q324 z9).2 c10)⟩⟩, fun c7 => hK _ ((g6.2 x8 x43 z6).2 c7)⟩⟩)⟩⟩⟩

def LCount_vc (u0 : List Filter) (K : Bool → Prop) : Prop :=
  (u0.length ≤ 140737488355328 →
    ((((fcheckS u0) != 0) = true →
      (K ((((fCountS u0 false).2) == (fcheckS u0)) && (((fCountS u0 false).1) == 0)))) ∧
    (((fcheckS u0) != 0) = false →
      (∃ inv87 : Int → Int → Prop, ∃ mu87 : Int → Int → Nat, inv87 0 0 ∧
      (∀ (x6 : Int) (x35 : Int), inv87 x6 x35 →
      (((decide (x35 < 2048)) = true →
        (((fcontfS u0 (fun x0 => fc1 x0 x35)) = true →
          (inv87 (w64 (x6 + 1)) (w64 (x35 + 1)) ∧ mu87 (w64 (x6 + 1)) (w64 (x35 + 1)) < mu87 x6 x35)) ∧
        ((fcontfS u0 (fun x0 => fc1 x0 x35)) = false →
          (inv87 x6 (w64 (x35 + 1)) ∧ mu87 x6 (w64 (x35 + 1)) < mu87 x6 x35)))) ∧
      ((decide (x35 < 2048)) = false →
        ((((((fCountS u0 false).2) != 0) || (((fCountS u0 false).1) != x6)) = true →
          (K false)) ∧
        (((((fCountS u0 false).2) != 0) || (((fCountS u0 false).1) != x6)) = false →
          (∃ inv187 : (List Filter) → Int → Prop, ∃ mu187 : (List Filter) → Int → Nat, inv187 ([] : List Filter) 0 ∧
          (∀ (x8 : List Filter) (x53 : Int), inv187 x8 x53 →
          (((decide (x53 < (u0.length : Int))) = true →
            ((0 ≤ x53 ∧ x53 < (u0.length : Int)) ∧
            (∀ q212, u0[x53.toNat]? = some q212 →
            (((!q212.Long) = true →
              (((x8.length + 1) * 24 ≤ 140737488355328) ∧
              (inv187 (x8 ++ [(⟨q212.Want, bOr .i64 q212.Mask 536868864, true⟩ : Filter)]) (w64 (x53 + 1)) ∧ mu187 (x8 ++ [(⟨q212.Want, bOr .i64 q212.Mask 536868864, true⟩ : Filter)]) (w64 (x53 + 1)) < mu187 x8 x53))) ∧
            ((!q212.Long) = false →
              (inv187 x8 (w64 (x53 + 1)) ∧ mu187 x8 (w64 (x53 + 1)) < mu187 x8 x53)))))) ∧
          ((decide (x53 < (u0.length : Int))) = false →
            (K ((((fCountS x8 true).2) == 0) && (((fCountS x8 true).1) == x6))))))))))))))))
theorem LCount_mono {u0 : List Filter} {K K1 : Bool → Prop} (hK : ∀ r, K r → K1 r) (h : LCount_vc u0 K) : LCount_vc u0 K1 :=
  fun z0 => ⟨fun c1 => hK _ ((h z0).1 c1), fun c1 => (Exists.elim ((h z0).2 c1) fun i2 e2 => Exists.elim e2 fun m2 g2 => ⟨i2, m2, g2.1, fun x6 x35 z2 => ⟨fun c3 => ⟨fun c4 => (((g2.2 x6 x35 z2).1 c3).1 c4), fun c4 => (((g2.2 x6 x35 z2).1 c3).2 c4)⟩, fun c3 => ⟨fun c4 => hK _ (((g2.2 x6 x35 z2).2 c3).1 c4), fun c4 => (Exists.elim (((g2.2 x6 x35 z2).2 c3).2 c4) fun i5 e5 => Exists.elim e5 fun m5 g5 => ⟨i5, m5, g5.1, fun x8 x53 z5 => ⟨fun c6 => ⟨((g5.2 x8 x53 z5).1 c6).1, fun q212 z8 => ⟨fun c9 => ⟨(((((g5.2 x8 x53 z5).1 c6).2) q212 z8).1 c9).1, (((((g5.2 x8 x53 z5).1 c6).2) q212 z8).1 c9).2⟩, fun c9 => (((((g5.2 x8 x53 z5).1 c6).2) q212 z8).2 c9)⟩⟩, fun c6 => hK _ ((g5.2 x8 x53 z5).2 c6)⟩⟩)⟩⟩⟩)⟩

def LSame_vc (u0 : List Filter) (u1 : Frame) (u2 : Int) (u3 : Int) (K : Bool → Prop) : Prop :=
  (u0.length ≤ 140737488355328 →
    (u1.Data.length ≤ 140737488355328 →
    (((fleastS u0).1).length ≤ 140737488355328 →
    (((((fleastS u0).2) == 0) = true →
      (((finS u0 u1).1).length ≤ 140737488355328 →
      (((finS ((fleastS u0).1) u1).1).length ≤ 140737488355328 →
      ((((((finS u0 u1).2) != ((finS ((fleastS u0).1) u1).2)) || ((decide ((((finS u0 u1).1).length : Int) > 0)) != (decide ((((finS ((fleastS u0).1) u1).1).length : Int) > 0)))) = true →
        (K false)) ∧
      (((((finS u0 u1).2) != ((finS ((fleastS u0).1) u1).2)) || ((decide ((((finS u0 u1).1).length : Int) > 0)) != (decide ((((finS ((fleastS u0).1) u1).1).length : Int) > 0)))) = false →
        (((((((fCountS u0 true).2) != 0) || (((fCountS ((fleastS u0).1) true).2) != 0)) || (((fCountS u0 true).1) != ((fCountS ((fleastS u0).1) true).1))) = true →
          (K false)) ∧
        ((((((fCountS u0 true).2) != 0) || (((fCountS ((fleastS u0).1) true).2) != 0)) || (((fCountS u0 true).1) != ((fCountS ((fleastS u0).1) true).1))) = false →
          (((rangesS u2 u3 u1.Long).1).length ≤ 140737488355328 →
          ((((((rangesS u2 u3 u1.Long).2) != 0) || (decide ((((rangesS u2 u3 u1.Long).1).length : Int) > 16))) = true →
            (K true)) ∧
          (((((rangesS u2 u3 u1.Long).2) != 0) || (decide ((((rangesS u2 u3 u1.Long).1).length : Int) > 16))) = false →
            ((((((fCountS ((rangesS u2 u3 u1.Long).1) u1.Long).2) != 0) || (((fCountS ((rangesS u2 u3 u1.Long).1) u1.Long).1) != (w64 ((w64 (u3 - u2)) + 1)))) = true →
              (K false)) ∧
            (((((fCountS ((rangesS u2 u3 u1.Long).1) u1.Long).2) != 0) || (((fCountS ((rangesS u2 u3 u1.Long).1) u1.Long).1) != (w64 ((w64 (u3 - u2)) + 1)))) = false →
              (((finS ((rangesS u2 u3 u1.Long).1) u1).1).length ≤ 140737488355328 →
              (K ((((finS ((rangesS u2 u3 u1.Long).1) u1).2) != 0) || ((((((finS ((rangesS u2 u3 u1.Long).1) u1).1).length : Int) == 1) == ((decide (u1.ID ≥ u2)) && (decide (u1.ID ≤ u3)))) && (decide ((((finS ((rangesS u2 u3 u1.Long).1) u1).1).length : Int) ≤ 1)))))))))))))))))) ∧
    ((((fleastS u0).2) == 0) = false →
      (((rangesS u2 u3 u1.Long).1).length ≤ 140737488355328 →
      ((((((rangesS u2 u3 u1.Long).2) != 0) || (decide ((((rangesS u2 u3 u1.Long).1).length : Int) > 16))) = true →
        (K true)) ∧
      (((((rangesS u2 u3 u1.Long).2) != 0) || (decide ((((rangesS u2 u3 u1.Long).1).length : Int) > 16))) = false →
        ((((((fCountS ((rangesS u2 u3 u1.Long).1) u1.Long).2) != 0) || (((fCountS ((rangesS u2 u3 u1.Long).1) u1.Long).1) != (w64 ((w64 (u3 - u2)) + 1)))) = true →
          (K false)) ∧
        (((((fCountS ((rangesS u2 u3 u1.Long).1) u1.Long).2) != 0) || (((fCountS ((rangesS u2 u3 u1.Long).1) u1.Long).1) != (w64 ((w64 (u3 - u2)) + 1)))) = false →
          (((finS ((rangesS u2 u3 u1.Long).1) u1).1).length ≤ 140737488355328 →
          (K ((((finS ((rangesS u2 u3 u1.Long).1) u1).2) != 0) || ((((((finS ((rangesS u2 u3 u1.Long).1) u1).1).length : Int) == 1) == ((decide (u1.ID ≥ u2)) && (decide (u1.ID ≤ u3)))) && (decide ((((finS ((rangesS u2 u3 u1.Long).1) u1).1).length : Int) ≤ 1))))))))))))))))
theorem LSame_mono {u0 : List Filter} {u1 : Frame} {u2 : Int} {u3 : Int} {K K1 : Bool → Prop} (hK : ∀ r, K r → K1 r) (h : LSame_vc u0 u1 u2 u3 K) : LSame_vc u0 u1 u2 u3 K1 :=
  fun z0 => fun z1 => fun z2 => ⟨fun c3 => fun z4 => fun z5 => ⟨fun c6 => hK _ (((((((h z0) z1) z2).1 c3) z4) z5).1 c6), fun c6 => ⟨fun c7 => hK _ ((((((((h z0) z1) z2).1 c3) z4) z5).2 c6).1 c7), fun c7 => fun z8 => ⟨fun c9 => hK _ ((((((((((h z0) z1) z2).1 c3) z4) z5).2 c6).2 c7) z8).1 c9), fun c9 => ⟨fun c10 => hK _ (((((((((((h z0) z1) z2).1 c3) z4) z5).2 c6).2 c7) z8).2 c9).1 c10), fun c10 => fun z11 => hK _ ((((((((((((h z0) z1) z2).1 c3) z4) z5).2 c6).2 c7) z8).2 c9).2 c10) z11)⟩⟩⟩⟩, fun c3 => fun z4 => ⟨fun c5 => hK _ ((((((h z0) z1) z2).2 c3) z4).1 c5), fun c5 => ⟨fun c6 => hK _ (((((((h z0) z1) z2).2 c3) z4).2 c5).1 c6), fun c6 => fun z7 => hK _ ((((((((h z0) z1) z2).2 c3) z4).2 c5).2 c6) z7)⟩⟩⟩

end Go.Proofs.Ytkogkombalcgeaa
