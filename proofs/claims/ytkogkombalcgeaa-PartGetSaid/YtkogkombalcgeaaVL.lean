/- What must hold so that each function ends well: pure predicates, made by program. -/
import Derived.Test.YtkogkombalcgeaaPK
set_option linter.unusedVariables false
set_option linter.unusedSimpArgs false
namespace Go.Proofs.Ytkogkombalcgeaa
open Go.Sy Go.RowKit
def bconcat_vc (u0 : List (List Int)) (K : (List Int) → Prop) : Prop :=
  (u0.length ≤ 140737488355328 →
    (∃ inv19 : Int → Int → Prop, ∃ mu19 : Int → Int → Nat, inv19 0 0 ∧
    (∀ (x3 : Int) (x11 : Int), inv19 x3 x11 →
    (((decide (x11 < (u0.length : Int))) = true →
      ((0 ≤ x11 ∧ x11 < (u0.length : Int)) ∧
      (∀ q43, u0[x11.toNat]? = some q43 →
      (q43.length ≤ 140737488355328 →
      (((decide ((w64 (x3 + (q43.length : Int))) < 0)) = true →
        False) ∧
      ((decide ((w64 (x3 + (q43.length : Int))) < 0)) = false →
        (inv19 (w64 (x3 + (q43.length : Int))) (w64 (x11 + 1)) ∧ mu19 (w64 (x3 + (q43.length : Int))) (w64 (x11 + 1)) < mu19 x3 x11))))))) ∧
    ((decide (x11 < (u0.length : Int))) = false →
      ((0 ≤ x3 ∧ x3 ≤ 4000000) ∧
      ((bgrowS x3).length ≤ 140737488355328 →
      (∃ inv108 : (List Int) → Int → Prop, ∃ mu108 : (List Int) → Int → Nat, inv108 (bgrowS x3) 0 ∧
      (∀ (x6 : List Int) (x27 : Int), inv108 x6 x27 →
      (((decide (x27 < (u0.length : Int))) = true →
        ((0 ≤ x27 ∧ x27 < (u0.length : Int)) ∧
        (∀ q132, u0[x27.toNat]? = some q132 →
        (q132.length ≤ 140737488355328 →
        (((x6.length + q132.length) * 1 ≤ 140737488355328) ∧
        (inv108 (x6 ++ q132) (w64 (x27 + 1)) ∧ mu108 (x6 ++ q132) (w64 (x27 + 1)) < mu108 x6 x27)))))) ∧
      ((decide (x27 < (u0.length : Int))) = false →
        (K x6))))))))))))
theorem bconcat_mono {u0 : List (List Int)} {K K1 : (List Int) → Prop} (hK : ∀ r, K r → K1 r) (h : bconcat_vc u0 K) : bconcat_vc u0 K1 :=
  fun z0 => (Exists.elim (h z0) fun i1 e1 => Exists.elim e1 fun m1 g1 => ⟨i1, m1, g1.1, fun x3 x11 z1 => ⟨fun c2 => ⟨((g1.2 x3 x11 z1).1 c2).1, fun q43 z4 => fun z5 => ⟨fun c6 => ((((((g1.2 x3 x11 z1).1 c2).2) q43 z4) z5).1 c6), fun c6 => ((((((g1.2 x3 x11 z1).1 c2).2) q43 z4) z5).2 c6)⟩⟩, fun c2 => ⟨((g1.2 x3 x11 z1).2 c2).1, fun z4 => (Exists.elim ((((g1.2 x3 x11 z1).2 c2).2) z4) fun i5 e5 => Exists.elim e5 fun m5 g5 => ⟨i5, m5, g5.1, fun x6 x27 z5 => ⟨fun c6 => ⟨((g5.2 x6 x27 z5).1 c6).1, fun q132 z8 => fun z9 => ⟨(((((g5.2 x6 x27 z5).1 c6).2) q132 z8) z9).1, (((((g5.2 x6 x27 z5).1 c6).2) q132 z8) z9).2⟩⟩, fun c6 => hK _ ((g5.2 x6 x27 z5).2 c6)⟩⟩)⟩⟩⟩)

def ptold_vc (u0 : Sender) (u1 : List Int) (K : (Sender × Int) → Prop) : Prop :=
  (u0.Data.length ≤ 140737488355328 →
    (u1.length ≤ 140737488355328 →
    ((((pchecks u0) != 0) = true →
      (K ((⟨[], 0, 0, 0, false⟩ : Sender), (pchecks u0)))) ∧
    (((pchecks u0) != 0) = false →
      ((((u1.length : Int) != 3) = true →
        (K ((⟨[], 0, 0, 0, false⟩ : Sender), 4))) ∧
      (((u1.length : Int) != 3) = false →
        ((0 ≤ (0 : Int) ∧ (0 : Int) < (u1.length : Int)) ∧
        (∀ q106, u1[(0 : Int).toNat]? = some q106 →
        ((((bShr .u8 q106 4) != 3) = true →
          (K ((⟨[], 0, 0, 0, false⟩ : Sender), 4))) ∧
        (((bShr .u8 q106 4) != 3) = false →
          ((0 ≤ (0 : Int) ∧ (0 : Int) < (u1.length : Int)) ∧
          (∀ q157, u1[(0 : Int).toNat]? = some q157 →
          (((decide ((bAnd .u8 q157 15) > 2)) = true →
            (K ((⟨[], 0, 0, 0, false⟩ : Sender), 4))) ∧
          ((decide ((bAnd .u8 q157 15) > 2)) = false →
            (((u0.Done || (decide (u0.Left ≥ 0))) = true →
              (K ((⟨[], 0, 0, 0, false⟩ : Sender), 12))) ∧
            ((u0.Done || (decide (u0.Left ≥ 0))) = false →
              ((u0.Data.length ≤ 1000000) ∧
              ((bcloneS u0.Data).length ≤ 140737488355328 →
              ((0 ≤ (0 : Int) ∧ (0 : Int) < (u1.length : Int)) ∧
              (∀ q244, u1[(0 : Int).toNat]? = some q244 →
              ((((bAnd .u8 q244 15) == 0) = true →
                ((0 ≤ (1 : Int) ∧ (1 : Int) < (u1.length : Int)) ∧
                (∀ q270, u1[(1 : Int).toNat]? = some q270 →
                (K ((⟨(bcloneS u0.Data), u0.At, u0.Next, w64 q270, u0.Done⟩ : Sender), 0))))) ∧
              (((bAnd .u8 q244 15) == 0) = false →
                ((((bAnd .u8 q244 15) == 2) = true →
                  (K ((⟨[], 0, 0, 0, false⟩ : Sender), 11))) ∧
                (((bAnd .u8 q244 15) == 2) = false →
                  (K ((⟨(bcloneS u0.Data), u0.At, u0.Next, u0.Left, u0.Done⟩ : Sender), 0))))))))))))))))))))))))))
theorem ptold_mono {u0 : Sender} {u1 : List Int} {K K1 : (Sender × Int) → Prop} (hK : ∀ r, K r → K1 r) (h : ptold_vc u0 u1 K) : ptold_vc u0 u1 K1 :=
  fun z0 => fun z1 => ⟨fun c2 => hK _ (((h z0) z1).1 c2), fun c2 => ⟨fun c3 => hK _ ((((h z0) z1).2 c2).1 c3), fun c3 => ⟨((((h z0) z1).2 c2).2 c3).1, fun q106 z5 => ⟨fun c6 => hK _ (((((((h z0) z1).2 c2).2 c3).2) q106 z5).1 c6), fun c6 => ⟨(((((((h z0) z1).2 c2).2 c3).2) q106 z5).2 c6).1, fun q157 z8 => ⟨fun c9 => hK _ ((((((((((h z0) z1).2 c2).2 c3).2) q106 z5).2 c6).2) q157 z8).1 c9), fun c9 => ⟨fun c10 => hK _ (((((((((((h z0) z1).2 c2).2 c3).2) q106 z5).2 c6).2) q157 z8).2 c9).1 c10), fun c10 => ⟨(((((((((((h z0) z1).2 c2).2 c3).2) q106 z5).2 c6).2) q157 z8).2 c9).2 c10).1, fun z12 => ⟨(((((((((((((h z0) z1).2 c2).2 c3).2) q106 z5).2 c6).2) q157 z8).2 c9).2 c10).2) z12).1, fun q244 z14 => ⟨fun c15 => ⟨((((((((((((((((h z0) z1).2 c2).2 c3).2) q106 z5).2 c6).2) q157 z8).2 c9).2 c10).2) z12).2) q244 z14).1 c15).1, fun q270 z17 => hK _ ((((((((((((((((((h z0) z1).2 c2).2 c3).2) q106 z5).2 c6).2) q157 z8).2 c9).2 c10).2) z12).2) q244 z14).1 c15).2) q270 z17)⟩, fun c15 => ⟨fun c16 => hK _ (((((((((((((((((h z0) z1).2 c2).2 c3).2) q106 z5).2 c6).2) q157 z8).2 c9).2 c10).2) z12).2) q244 z14).2 c15).1 c16), fun c16 => hK _ (((((((((((((((((h z0) z1).2 c2).2 c3).2) q106 z5).2 c6).2) q157 z8).2 c9).2 c10).2) z12).2) q244 z14).2 c15).2 c16)⟩⟩⟩⟩⟩⟩⟩⟩⟩⟩⟩
def ptold (u0 : Sender) (u1 : List Int) : Sender × Int :=
  bif (pchecks u0) != 0 then ((⟨[], 0, 0, 0, false⟩ : Sender), (pchecks u0))
    else bif (u1.length : Int) != 3 then ((⟨[], 0, 0, 0, false⟩ : Sender), 4)
    else let q106 := (u1[(0 : Int).toNat]?).getD default
    bif (bShr .u8 q106 4) != 3 then ((⟨[], 0, 0, 0, false⟩ : Sender), 4)
    else let q157 := (u1[(0 : Int).toNat]?).getD default
    bif decide ((bAnd .u8 q157 15) > 2) then ((⟨[], 0, 0, 0, false⟩ : Sender), 4)
    else bif u0.Done || (decide (u0.Left ≥ 0)) then ((⟨[], 0, 0, 0, false⟩ : Sender), 12)
    else let q244 := (u1[(0 : Int).toNat]?).getD default
    bif (bAnd .u8 q244 15) == 0 then (let q270 := (u1[(1 : Int).toNat]?).getD default
      ((⟨(bcloneS u0.Data), u0.At, u0.Next, w64 q270, u0.Done⟩ : Sender), 0))
    else bif (bAnd .u8 q244 15) == 2 then ((⟨[], 0, 0, 0, false⟩ : Sender), 11)
    else ((⟨(bcloneS u0.Data), u0.At, u0.Next, u0.Left, u0.Done⟩ : Sender), 0)

def pnext_vc (u0 : Sender) (K : (Sender × (List Int) × Int) → Prop) : Prop :=
  (u0.Data.length ≤ 140737488355328 →
    ((((pchecks u0) != 0) = true →
      (K ((⟨[], 0, 0, 0, false⟩ : Sender), ([] : List Int), (pchecks u0)))) ∧
    (((pchecks u0) != 0) = false →
      (((u0.Done || (decide (u0.Left < 0))) = true →
        (K ((⟨[], 0, 0, 0, false⟩ : Sender), ([] : List Int), 12))) ∧
      ((u0.Done || (decide (u0.Left < 0))) = false →
        ((0 ≤ u0.At ∧ u0.At ≤ (w64 (u0.At + (min 7 (w64 ((u0.Data.length : Int) - u0.At))))) ∧ (w64 (u0.At + (min 7 (w64 ((u0.Data.length : Int) - u0.At))))) ≤ (u0.Data.length : Int)) ∧
        ((((u0.Data.take (w64 (u0.At + (min 7 (w64 ((u0.Data.length : Int) - u0.At))))).toNat).drop u0.At.toNat).length ≤ 1000000 ∧ ([bOr .u8 32 (w8 u0.Next)] : List Int).length ≤ 1000000) ∧
        ((u0.Data.length ≤ 1000000) ∧
        ((bcloneS u0.Data).length ≤ 140737488355328 →
        ((((w64 (u0.At + (min 7 (w64 ((u0.Data.length : Int) - u0.At))))) == ((bcloneS u0.Data).length : Int)) = true →
          (K ((⟨(bcloneS u0.Data), w64 (u0.At + (min 7 (w64 ((u0.Data.length : Int) - u0.At)))), (w64 (u0.Next + 1)).tmod 16, 0, true⟩ : Sender), (prowS ((u0.Data.take (w64 (u0.At + (min 7 (w64 ((u0.Data.length : Int) - u0.At))))).toNat).drop u0.At.toNat) ([bOr .u8 32 (w8 u0.Next)] : List Int)), 0))) ∧
        (((w64 (u0.At + (min 7 (w64 ((u0.Data.length : Int) - u0.At))))) == ((bcloneS u0.Data).length : Int)) = false →
          (((u0.Left == 1) = true →
            (K ((⟨(bcloneS u0.Data), w64 (u0.At + (min 7 (w64 ((u0.Data.length : Int) - u0.At)))), (w64 (u0.Next + 1)).tmod 16, -1, u0.Done⟩ : Sender), (prowS ((u0.Data.take (w64 (u0.At + (min 7 (w64 ((u0.Data.length : Int) - u0.At))))).toNat).drop u0.At.toNat) ([bOr .u8 32 (w8 u0.Next)] : List Int)), 0))) ∧
          ((u0.Left == 1) = false →
            (((decide (u0.Left > 1)) = true →
              (K ((⟨(bcloneS u0.Data), w64 (u0.At + (min 7 (w64 ((u0.Data.length : Int) - u0.At)))), (w64 (u0.Next + 1)).tmod 16, w64 (u0.Left - 1), u0.Done⟩ : Sender), (prowS ((u0.Data.take (w64 (u0.At + (min 7 (w64 ((u0.Data.length : Int) - u0.At))))).toNat).drop u0.At.toNat) ([bOr .u8 32 (w8 u0.Next)] : List Int)), 0))) ∧
            ((decide (u0.Left > 1)) = false →
              (K ((⟨(bcloneS u0.Data), w64 (u0.At + (min 7 (w64 ((u0.Data.length : Int) - u0.At)))), (w64 (u0.Next + 1)).tmod 16, u0.Left, u0.Done⟩ : Sender), (prowS ((u0.Data.take (w64 (u0.At + (min 7 (w64 ((u0.Data.length : Int) - u0.At))))).toNat).drop u0.At.toNat) ([bOr .u8 32 (w8 u0.Next)] : List Int)), 0)))))))))))))))))
theorem pnext_mono {u0 : Sender} {K K1 : (Sender × (List Int) × Int) → Prop} (hK : ∀ r, K r → K1 r) (h : pnext_vc u0 K) : pnext_vc u0 K1 :=
  fun z0 => ⟨fun c1 => hK _ ((h z0).1 c1), fun c1 => ⟨fun c2 => hK _ (((h z0).2 c1).1 c2), fun c2 => ⟨(((h z0).2 c1).2 c2).1, ⟨((((h z0).2 c1).2 c2).2).1, ⟨(((((h z0).2 c1).2 c2).2).2).1, fun z6 => ⟨fun c7 => hK _ ((((((((h z0).2 c1).2 c2).2).2).2) z6).1 c7), fun c7 => ⟨fun c8 => hK _ (((((((((h z0).2 c1).2 c2).2).2).2) z6).2 c7).1 c8), fun c8 => ⟨fun c9 => hK _ ((((((((((h z0).2 c1).2 c2).2).2).2) z6).2 c7).2 c8).1 c9), fun c9 => hK _ ((((((((((h z0).2 c1).2 c2).2).2).2) z6).2 c7).2 c8).2 c9)⟩⟩⟩⟩⟩⟩⟩⟩
def pnext (u0 : Sender) : Sender × (List Int) × Int :=
  bif (pchecks u0) != 0 then ((⟨[], 0, 0, 0, false⟩ : Sender), ([] : List Int), (pchecks u0))
    else bif u0.Done || (decide (u0.Left < 0)) then ((⟨[], 0, 0, 0, false⟩ : Sender), ([] : List Int), 12)
    else bif (w64 (u0.At + (min 7 (w64 ((u0.Data.length : Int) - u0.At))))) == ((bcloneS u0.Data).length : Int) then ((⟨(bcloneS u0.Data), w64 (u0.At + (min 7 (w64 ((u0.Data.length : Int) - u0.At)))), (w64 (u0.Next + 1)).tmod 16, 0, true⟩ : Sender), (prowS ((u0.Data.take (w64 (u0.At + (min 7 (w64 ((u0.Data.length : Int) - u0.At))))).toNat).drop u0.At.toNat) ([bOr .u8 32 (w8 u0.Next)] : List Int)), 0)
    else bif u0.Left == 1 then ((⟨(bcloneS u0.Data), w64 (u0.At + (min 7 (w64 ((u0.Data.length : Int) - u0.At)))), (w64 (u0.Next + 1)).tmod 16, -1, u0.Done⟩ : Sender), (prowS ((u0.Data.take (w64 (u0.At + (min 7 (w64 ((u0.Data.length : Int) - u0.At))))).toNat).drop u0.At.toNat) ([bOr .u8 32 (w8 u0.Next)] : List Int)), 0)
    else bif decide (u0.Left > 1) then ((⟨(bcloneS u0.Data), w64 (u0.At + (min 7 (w64 ((u0.Data.length : Int) - u0.At)))), (w64 (u0.Next + 1)).tmod 16, w64 (u0.Left - 1), u0.Done⟩ : Sender), (prowS ((u0.Data.take (w64 (u0.At + (min 7 (w64 ((u0.Data.length : Int) - u0.At))))).toNat).drop u0.At.toNat) ([bOr .u8 32 (w8 u0.Next)] : List Int)), 0)
    else ((⟨(bcloneS u0.Data), w64 (u0.At + (min 7 (w64 ((u0.Data.length : Int) - u0.At)))), (w64 (u0.Next + 1)).tmod 16, u0.Left, u0.Done⟩ : Sender), (prowS ((u0.Data.take (w64 (u0.At + (min 7 (w64 ((u0.Data.length : Int) - u0.At))))).toNat).drop u0.At.toNat) ([bOr .u8 32 (w8 u0.Next)] : List Int)), 0)

def psplit_vc (u0 : List Int) (K : ((List (List Int)) × Int) → Prop) : Prop :=
  (u0.length ≤ 140737488355328 →
    ((((u0.length : Int) == 0) = true →
      (K (([] : List (List Int)), 7))) ∧
    (((u0.length : Int) == 0) = false →
      (((decide ((u0.length : Int) > 300)) = true →
        (K (([] : List (List Int)), 2))) ∧
      ((decide ((u0.length : Int) > 300)) = false →
        (((decide ((u0.length : Int) ≤ 7)) = true →
          ((u0.length ≤ 1000000 ∧ ([w8 (u0.length : Int)] : List Int).length ≤ 1000000) ∧
          ((prowS u0 ([w8 (u0.length : Int)] : List Int)).length ≤ 140737488355328 →
          (K (([(prowS u0 ([w8 (u0.length : Int)] : List Int))] : List (List Int)), 0))))) ∧
        ((decide ((u0.length : Int) ≤ 7)) = false →
          ((0 ≤ (6 : Int) ∧ (6 : Int) ≤ (u0.length : Int)) ∧
          (((u0.take (6 : Int).toNat).length ≤ 1000000 ∧ ([bOr .u8 16 (w8 (bShr .i64 (u0.length : Int) 8)), w8 (u0.length : Int)] : List Int).length ≤ 1000000) ∧
          ((prowS (u0.take (6 : Int).toNat) ([bOr .u8 16 (w8 (bShr .i64 (u0.length : Int) 8)), w8 (u0.length : Int)] : List Int)).length ≤ 140737488355328 →
          ((0 ≤ (6 : Int) ∧ (6 : Int) ≤ (u0.length : Int)) ∧
          (∃ inv197 : (List (List Int)) → Int → (List Int) → Prop, ∃ mu197 : (List (List Int)) → Int → (List Int) → Nat, inv197 ([(prowS (u0.take (6 : Int).toNat) ([bOr .u8 16 (w8 (bShr .i64 (u0.length : Int) 8)), w8 (u0.length : Int)] : List Int))] : List (List Int)) 1 (u0.drop (6 : Int).toNat) ∧
          (∀ (x4 : List (List Int)) (x5 : Int) (x6 : List Int), inv197 x4 x5 x6 →
          (((decide ((x6.length : Int) > 0)) = true →
            ((0 ≤ min 7 (x6.length : Int) ∧ min 7 (x6.length : Int) ≤ (x6.length : Int)) ∧
            (((x6.take (min 7 (x6.length : Int)).toNat).length ≤ 1000000 ∧ ([bOr .u8 32 (w8 (x5.tmod 16))] : List Int).length ≤ 1000000) ∧
            ((prowS (x6.take (min 7 (x6.length : Int)).toNat) ([bOr .u8 32 (w8 (x5.tmod 16))] : List Int)).length ≤ 140737488355328 →
            (((x4.length + 1) * 24 ≤ 140737488355328) ∧
            ((0 ≤ min 7 (x6.length : Int) ∧ min 7 (x6.length : Int) ≤ (x6.length : Int)) ∧
            (inv197 (x4 ++ [(prowS (x6.take (min 7 (x6.length : Int)).toNat) ([bOr .u8 32 (w8 (x5.tmod 16))] : List Int))]) (w64 (x5 + 1)) (x6.drop (min 7 (x6.length : Int)).toNat) ∧ mu197 (x4 ++ [(prowS (x6.take (min 7 (x6.length : Int)).toNat) ([bOr .u8 32 (w8 (x5.tmod 16))] : List Int))]) (w64 (x5 + 1)) (x6.drop (min 7 (x6.length : Int)).toNat) < mu197 x4 x5 x6))))))) ∧
          ((decide ((x6.length : Int) > 0)) = false →
            (K (x4, 0)))))))))))))))))
theorem psplit_mono {u0 : List Int} {K K1 : ((List (List Int)) × Int) → Prop} (hK : ∀ r, K r → K1 r) (h : psplit_vc u0 K) : psplit_vc u0 K1 :=
  fun z0 => ⟨fun c1 => hK _ ((h z0).1 c1), fun c1 => ⟨fun c2 => hK _ (((h z0).2 c1).1 c2), fun c2 => ⟨fun c3 => ⟨((((h z0).2 c1).2 c2).1 c3).1, fun z5 => hK _ ((((((h z0).2 c1).2 c2).1 c3).2) z5)⟩, fun c3 => ⟨((((h z0).2 c1).2 c2).2 c3).1, ⟨(((((h z0).2 c1).2 c2).2 c3).2).1, fun z6 => ⟨(((((((h z0).2 c1).2 c2).2 c3).2).2) z6).1, (Exists.elim ((((((((h z0).2 c1).2 c2).2 c3).2).2) z6).2) fun i8 e8 => Exists.elim e8 fun m8 g8 => ⟨i8, m8, g8.1, fun x4 x5 x6 z8 => ⟨fun c9 => ⟨((g8.2 x4 x5 x6 z8).1 c9).1, ⟨(((g8.2 x4 x5 x6 z8).1 c9).2).1, fun z12 => ⟨(((((g8.2 x4 x5 x6 z8).1 c9).2).2) z12).1, ⟨((((((g8.2 x4 x5 x6 z8).1 c9).2).2) z12).2).1, ((((((g8.2 x4 x5 x6 z8).1 c9).2).2) z12).2).2⟩⟩⟩⟩, fun c9 => hK _ ((g8.2 x4 x5 x6 z8).2 c9)⟩⟩)⟩⟩⟩⟩⟩⟩

def psames_vc (u0 : Sender) (u1 : Sender) (K : Bool → Prop) : Prop :=
  (u0.Data.length ≤ 140737488355328 →
    (u1.Data.length ≤ 140737488355328 →
    (K (((((beqS u0.Data u1.Data) && (u0.At == u1.At)) && (u0.Next == u1.Next)) && (u0.Left == u1.Left)) && (u0.Done == u1.Done)))))
theorem psames_mono {u0 : Sender} {u1 : Sender} {K K1 : Bool → Prop} (hK : ∀ r, K r → K1 r) (h : psames_vc u0 u1 K) : psames_vc u0 u1 K1 :=
  fun z0 => fun z1 => hK _ ((h z0) z1)
def psames (u0 : Sender) (u1 : Sender) : Bool :=
  ((((beqS u0.Data u1.Data) && (u0.At == u1.At)) && (u0.Next == u1.Next)) && (u0.Left == u1.Left)) && (u0.Done == u1.Done)
theorem psames_ok (u0 : Sender) (u1 : Sender) : psames_vc u0 u1 (fun r => r = psames u0 u1) := (fun _ => (fun _ => (by rfl)))

def psameg_vc (u0 : Getter) (u1 : Getter) (K : Bool → Prop) : Prop :=
  (u0.Data.length ≤ 140737488355328 →
    (u1.Data.length ≤ 140737488355328 →
    (K (((((u0.Want == u1.Want) && (beqS u0.Data u1.Data)) && (u0.Next == u1.Next)) && (u0.Block == u1.Block)) && (u0.Left == u1.Left)))))
theorem psameg_mono {u0 : Getter} {u1 : Getter} {K K1 : Bool → Prop} (hK : ∀ r, K r → K1 r) (h : psameg_vc u0 u1 K) : psameg_vc u0 u1 K1 :=
  fun z0 => fun z1 => hK _ ((h z0) z1)
def psameg (u0 : Getter) (u1 : Getter) : Bool :=
  ((((u0.Want == u1.Want) && (beqS u0.Data u1.Data)) && (u0.Next == u1.Next)) && (u0.Block == u1.Block)) && (u0.Left == u1.Left)
theorem psameg_ok (u0 : Getter) (u1 : Getter) : psameg_vc u0 u1 (fun r => r = psameg u0 u1) := (fun _ => (fun _ => (by rfl)))

def ppartsof_vc (u0 : List Int) (K : (List (List Int)) → Prop) : Prop :=
  (u0.length ≤ 140737488355328 →
    (((decide ((u0.length : Int) ≤ 7)) = true →
      (((([w8 (u0.length : Int)] : List Int).length + u0.length) * 1 ≤ 140737488355328) ∧
      (K ([([w8 (u0.length : Int)] : List Int) ++ u0] : List (List Int))))) ∧
    ((decide ((u0.length : Int) ≤ 7)) = false →
      ((0 ≤ (6 : Int) ∧ (6 : Int) ≤ (u0.length : Int)) ∧
      (((([w8 (w64 (16 + (w64 ((u0.length : Int).tdiv 256)))), w8 ((u0.length : Int).tmod 256)] : List Int).length + (u0.take (6 : Int).toNat).length) * 1 ≤ 140737488355328) ∧
      (∃ inv112 : (List (List Int)) → Int → Prop, ∃ mu112 : (List (List Int)) → Int → Nat, inv112 ([([w8 (w64 (16 + (w64 ((u0.length : Int).tdiv 256)))), w8 ((u0.length : Int).tmod 256)] : List Int) ++ (u0.take (6 : Int).toNat)] : List (List Int)) 1 ∧
      (∀ (x4 : List (List Int)) (x5 : Int), inv112 x4 x5 →
      (((decide ((w64 (6 + (w64 (7 * (w64 (x5 - 1)))))) < (u0.length : Int))) = true →
        ((0 ≤ w64 (6 + (w64 (7 * (w64 (x5 - 1))))) ∧ w64 (6 + (w64 (7 * (w64 (x5 - 1))))) ≤ (min (w64 (6 + (w64 (7 * x5)))) (u0.length : Int)) ∧ (min (w64 (6 + (w64 (7 * x5)))) (u0.length : Int)) ≤ (u0.length : Int)) ∧
        (((([w8 (w64 (32 + (x5.tmod 16)))] : List Int).length + ((u0.take (min (w64 (6 + (w64 (7 * x5)))) (u0.length : Int)).toNat).drop (w64 (6 + (w64 (7 * (w64 (x5 - 1)))))).toNat).length) * 1 ≤ 140737488355328) ∧
        (((x4.length + 1) * 24 ≤ 140737488355328) ∧
        (inv112 (x4 ++ [([w8 (w64 (32 + (x5.tmod 16)))] : List Int) ++ ((u0.take (min (w64 (6 + (w64 (7 * x5)))) (u0.length : Int)).toNat).drop (w64 (6 + (w64 (7 * (w64 (x5 - 1)))))).toNat)]) (w64 (x5 + 1)) ∧ mu112 (x4 ++ [([w8 (w64 (32 + (x5.tmod 16)))] : List Int) ++ ((u0.take (min (w64 (6 + (w64 (7 * x5)))) (u0.length : Int)).toNat).drop (w64 (6 + (w64 (7 * (w64 (x5 - 1)))))).toNat)]) (w64 (x5 + 1)) < mu112 x4 x5))))) ∧
      ((decide ((w64 (6 + (w64 (7 * (w64 (x5 - 1)))))) < (u0.length : Int))) = false →
        (K x4))))))))))
theorem ppartsof_mono {u0 : List Int} {K K1 : (List (List Int)) → Prop} (hK : ∀ r, K r → K1 r) (h : ppartsof_vc u0 K) : ppartsof_vc u0 K1 :=
  fun z0 => ⟨fun c1 => ⟨((h z0).1 c1).1, hK _ (((h z0).1 c1).2)⟩, fun c1 => ⟨((h z0).2 c1).1, ⟨(((h z0).2 c1).2).1, (Exists.elim ((((h z0).2 c1).2).2) fun i4 e4 => Exists.elim e4 fun m4 g4 => ⟨i4, m4, g4.1, fun x4 x5 z4 => ⟨fun c5 => ⟨((g4.2 x4 x5 z4).1 c5).1, ⟨(((g4.2 x4 x5 z4).1 c5).2).1, ⟨((((g4.2 x4 x5 z4).1 c5).2).2).1, ((((g4.2 x4 x5 z4).1 c5).2).2).2⟩⟩⟩, fun c5 => hK _ ((g4.2 x4 x5 z4).2 c5)⟩⟩)⟩⟩⟩

def rcheckg_vc (u0 : Getter) (K : Int → Prop) : Prop :=
  (u0.Data.length ≤ 140737488355328 →
    ((((((!(pin u0.Want 300)) || (!(pin u0.Block 255))) || (!(pin u0.Left u0.Block))) || (!(pin u0.Next 15))) = true →
      (K 3)) ∧
    (((((!(pin u0.Want 300)) || (!(pin u0.Block 255))) || (!(pin u0.Left u0.Block))) || (!(pin u0.Next 15))) = false →
      (((u0.Want == 0) = true →
        ((((((u0.Data.length : Int) != 0) || (u0.Next != 0)) || (u0.Left != 0)) = true →
          (K 4)) ∧
        (((((u0.Data.length : Int) != 0) || (u0.Next != 0)) || (u0.Left != 0)) = false →
          (K 0)))) ∧
      ((u0.Want == 0) = false →
        ((((((((decide (u0.Want < 8)) || (decide ((u0.Data.length : Int) < 6))) || (decide ((u0.Data.length : Int) ≥ u0.Want))) || (((w64 ((u0.Data.length : Int) - 6)).tmod 7) != 0)) || (u0.Next != ((w64 ((w64 ((w64 ((u0.Data.length : Int) - 6)).tdiv 7)) + 1)).tmod 16))) || ((u0.Left == 0) && (u0.Block != 0))) = true →
          (K 4)) ∧
        (((((((decide (u0.Want < 8)) || (decide ((u0.Data.length : Int) < 6))) || (decide ((u0.Data.length : Int) ≥ u0.Want))) || (((w64 ((u0.Data.length : Int) - 6)).tmod 7) != 0)) || (u0.Next != ((w64 ((w64 ((w64 ((u0.Data.length : Int) - 6)).tdiv 7)) + 1)).tmod 16))) || ((u0.Left == 0) && (u0.Block != 0))) = false →
          (K 0))))))))
theorem rcheckg_mono {u0 : Getter} {K K1 : Int → Prop} (hK : ∀ r, K r → K1 r) (h : rcheckg_vc u0 K) : rcheckg_vc u0 K1 :=
  fun z0 => ⟨fun c1 => hK _ ((h z0).1 c1), fun c1 => ⟨fun c2 => ⟨fun c3 => hK _ ((((h z0).2 c1).1 c2).1 c3), fun c3 => hK _ ((((h z0).2 c1).1 c2).2 c3)⟩, fun c2 => ⟨fun c3 => hK _ ((((h z0).2 c1).2 c2).1 c3), fun c3 => hK _ ((((h z0).2 c1).2 c2).2 c3)⟩⟩⟩
def rcheckg (u0 : Getter) : Int :=
  bif (((!(pin u0.Want 300)) || (!(pin u0.Block 255))) || (!(pin u0.Left u0.Block))) || (!(pin u0.Next 15)) then 3
    else bif u0.Want == 0 then (bif (((u0.Data.length : Int) != 0) || (u0.Next != 0)) || (u0.Left != 0) then 4
      else 0)
    else bif (((((decide (u0.Want < 8)) || (decide ((u0.Data.length : Int) < 6))) || (decide ((u0.Data.length : Int) ≥ u0.Want))) || (((w64 ((u0.Data.length : Int) - 6)).tmod 7) != 0)) || (u0.Next != ((w64 ((w64 ((w64 ((u0.Data.length : Int) - 6)).tdiv 7)) + 1)).tmod 16))) || ((u0.Left == 0) && (u0.Block != 0)) then 4
    else 0
theorem rcheckg_ok (u0 : Getter) : rcheckg_vc u0 (fun r => r = rcheckg u0) := (fun _ => ⟨fun h0 => (by simp only [rcheckg, h0, cond_true, cond_false]), fun h0 => ⟨fun h1 => ⟨fun h2 => (by simp only [rcheckg, h0, h1, h2, cond_true, cond_false]), fun h2 => (by simp only [rcheckg, h0, h1, h2, cond_true, cond_false])⟩, fun h1 => ⟨fun h2 => (by simp only [rcheckg, h0, h1, h2, cond_true, cond_false]), fun h2 => (by simp only [rcheckg, h0, h1, h2, cond_true, cond_false])⟩⟩⟩)

def peqf_vc (u0 : List (List Int)) (u1 : List (List Int)) (u2 : (List Int) → (List Int) → Bool) (K : Bool → Prop) : Prop :=
  (u0.length ≤ 140737488355328 →
    (u1.length ≤ 140737488355328 →
    ((((u0.length : Int) != (u1.length : Int)) = true →
      (K false)) ∧
    (((u0.length : Int) != (u1.length : Int)) = false →
      (∃ inv41 : Int → Prop, ∃ mu41 : Int → Nat, inv41 0 ∧
      (∀ (x17 : Int), inv41 x17 →
      (((decide (x17 < (u0.length : Int))) = true →
        ((0 ≤ x17 ∧ x17 < (u0.length : Int)) ∧
        (∀ q67, u0[x17.toNat]? = some q67 →
        (q67.length ≤ 140737488355328 →
        ((0 ≤ x17 ∧ x17 < (u1.length : Int)) ∧
        (∀ q94, u1[x17.toNat]? = some q94 →
        (q94.length ≤ 140737488355328 →
        (((!(u2 q67 q94)) = true →
          (K false)) ∧
        ((!(u2 q67 q94)) = false →
          (inv41 (w64 (x17 + 1)) ∧ mu41 (w64 (x17 + 1)) < mu41 x17)))))))))) ∧
      ((decide (x17 < (u0.length : Int))) = false →
        (K true)))))))))
theorem peqf_mono {u0 : List (List Int)} {u1 : List (List Int)} {u2 : (List Int) → (List Int) → Bool} {K K1 : Bool → Prop} (hK : ∀ r, K r → K1 r) (h : peqf_vc u0 u1 u2 K) : peqf_vc u0 u1 u2 K1 :=
  fun z0 => fun z1 => ⟨fun c2 => hK _ (((h z0) z1).1 c2), fun c2 => (Exists.elim (((h z0) z1).2 c2) fun i3 e3 => Exists.elim e3 fun m3 g3 => ⟨i3, m3, g3.1, fun x17 z3 => ⟨fun c4 => ⟨((g3.2 x17 z3).1 c4).1, fun q67 z6 => fun z7 => ⟨(((((g3.2 x17 z3).1 c4).2) q67 z6) z7).1, fun q94 z9 => fun z10 => ⟨fun c11 => hK _ (((((((((g3.2 x17 z3).1 c4).2) q67 z6) z7).2) q94 z9) z10).1 c11), fun c11 => (((((((((g3.2 x17 z3).1 c4).2) q67 z6) z7).2) q94 z9) z10).2 c11)⟩⟩⟩, fun c4 => hK _ ((g3.2 x17 z3).2 c4)⟩⟩)⟩

end Go.Proofs.Ytkogkombalcgeaa
