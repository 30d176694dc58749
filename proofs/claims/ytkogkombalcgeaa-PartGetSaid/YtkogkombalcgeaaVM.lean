/- What must hold so that each function ends well: pure predicates, made by program. -/
import Derived.Test.YtkogkombalcgeaaPL
set_option linter.unusedVariables false
set_option linter.unusedSimpArgs false
namespace Go.Proofs.Ytkogkombalcgeaa
open Go.Sy Go.RowKit
def psamep_vc (u0 : List (List Int)) (u1 : List (List Int)) (K : Bool → Prop) : Prop :=
  (u0.length ≤ 140737488355328 →
    (u1.length ≤ 140737488355328 →
    (K (peqfS u0 u1 (fun x0 x1 => beqS x0 x1 )))))
theorem psamep_mono {u0 : List (List Int)} {u1 : List (List Int)} {K K1 : Bool → Prop} (hK : ∀ r, K r → K1 r) (h : psamep_vc u0 u1 K) : psamep_vc u0 u1 K1 :=
  fun z0 => fun z1 => hK _ ((h z0) z1)
def psamep (u0 : List (List Int)) (u1 : List (List Int)) : Bool :=
  (peqfS u0 u1 (fun x0 x1 => beqS x0 x1 ))
theorem psamep_ok (u0 : List (List Int)) (u1 : List (List Int)) : psamep_vc u0 u1 (fun r => r = psamep u0 u1) := (fun _ => (fun _ => (by rfl)))

def pbegin_vc (u0 : List Int) (K : (Sender × (List Int) × Int) → Prop) : Prop :=
  (u0.length ≤ 140737488355328 →
    (((psplitS u0).1).length ≤ 140737488355328 →
    (((((psplitS u0).2) != 0) = true →
      (K ((⟨[], 0, 0, 0, false⟩ : Sender), [], (psplitS u0).2))) ∧
    ((((psplitS u0).2) != 0) = false →
      ((u0.length ≤ 1000000) ∧
      ((bcloneS u0).length ≤ 140737488355328 →
      ((((((psplitS u0).1).length : Int) == 1) = true →
        ((0 ≤ (0 : Int) ∧ (0 : Int) < (((psplitS u0).1).length : Int)) ∧
        (∀ qd3_0, ((psplitS u0).1)[(0 : Int).toNat]? = some qd3_0 →
        (K ((⟨(bcloneS u0), (u0.length : Int), 1, 0, true⟩ : Sender), qd3_0, 0))))) ∧
      (((((psplitS u0).1).length : Int) == 1) = false →
        ((0 ≤ (0 : Int) ∧ (0 : Int) < (((psplitS u0).1).length : Int)) ∧
        (∀ qd3_0, ((psplitS u0).1)[(0 : Int).toNat]? = some qd3_0 →
        (K ((⟨(bcloneS u0), min (u0.length : Int) 6, 1, -1, false⟩ : Sender), qd3_0, 0))))))))))))
theorem pbegin_mono {u0 : List Int} {K K1 : (Sender × (List Int) × Int) → Prop} (hK : ∀ r, K r → K1 r) (h : pbegin_vc u0 K) : pbegin_vc u0 K1 :=
  fun z0 => fun z1 => ⟨fun c2 => hK _ (((h z0) z1).1 c2), fun c2 => ⟨(((h z0) z1).2 c2).1, fun z4 => ⟨fun c5 => ⟨((((((h z0) z1).2 c2).2) z4).1 c5).1, fun qd3_0 z7 => hK _ ((((((((h z0) z1).2 c2).2) z4).1 c5).2) qd3_0 z7)⟩, fun c5 => ⟨((((((h z0) z1).2 c2).2) z4).2 c5).1, fun qd3_0 z7 => hK _ ((((((((h z0) z1).2 c2).2) z4).2 c5).2) qd3_0 z7)⟩⟩⟩⟩

def pget_vc (u0 : Getter) (u1 : List Int) (K : (Getter × (List Int) × (List Int) × Int × Bool × Bool) → Prop) : Prop :=
  (u0.Data.length ≤ 140737488355328 →
    (u1.length ≤ 140737488355328 →
    ((((pcheckg u0) != 0) = true →
      (K ((⟨0, [], 0, 0, 0⟩ : Getter), ([] : List Int), ([] : List Int), (pcheckg u0), true, true))) ∧
    (((pcheckg u0) != 0) = false →
      ((((u1.length : Int) == 0) = true →
        (K ((⟨0, [], 0, 0, 0⟩ : Getter), ([] : List Int), ([] : List Int), 7, true, true))) ∧
      (((u1.length : Int) == 0) = false →
        (((decide ((u1.length : Int) > 8)) = true →
          (K ((⟨0, [], 0, 0, 0⟩ : Getter), ([] : List Int), ([] : List Int), 2, true, true))) ∧
        ((decide ((u1.length : Int) > 8)) = false →
          ((0 ≤ (0 : Int) ∧ (0 : Int) < (u1.length : Int)) ∧
          (∀ q132, u1[(0 : Int).toNat]? = some q132 →
          ((0 ≤ (0 : Int) ∧ (0 : Int) < (u1.length : Int)) ∧
          (∀ q155, u1[(0 : Int).toNat]? = some q155 →
          ((((bShr .u8 q155 4) == 0) = true →
            ((((((w64 (bAnd .u8 q132 15)) == 0) || (decide ((w64 (bAnd .u8 q132 15)) > 7))) || ((u1.length : Int) != (w64 ((w64 (bAnd .u8 q132 15)) + 1)))) = true →
              (K ((⟨0, [], 0, 0, 0⟩ : Getter), ([] : List Int), ([] : List Int), 4, true, true))) ∧
            (((((w64 (bAnd .u8 q132 15)) == 0) || (decide ((w64 (bAnd .u8 q132 15)) > 7))) || ((u1.length : Int) != (w64 ((w64 (bAnd .u8 q132 15)) + 1)))) = false →
              ((0 ≤ (1 : Int) ∧ (1 : Int) ≤ (u1.length : Int)) ∧
              (((u1.drop (1 : Int).toNat).length ≤ 1000000) ∧
              (∀ nb347, ((bcloneS (u1.drop (1 : Int).toNat)) ≠ [] → nb347 = false) →
              (K ((⟨0, [], 0, u0.Block, 0⟩ : Getter), ([] : List Int), (bcloneS (u1.drop (1 : Int).toNat)), 0, true, nb347)))))))) ∧
          (((bShr .u8 q155 4) == 0) = false →
            ((((bShr .u8 q155 4) == 1) = true →
              ((((u1.length : Int) != 8) = true →
                (K ((⟨0, [], 0, 0, 0⟩ : Getter), ([] : List Int), ([] : List Int), 4, true, true))) ∧
              (((u1.length : Int) != 8) = false →
                ((0 ≤ (1 : Int) ∧ (1 : Int) < (u1.length : Int)) ∧
                (∀ q394, u1[(1 : Int).toNat]? = some q394 →
                (((decide ((bOr .i64 (bShl .i64 (w64 (bAnd .u8 q132 15)) 8) (w64 q394)) < 8)) = true →
                  (K ((⟨0, [], 0, 0, 0⟩ : Getter), ([] : List Int), ([] : List Int), 4, true, true))) ∧
                ((decide ((bOr .i64 (bShl .i64 (w64 (bAnd .u8 q132 15)) 8) (w64 q394)) < 8)) = false →
                  (((decide ((bOr .i64 (bShl .i64 (w64 (bAnd .u8 q132 15)) 8) (w64 q394)) > 300)) = true →
                    (K ((⟨0, [], 0, u0.Block, 0⟩ : Getter), ([50, 0, 0] : List Int), ([] : List Int), 0, false, true))) ∧
                  ((decide ((bOr .i64 (bShl .i64 (w64 (bAnd .u8 q132 15)) 8) (w64 q394)) > 300)) = false →
                    ((0 ≤ (2 : Int) ∧ (2 : Int) ≤ (u1.length : Int)) ∧
                    (((u1.drop (2 : Int).toNat).length ≤ 1000000) ∧
                    (∀ nb793, ((pflow u0.Block) ≠ [] → nb793 = false) →
                    (K ((⟨bOr .i64 (bShl .i64 (w64 (bAnd .u8 q132 15)) 8) (w64 q394), (bcloneS (u1.drop (2 : Int).toNat)), 1, u0.Block, u0.Block⟩ : Getter), (pflow u0.Block), ([] : List Int), 0, nb793, true)))))))))))))) ∧
            (((bShr .u8 q155 4) == 1) = false →
              ((((bShr .u8 q155 4) == 2) = true →
                (((u0.Want == 0) = true →
                  (K ((⟨0, [], 0, 0, 0⟩ : Getter), ([] : List Int), ([] : List Int), 12, true, true))) ∧
                ((u0.Want == 0) = false →
                  ((((w64 (bAnd .u8 q132 15)) != u0.Next) = true →
                    (K ((⟨0, [], 0, 0, 0⟩ : Getter), ([] : List Int), ([] : List Int), 14, true, true))) ∧
                  (((w64 (bAnd .u8 q132 15)) != u0.Next) = false →
                    ((((u1.length : Int) != (w64 ((min 7 (w64 (u0.Want - (u0.Data.length : Int)))) + 1))) = true →
                      (K ((⟨0, [], 0, 0, 0⟩ : Getter), ([] : List Int), ([] : List Int), 4, true, true))) ∧
                    (((u1.length : Int) != (w64 ((min 7 (w64 (u0.Want - (u0.Data.length : Int)))) + 1))) = false →
                      ((u0.Data.length ≤ 1000000) ∧
                      ((0 ≤ (1 : Int) ∧ (1 : Int) ≤ (u1.length : Int)) ∧
                      ((((bcloneS u0.Data).length + (u1.drop (1 : Int).toNat).length) * 1 ≤ 140737488355328) ∧
                      ((((((bcloneS u0.Data) ++ (u1.drop (1 : Int).toNat)).length : Int) == u0.Want) = true →
                        (∀ nb1056, (((bcloneS u0.Data) ++ (u1.drop (1 : Int).toNat)) ≠ [] → nb1056 = false) →
                        (K ((⟨0, [], 0, u0.Block, 0⟩ : Getter), ([] : List Int), (bcloneS u0.Data) ++ (u1.drop (1 : Int).toNat), 0, true, nb1056)))) ∧
                      (((((bcloneS u0.Data) ++ (u1.drop (1 : Int).toNat)).length : Int) == u0.Want) = false →
                        (((decide (u0.Block > 0)) = true →
                          ((((w64 (u0.Left - 1)) == 0) = true →
                            (∀ nb1245, ((pflow u0.Block) ≠ [] → nb1245 = false) →
                            (K ((⟨u0.Want, (bcloneS u0.Data) ++ (u1.drop (1 : Int).toNat), (w64 (u0.Next + 1)).tmod 16, u0.Block, u0.Block⟩ : Getter), (pflow u0.Block), ([] : List Int), 0, nb1245, true)))) ∧
                          (((w64 (u0.Left - 1)) == 0) = false →
                            (K ((⟨u0.Want, (bcloneS u0.Data) ++ (u1.drop (1 : Int).toNat), (w64 (u0.Next + 1)).tmod 16, u0.Block, w64 (u0.Left - 1)⟩ : Getter), ([] : List Int), ([] : List Int), 0, true, true))))) ∧
                        ((decide (u0.Block > 0)) = false →
                          (K ((⟨u0.Want, (bcloneS u0.Data) ++ (u1.drop (1 : Int).toNat), (w64 (u0.Next + 1)).tmod 16, u0.Block, u0.Left⟩ : Getter), ([] : List Int), ([] : List Int), 0, true, true)))))))))))))))) ∧
              (((bShr .u8 q155 4) == 2) = false →
                (K ((⟨0, [], 0, 0, 0⟩ : Getter), ([] : List Int), ([] : List Int), 8, true, true))))))))))))))))))))
theorem pget_mono {u0 : Getter} {u1 : List Int} {K K1 : (Getter × (List Int) × (List Int) × Int × Bool × Bool) → Prop} (hK : ∀ r, K r → K1 r) (h : pget_vc u0 u1 K) : pget_vc u0 u1 K1 :=
  fun z0 => fun z1 => ⟨fun c2 => hK _ (((h z0) z1).1 c2), fun c2 => ⟨fun c3 => hK _ ((((h z0) z1).2 c2).1 c3), fun c3 => ⟨fun c4 => hK _ (((((h z0) z1).2 c2).2 c3).1 c4), fun c4 => ⟨(((((h z0) z1).2 c2).2 c3).2 c4).1, fun q132 z6 => ⟨(((((((h z0) z1).2 c2).2 c3).2 c4).2) q132 z6).1, fun q155 z8 => ⟨fun c9 => ⟨fun c10 => hK _ (((((((((((h z0) z1).2 c2).2 c3).2 c4).2) q132 z6).2) q155 z8).1 c9).1 c10), fun c10 => ⟨(((((((((((h z0) z1).2 c2).2 c3).2 c4).2) q132 z6).2) q155 z8).1 c9).2 c10).1, ⟨((((((((((((h z0) z1).2 c2).2 c3).2 c4).2) q132 z6).2) q155 z8).1 c9).2 c10).2).1, fun nb347 z13 => hK _ ((((((((((((((h z0) z1).2 c2).2 c3).2 c4).2) q132 z6).2) q155 z8).1 c9).2 c10).2).2) nb347 z13)⟩⟩⟩, fun c9 => ⟨fun c10 => ⟨fun c11 => hK _ ((((((((((((h z0) z1).2 c2).2 c3).2 c4).2) q132 z6).2) q155 z8).2 c9).1 c10).1 c11), fun c11 => ⟨((((((((((((h z0) z1).2 c2).2 c3).2 c4).2) q132 z6).2) q155 z8).2 c9).1 c10).2 c11).1, fun q394 z13 => ⟨fun c14 => hK _ (((((((((((((((h z0) z1).2 c2).2 c3).2 c4).2) q132 z6).2) q155 z8).2 c9).1 c10).2 c11).2) q394 z13).1 c14), fun c14 => ⟨fun c15 => hK _ ((((((((((((((((h z0) z1).2 c2).2 c3).2 c4).2) q132 z6).2) q155 z8).2 c9).1 c10).2 c11).2) q394 z13).2 c14).1 c15), fun c15 => ⟨((((((((((((((((h z0) z1).2 c2).2 c3).2 c4).2) q132 z6).2) q155 z8).2 c9).1 c10).2 c11).2) q394 z13).2 c14).2 c15).1, ⟨(((((((((((((((((h z0) z1).2 c2).2 c3).2 c4).2) q132 z6).2) q155 z8).2 c9).1 c10).2 c11).2) q394 z13).2 c14).2 c15).2).1, fun nb793 z18 => hK _ (((((((((((((((((((h z0) z1).2 c2).2 c3).2 c4).2) q132 z6).2) q155 z8).2 c9).1 c10).2 c11).2) q394 z13).2 c14).2 c15).2).2) nb793 z18)⟩⟩⟩⟩⟩⟩, fun c10 => ⟨fun c11 => ⟨fun c12 => hK _ (((((((((((((h z0) z1).2 c2).2 c3).2 c4).2) q132 z6).2) q155 z8).2 c9).2 c10).1 c11).1 c12), fun c12 => ⟨fun c13 => hK _ ((((((((((((((h z0) z1).2 c2).2 c3).2 c4).2) q132 z6).2) q155 z8).2 c9).2 c10).1 c11).2 c12).1 c13), fun c13 => ⟨fun c14 => hK _ (((((((((((((((h z0) z1).2 c2).2 c3).2 c4).2) q132 z6).2) q155 z8).2 c9).2 c10).1 c11).2 c12).2 c13).1 c14), fun c14 => ⟨(((((((((((((((h z0) z1).2 c2).2 c3).2 c4).2) q132 z6).2) q155 z8).2 c9).2 c10).1 c11).2 c12).2 c13).2 c14).1, ⟨((((((((((((((((h z0) z1).2 c2).2 c3).2 c4).2) q132 z6).2) q155 z8).2 c9).2 c10).1 c11).2 c12).2 c13).2 c14).2).1, ⟨(((((((((((((((((h z0) z1).2 c2).2 c3).2 c4).2) q132 z6).2) q155 z8).2 c9).2 c10).1 c11).2 c12).2 c13).2 c14).2).2).1, ⟨fun c18 => fun nb1056 z19 => hK _ ((((((((((((((((((((h z0) z1).2 c2).2 c3).2 c4).2) q132 z6).2) q155 z8).2 c9).2 c10).1 c11).2 c12).2 c13).2 c14).2).2).2).1 c18) nb1056 z19), fun c18 => ⟨fun c19 => ⟨fun c20 => fun nb1245 z21 => hK _ ((((((((((((((((((((((h z0) z1).2 c2).2 c3).2 c4).2) q132 z6).2) q155 z8).2 c9).2 c10).1 c11).2 c12).2 c13).2 c14).2).2).2).2 c18).1 c19).1 c20) nb1245 z21), fun c20 => hK _ (((((((((((((((((((((h z0) z1).2 c2).2 c3).2 c4).2) q132 z6).2) q155 z8).2 c9).2 c10).1 c11).2 c12).2 c13).2 c14).2).2).2).2 c18).1 c19).2 c20)⟩, fun c19 => hK _ ((((((((((((((((((((h z0) z1).2 c2).2 c3).2 c4).2) q132 z6).2) q155 z8).2 c9).2 c10).1 c11).2 c12).2 c13).2 c14).2).2).2).2 c18).2 c19)⟩⟩⟩⟩⟩⟩⟩⟩, fun c11 => hK _ ((((((((((((h z0) z1).2 c2).2 c3).2 c4).2) q132 z6).2) q155 z8).2 c9).2 c10).2 c11)⟩⟩⟩⟩⟩⟩⟩⟩

end Go.Proofs.Ytkogkombalcgeaa
