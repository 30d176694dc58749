/- What must hold so that each function ends well: pure predicates, made by program. -/
import Derived.Test.YtginlmgkimfjmaaCore
set_option linter.unusedVariables false
set_option linter.unusedSimpArgs false
namespace Go.Proofs.Ytginlmgkimfjmaa
open Go.Sy Go.RowKit
structure Guard where
  Key : Int
  Last : Int
  Bad : Int
  State : Int
  deriving DecidableEq, Inhabited
def Guard.enc (x : Guard) : List Value := [.int .i64 x.Key, .int .i64 x.Last, .int .i64 x.Bad, .int .i64 x.State]
def tyGuard : Ty Guard := tyFlat Guard.enc 4 (fun _ => rfl) (fun x => by simp [Guard.enc, Value.oneCell'])
def okGuard (x : Guard) : Prop := (IntKind.i64.min ≤ x.Key ∧ x.Key ≤ IntKind.i64.max) ∧ (IntKind.i64.min ≤ x.Last ∧ x.Last ≤ IntKind.i64.max) ∧ (IntKind.i64.min ≤ x.Bad ∧ x.Bad ≤ IntKind.i64.max) ∧ (IntKind.i64.min ≤ x.State ∧ x.State ≤ IntKind.i64.max)

def bclone_vc (u0 : List Int) (K : (List Int) → Prop) : Prop :=
  (u0.length ≤ 140737488355328 →
    (∀ nb11, (u0 ≠ [] → nb11 = false) →
    ((nb11 = true →
      (K ([] : List Int))) ∧
    (nb11 = false →
      (((([] : List Int).length + u0.length) * 1 ≤ 140737488355328) ∧
      (K (([] : List Int) ++ u0)))))))
theorem bclone_mono {u0 : List Int} {K K1 : (List Int) → Prop} (hK : ∀ r, K r → K1 r) (h : bclone_vc u0 K) : bclone_vc u0 K1 :=
  fun z0 => fun nb11 z1 => ⟨fun c2 => hK _ (((h z0) nb11 z1).1 c2), fun c2 => ⟨(((h z0) nb11 z1).2 c2).1, hK _ ((((h z0) nb11 z1).2 c2).2)⟩⟩

def cbyte_vc (u0 : List Int) (K : Int → Prop) : Prop :=
  (u0.length ≤ 140737488355328 →
    (∃ inv19 : Int → Int → Prop, ∃ mu19 : Int → Int → Nat, inv19 255 0 ∧
    (∀ (x3 : Int) (x8 : Int), inv19 x3 x8 →
    (((decide (x8 < (u0.length : Int))) = true →
      ((0 ≤ x8 ∧ x8 < (u0.length : Int)) ∧
      (∀ q43, u0[x8.toNat]? = some q43 →
      (∃ inv67 : Int → Int → Prop, ∃ mu67 : Int → Int → Nat, inv67 (bXor .u8 x3 q43) 0 ∧
      (∀ (x3v : Int) (x15 : Int), inv67 x3v x15 →
      (((decide (x15 < 8)) = true →
        ((((bAnd .u8 x3v 128) != 0) = true →
          (inv67 (bXor .u8 (bShl .u8 x3v 1) 47) (w64 (x15 + 1)) ∧ mu67 (bXor .u8 (bShl .u8 x3v 1) 47) (w64 (x15 + 1)) < mu67 x3v x15)) ∧
        (((bAnd .u8 x3v 128) != 0) = false →
          (inv67 (bShl .u8 x3v 1) (w64 (x15 + 1)) ∧ mu67 (bShl .u8 x3v 1) (w64 (x15 + 1)) < mu67 x3v x15)))) ∧
      ((decide (x15 < 8)) = false →
        (inv19 x3v (w64 (x8 + 1)) ∧ mu19 x3v (w64 (x8 + 1)) < mu19 x3 x8)))))))) ∧
    ((decide (x8 < (u0.length : Int))) = false →
      (K (bXor .u8 x3 255)))))))
theorem cbyte_mono {u0 : List Int} {K K1 : Int → Prop} (hK : ∀ r, K r → K1 r) (h : cbyte_vc u0 K) : cbyte_vc u0 K1 :=
  fun z0 => (Exists.elim (h z0) fun i1 e1 => Exists.elim e1 fun m1 g1 => ⟨i1, m1, g1.1, fun x3 x8 z1 => ⟨fun c2 => ⟨((g1.2 x3 x8 z1).1 c2).1, fun q43 z4 => (Exists.elim ((((g1.2 x3 x8 z1).1 c2).2) q43 z4) fun i5 e5 => Exists.elim e5 fun m5 g5 => ⟨i5, m5, g5.1, fun x3v x15 z5 => ⟨fun c6 => ⟨fun c7 => (((g5.2 x3v x15 z5).1 c6).1 c7), fun c7 => (((g5.2 x3v x15 z5).1 c6).2 c7)⟩, fun c6 => ((g5.2 x3v x15 z5).2 c6)⟩⟩)⟩, fun c2 => hK _ ((g1.2 x3 x8 z1).2 c2)⟩⟩)

def gcheck_vc (u0 : Guard) (K : Int → Prop) : Prop :=
  (((((((((decide (u0.Key < 0)) || (decide (u0.Key > 65535))) || (decide (u0.Last < (-1)))) || (decide (u0.Last ≥ 15))) || (decide (u0.Bad < 0))) || (decide (u0.State < 0))) || (decide (u0.State > 4))) = true →
      (K 3)) ∧
    ((((((((decide (u0.Key < 0)) || (decide (u0.Key > 65535))) || (decide (u0.Last < (-1)))) || (decide (u0.Last ≥ 15))) || (decide (u0.Bad < 0))) || (decide (u0.State < 0))) || (decide (u0.State > 4))) = false →
      (K 0)))
theorem gcheck_mono {u0 : Guard} {K K1 : Int → Prop} (hK : ∀ r, K r → K1 r) (h : gcheck_vc u0 K) : gcheck_vc u0 K1 :=
  ⟨fun c0 => hK _ (h.1 c0), fun c0 => hK _ (h.2 c0)⟩
def gcheck (u0 : Guard) : Int :=
  bif ((((((decide (u0.Key < 0)) || (decide (u0.Key > 65535))) || (decide (u0.Last < (-1)))) || (decide (u0.Last ≥ 15))) || (decide (u0.Bad < 0))) || (decide (u0.State < 0))) || (decide (u0.State > 4)) then 3
    else 0
theorem gcheck_ok (u0 : Guard) : gcheck_vc u0 (fun r => r = gcheck u0) := ⟨fun h0 => (by simp only [gcheck, h0, cond_true, cond_false]), fun h0 => (by simp only [gcheck, h0, cond_true, cond_false])⟩

end Go.Proofs.Ytginlmgkimfjmaa
