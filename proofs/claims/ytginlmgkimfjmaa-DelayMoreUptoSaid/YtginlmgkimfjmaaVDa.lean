/- What must hold so that each function ends well: pure predicates, made by program. -/
import Derived.Test.YtginlmgkimfjmaaCore
set_option linter.unusedVariables false
set_option linter.unusedSimpArgs false
namespace Go.Proofs.Ytginlmgkimfjmaa
open Go.Sy Go.RowKit
structure Frame where
  ID : Int
  Long : Bool
  Fast : Bool
  Remote : Bool
  Size : Int
  Data : List Int
  deriving DecidableEq, Inhabited
def Frame.rep (Z : Fz) (cs : List Value) (x : Frame) : Prop := ∃ (ao0 : Option Addr) (cap0 : Nat), cs = [.int .i64 x.ID, .bool x.Long, .bool x.Fast, .bool x.Remote, .int .i64 x.Size, .slice ao0 x.Data.length cap0] ∧ SlR (tyInt .u8) Z ao0 cap0 x.Data
def tyFrame : Ty Frame :=
  ⟨6, Frame.rep, by rintro _ _ _ ⟨_, _, rfl, _⟩; rfl, by rintro _ _ _ _ hZ ⟨_, _, rfl, h0⟩; exact ⟨_, _, rfl, h0.mono hZ⟩, by rintro _ _ _ ⟨_, _, rfl, _⟩; simp [Value.oneCell']⟩
def okFrame (x : Frame) : Prop := (IntKind.i64.min ≤ x.ID ∧ x.ID ≤ IntKind.i64.max) ∧ (True) ∧ (True) ∧ (True) ∧ (IntKind.i64.min ≤ x.Size ∧ x.Size ≤ IntKind.i64.max) ∧ ((∀ y0 ∈ x.Data, IntKind.u8.min ≤ y0 ∧ y0 ≤ IntKind.u8.max) ∧ x.Data.length * 1 ≤ lim)

structure Task where
  ID : Int
  Bytes : Int
  Every : Int
  Late : Int
  Jitter : Int
  deriving DecidableEq, Inhabited
def Task.enc (x : Task) : List Value := [.int .i64 x.ID, .int .i64 x.Bytes, .int .i64 x.Every, .int .i64 x.Late, .int .i64 x.Jitter]
def tyTask : Ty Task := tyFlat Task.enc 5 (fun _ => rfl) (fun x => by simp [Task.enc, Value.oneCell'])
def okTask (x : Task) : Prop := (IntKind.i64.min ≤ x.ID ∧ x.ID ≤ IntKind.i64.max) ∧ (IntKind.i64.min ≤ x.Bytes ∧ x.Bytes ≤ IntKind.i64.max) ∧ (IntKind.i64.min ≤ x.Every ∧ x.Every ≤ IntKind.i64.max) ∧ (IntKind.i64.min ≤ x.Late ∧ x.Late ≤ IntKind.i64.max) ∧ (IntKind.i64.min ≤ x.Jitter ∧ x.Jitter ≤ IntKind.i64.max)

structure Stop where
  Wait : Int
  Fits : Bool
  deriving DecidableEq, Inhabited
def Stop.enc (x : Stop) : List Value := [.int .i64 x.Wait, .bool x.Fits]
def tyStop : Ty Stop := tyFlat Stop.enc 2 (fun _ => rfl) (fun x => by simp [Stop.enc, Value.oneCell'])
def okStop (x : Stop) : Prop := (IntKind.i64.min ≤ x.Wait ∧ x.Wait ≤ IntKind.i64.max) ∧ (True)

structure Kind where
  Size : Int
  Poly : Int
  From : Int
  End : Int
  deriving DecidableEq, Inhabited
def Kind.enc (x : Kind) : List Value := [.int .i64 x.Size, .int .u64 x.Poly, .int .u64 x.From, .int .u64 x.End]
def tyKind : Ty Kind := tyFlat Kind.enc 4 (fun _ => rfl) (fun x => by simp [Kind.enc, Value.oneCell'])
def okKind (x : Kind) : Prop := (IntKind.i64.min ≤ x.Size ∧ x.Size ≤ IntKind.i64.max) ∧ (IntKind.u64.min ≤ x.Poly ∧ x.Poly ≤ IntKind.u64.max) ∧ (IntKind.u64.min ≤ x.From ∧ x.From ≤ IntKind.u64.max) ∧ (IntKind.u64.min ≤ x.End ∧ x.End ≤ IntKind.u64.max)

def bwrite_vc (u0 : Int) (u1 : Int) (K : (List UInt8) → Prop) : Prop :=
  ((0 ≤ u1 ∧ u1 ≤ u1 ∧ u1 * 1 ≤ 140737488355328) ∧
    (∃ inv23 : Int → Int → (List Int) → Prop, ∃ mu23 : Int → Int → (List Int) → Nat, inv23 u0 0 (List.replicate u1.toNat (0 : Int)) ∧
    (∀ (x0 : Int) (x10 : Int) (zg90 : List Int), inv23 x0 x10 zg90 →
    (((decide (x10 < u1)) = true →
      ((0 ≤ w64 ((w64 (u1 - 1)) - x10) ∧ w64 ((w64 (u1 - 1)) - x10) < (zg90.length : Int)) ∧
      (inv23 (bShr .u64 x0 1) (w64 (x10 + 1)) (zg90.set (w64 ((w64 (u1 - 1)) - x10)).toNat (w8 (48 + (w8 (bAnd .u64 x0 1))))) ∧ mu23 (bShr .u64 x0 1) (w64 (x10 + 1)) (zg90.set (w64 ((w64 (u1 - 1)) - x10)).toNat (w8 (48 + (w8 (bAnd .u64 x0 1))))) < mu23 x0 x10 zg90))) ∧
    ((decide (x10 < u1)) = false →
      (K (bstr zg90)))))))
theorem bwrite_mono {u0 : Int} {u1 : Int} {K K1 : (List UInt8) → Prop} (hK : ∀ r, K r → K1 r) (h : bwrite_vc u0 u1 K) : bwrite_vc u0 u1 K1 :=
  ⟨h.1, (Exists.elim h.2 fun i1 e1 => Exists.elim e1 fun m1 g1 => ⟨i1, m1, g1.1, fun x0 x10 zg90 z1 => ⟨fun c2 => ⟨((g1.2 x0 x10 zg90 z1).1 c2).1, ((g1.2 x0 x10 zg90 z1).1 c2).2⟩, fun c2 => hK _ ((g1.2 x0 x10 zg90 z1).2 c2)⟩⟩)⟩

end Go.Proofs.Ytginlmgkimfjmaa
