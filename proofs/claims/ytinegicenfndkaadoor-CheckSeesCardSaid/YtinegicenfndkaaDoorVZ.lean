/- What must hold so that each function ends well: pure predicates, made by program. -/
import Derived.Test.YtinegicenfndkaaDoorCore
set_option linter.unusedVariables false
set_option linter.unusedSimpArgs false
namespace Go.Proofs.YtinegicenfndkaaDoor
open Go.Sy Go.RowKit
structure Kind where
  Size : Int
  Poly : Int
  From : Int
  End : Int
  deriving DecidableEq, Inhabited
def Kind.enc (x : Kind) : List Value := [.int .i64 x.Size, .int .u64 x.Poly, .int .u64 x.From, .int .u64 x.End]
def tyKind : Ty Kind := tyFlat Kind.enc 4 (fun _ => rfl) (fun x => by simp [Kind.enc, Value.oneCell'])
def okKind (x : Kind) : Prop := (IntKind.i64.min ≤ x.Size ∧ x.Size ≤ IntKind.i64.max) ∧ (IntKind.u64.min ≤ x.Poly ∧ x.Poly ≤ IntKind.u64.max) ∧ (IntKind.u64.min ≤ x.From ∧ x.From ≤ IntKind.u64.max) ∧ (IntKind.u64.min ≤ x.End ∧ x.End ≤ IntKind.u64.max)


end Go.Proofs.YtinegicenfndkaaDoor
