/- What must hold so that each function ends well: pure predicates, made by program. -/
import Derived.Test.YtfafpnacflcgmaaDoorCore
set_option linter.unusedVariables false
set_option linter.unusedSimpArgs false
namespace Go.Proofs.YtfafpnacflcgmaaDoor
open Go.Sy Go.RowKit
structure Counter where
  last : Int
  n : Int
  deriving DecidableEq, Inhabited
def Counter.enc (x : Counter) : List Value := [.int .u8 x.last, .int .i64 x.n]
def tyCounter : Ty Counter := tyFlat Counter.enc 2 (fun _ => rfl) (fun x => by simp [Counter.enc, Value.oneCell'])
def okCounter (x : Counter) : Prop := (IntKind.u8.min ≤ x.last ∧ x.last ≤ IntKind.u8.max) ∧ (IntKind.i64.min ≤ x.n ∧ x.n ≤ IntKind.i64.max)

structure Reader where
  Row : List UInt8
  At : Int
  Code : Int
  c : Counter
  deriving DecidableEq, Inhabited
def Reader.enc (x : Reader) : List Value := [str x.Row, .int .i64 x.At, .int .i64 x.Code, .int .u8 x.c.last, .int .i64 x.c.n]
def tyReader : Ty Reader := tyFlat Reader.enc 5 (fun _ => rfl) (fun x => by simp [Reader.enc, Value.oneCell'])
def okReader (x : Reader) : Prop := (x.Row.length ≤ lim) ∧ (IntKind.i64.min ≤ x.At ∧ x.At ≤ IntKind.i64.max) ∧ (IntKind.i64.min ≤ x.Code ∧ x.Code ≤ IntKind.i64.max) ∧ (okCounter x.c)


end Go.Proofs.YtfafpnacflcgmaaDoor
