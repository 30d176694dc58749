/- What must hold so that each function ends well: pure predicates, made by program. -/
import Derived.Test.YtmbdcehmeiiaoaaDoorCore
set_option linter.unusedVariables false
set_option linter.unusedSimpArgs false
namespace Go.Proofs.YtmbdcehmeiiaoaaDoor
open Go.Sy Go.RowKit
structure Frame where
  ID : Int
  Long : Bool
  Fast : Bool
  Remote : Bool
  Size : Int
  Data : List Int
  deriving DecidableEq, Inhabited
def Frame.rep (Z : Fz) (cs : List Value) (x : Frame) : Prop := ∃ (ao0 : Option Addr) (cap0 : Nat), cs = [.int .i64 x.ID, .bool x.Long, .bool x.Fast, .bool x.Remote, .int .i64 x.Size, .slice ao0 x.Data.length cap0] ∧ SlR (tyInt .u8) Z ao0 cap0 x.Data
def tyFrame : Ty Frame :=
  ⟨6, Frame.rep, by rintro _ _ _ ⟨_, _, rfl, _⟩; rfl, by rintro _ _ _ _ hZ ⟨_, _, rfl, h0⟩; exact ⟨_, _, rfl, h0.mono hZ⟩, by rintro _ _ _ ⟨_, _, rfl, _⟩; simp [Value.oneCell']⟩
def okFrame (x : Frame) : Prop := (IntKind.i64.min ≤ x.ID ∧ x.ID ≤ IntKind.i64.max) ∧ (True) ∧ (True) ∧ (True) ∧ (IntKind.i64.min ≤ x.Size ∧ x.Size ≤ IntKind.i64.max) ∧ ((∀ y0 ∈ x.Data, IntKind.u8.min ≤ y0 ∧ y0 ≤ IntKind.u8.max) ∧ x.Data.length * 1 ≤ lim)

structure Kind where
  Size : Int
  Poly : Int
  From : Int
  End : Int
  deriving DecidableEq, Inhabited
def Kind.enc (x : Kind) : List Value := [.int .i64 x.Size, .int .u64 x.Poly, .int .u64 x.From, .int .u64 x.End]
def tyKind : Ty Kind := tyFlat Kind.enc 4 (fun _ => rfl) (fun x => by simp [Kind.enc, Value.oneCell'])
def okKind (x : Kind) : Prop := (IntKind.i64.min ≤ x.Size ∧ x.Size ≤ IntKind.i64.max) ∧ (IntKind.u64.min ≤ x.Poly ∧ x.Poly ≤ IntKind.u64.max) ∧ (IntKind.u64.min ≤ x.From ∧ x.From ≤ IntKind.u64.max) ∧ (IntKind.u64.min ≤ x.End ∧ x.End ≤ IntKind.u64.max)

structure Counter where
  last : Int
  n : Int
  deriving DecidableEq, Inhabited
def Counter.enc (x : Counter) : List Value := [.int .u8 x.last, .int .i64 x.n]
def tyCounter : Ty Counter := tyFlat Counter.enc 2 (fun _ => rfl) (fun x => by simp [Counter.enc, Value.oneCell'])
def okCounter (x : Counter) : Prop := (IntKind.u8.min ≤ x.last ∧ x.last ≤ IntKind.u8.max) ∧ (IntKind.i64.min ≤ x.n ∧ x.n ≤ IntKind.i64.max)

structure Reader where
  Row : List UInt8
  At : Int
  Code : Int
  c : Counter
  deriving DecidableEq, Inhabited
def Reader.enc (x : Reader) : List Value := [str x.Row, .int .i64 x.At, .int .i64 x.Code, .int .u8 x.c.last, .int .i64 x.c.n]
def tyReader : Ty Reader := tyFlat Reader.enc 5 (fun _ => rfl) (fun x => by simp [Reader.enc, Value.oneCell'])
def okReader (x : Reader) : Prop := (x.Row.length ≤ lim) ∧ (IntKind.i64.min ≤ x.At ∧ x.At ≤ IntKind.i64.max) ∧ (IntKind.i64.min ≤ x.Code ∧ x.Code ≤ IntKind.i64.max) ∧ (okCounter x.c)

structure FReader where
  Reader : Reader
  f : Frame
  deriving DecidableEq, Inhabited
def FReader.rep (Z : Fz) (cs : List Value) (x : FReader) : Prop := ∃ (ao0 : Option Addr) (cap0 : Nat), cs = [str x.Reader.Row, .int .i64 x.Reader.At, .int .i64 x.Reader.Code, .int .u8 x.Reader.c.last, .int .i64 x.Reader.c.n, .int .i64 x.f.ID, .bool x.f.Long, .bool x.f.Fast, .bool x.f.Remote, .int .i64 x.f.Size, .slice ao0 x.f.Data.length cap0] ∧ SlR (tyInt .u8) Z ao0 cap0 x.f.Data
def tyFReader : Ty FReader :=
  ⟨11, FReader.rep, by rintro _ _ _ ⟨_, _, rfl, _⟩; rfl, by rintro _ _ _ _ hZ ⟨_, _, rfl, h0⟩; exact ⟨_, _, rfl, h0.mono hZ⟩, by rintro _ _ _ ⟨_, _, rfl, _⟩; simp [Value.oneCell']⟩
def okFReader (x : FReader) : Prop := (okReader x.Reader) ∧ (okFrame x.f)

structure Sender where
  row : List UInt8
  lost : Int
  deriving DecidableEq, Inhabited
def Sender.enc (x : Sender) : List Value := [str x.row, .int .i64 x.lost]
def tySender : Ty Sender := tyFlat Sender.enc 2 (fun _ => rfl) (fun x => by simp [Sender.enc, Value.oneCell'])
def okSender (x : Sender) : Prop := (x.row.length ≤ lim) ∧ (IntKind.i64.min ≤ x.lost ∧ x.lost ≤ IntKind.i64.max)


end Go.Proofs.YtmbdcehmeiiaoaaDoor
