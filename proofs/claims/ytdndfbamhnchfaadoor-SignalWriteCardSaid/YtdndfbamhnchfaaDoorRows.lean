/-
  NARROWER THAN 'FOR EVERY INPUT', by the rows' own cells (each row's printed sentence says how): SignalRead: laid · SignalWrite: laid · SignalPlaces: laid · MessageCheck: laid.
  DERIVED. THE GIVEN ROWS OF THIS SEAT. 4 by the template 'for every input the law returns true; each argument reads behind the call as it read before'; 0 by the template 'total and deterministic' (their statements: YtdndfbamhnchfaaDoorTotals.lean).
  GIVEN WITH THE SEED: the statements are not yours to turn. If you find one false, say at which input.
  Laid BY PROGRAM, IN A SANDBOX (cutbox-rows.mjs): the forced cells as the released guide's own fill.sh prints them over the translation e9951cc3f479c263… (all of the seat's roots in one cut). By AI agents, Wed Nov 11 2026. No macro, syntax, notation, axiom, sorry.
-/
import Derived.Test.YtdndfbamhnchfaaDoorChecked
import GoSem.PinnedTables
import GoSem.Claim
import GoSem.ClaimJoined
import GoSem.ClaimMapViews
import Derived.JoinedTies
import Derived.KernelRfl
namespace Go.Proofs.YtdndfbamhnchfaaDoor
/- THE CELL 'sum', in the pinned program and in every row, IS THE sha256 OF THE DUMP (.gsa) THAT YtdndfbamhnchfaaDoorProg.lean LOADS. Nothing in Lean hashes anything: it is a label: what it is worth is what the hold of that sum in a sandbox is worth. -/
noncomputable def Tryd.pinned : Pinned := { name := "ytdndfbamhnchfaadoor", sum := "e9951cc3f479c263ddb3e56bea09a8f96aca86f01e322810936cfb2bf9e3c67c", checked := Tryd.checked }
namespace Rows
def none {H : Type} : Left H := { results := [], args := [] }

/- WHAT THE LISTED PACKAGE-LEVEL VARIABLES READ AS WHEN THE CALL BEGINS. Each datum BY PROGRAM (the guide's laid-datum.mjs) off the statement by which the dump's own 'gosem.cut.vars' lays the variable. In a bare row this is a premise. The card (YtdndfbamhnchfaaDoorCards.lean) ties it to the program's text. -/
def laid_unicode_utf8_acceptRanges {H : Type} : DataW H := .agg [.agg [.lit (.int .u8 128), .lit (.int .u8 191)], .agg [.lit (.int .u8 160), .lit (.int .u8 191)], .agg [.lit (.int .u8 128), .lit (.int .u8 159)], .agg [.lit (.int .u8 144), .lit (.int .u8 191)], .agg [.lit (.int .u8 128), .lit (.int .u8 143)], .agg [.lit (.int .u8 0), .lit (.int .u8 0)], .agg [.lit (.int .u8 0), .lit (.int .u8 0)], .agg [.lit (.int .u8 0), .lit (.int .u8 0)], .agg [.lit (.int .u8 0), .lit (.int .u8 0)], .agg [.lit (.int .u8 0), .lit (.int .u8 0)], .agg [.lit (.int .u8 0), .lit (.int .u8 0)], .agg [.lit (.int .u8 0), .lit (.int .u8 0)], .agg [.lit (.int .u8 0), .lit (.int .u8 0)], .agg [.lit (.int .u8 0), .lit (.int .u8 0)], .agg [.lit (.int .u8 0), .lit (.int .u8 0)], .agg [.lit (.int .u8 0), .lit (.int .u8 0)]]
/-- One of Go's own tables, pinned by name: the form's constant. -/
def laid_unicode_utf8_first : DataW Unit := Go.Pinned.utf8First

/-- 'omnibuslaw.SignalRead': WHATEVER THE INPUT: true; the input reads as it did. -/
def signalReadSpec : ChangeSpec := { name := "signalRead", fn := fun _ => fun
  | [d1, d2] => { results := [.lit (.bool true)], args := [d1, d2] }
  | _ => none }
def signalReadRow : OpenClaim := { program := "ytdndfbamhnchfaadoor", sum := "e9951cc3f479c263ddb3e56bea09a8f96aca86f01e322810936cfb2bf9e3c67c", func := "omnibus/omnibuslaw.SignalRead", spec := "signalRead", inPlace := ["internal/bytealg.IndexByteString", "internal/bytealg.IndexString"], unfollowed := true, recurses := true, named := ["unicode/utf8.first", "unicode/utf8.acceptRanges", "internal/bytealg.MaxLen"], apart := false, laid := [("unicode/utf8.acceptRanges", laid_unicode_utf8_acceptRanges), ("unicode/utf8.first", laid_unicode_utf8_first)] }
def SignalReadSaid : Prop := signalReadRow.holds Tryd.pinned (OpenSpec.ofChange signalReadSpec)

/-- ITS FALSE NEIGHBOUR: 'it returns false'. Refute it at one input. -/
def signalReadWrong : ChangeSpec := { name := "signalRead", fn := fun _ => fun
  | [d1, d2] => { results := [.lit (.bool false)], args := [d1, d2] }
  | _ => none }
def SignalReadWrongFalsely : Prop := signalReadRow.holds Tryd.pinned (OpenSpec.ofChange signalReadWrong)

/-- 'omnibuslaw.SignalWrite': WHATEVER THE INPUT: true; the input reads as it did. -/
def signalWriteSpec : ChangeSpec := { name := "signalWrite", fn := fun _ => fun
  | [d1, d2, d3, d4] => { results := [.lit (.bool true)], args := [d1, d2, d3, d4] }
  | _ => none }
def signalWriteRow : OpenClaim := { program := "ytdndfbamhnchfaadoor", sum := "e9951cc3f479c263ddb3e56bea09a8f96aca86f01e322810936cfb2bf9e3c67c", func := "omnibus/omnibuslaw.SignalWrite", spec := "signalWrite", inPlace := ["internal/bytealg.IndexByteString", "internal/bytealg.IndexString"], unfollowed := true, recurses := true, named := ["unicode/utf8.first", "unicode/utf8.acceptRanges", "internal/bytealg.MaxLen"], apart := false, laid := [("unicode/utf8.acceptRanges", laid_unicode_utf8_acceptRanges), ("unicode/utf8.first", laid_unicode_utf8_first)] }
def SignalWriteSaid : Prop := signalWriteRow.holds Tryd.pinned (OpenSpec.ofChange signalWriteSpec)

/-- ITS FALSE NEIGHBOUR: 'it returns false'. Refute it at one input. -/
def signalWriteWrong : ChangeSpec := { name := "signalWrite", fn := fun _ => fun
  | [d1, d2, d3, d4] => { results := [.lit (.bool false)], args := [d1, d2, d3, d4] }
  | _ => none }
def SignalWriteWrongFalsely : Prop := signalWriteRow.holds Tryd.pinned (OpenSpec.ofChange signalWriteWrong)

/-- 'omnibuslaw.SignalPlaces': WHATEVER THE INPUT: true; the input reads as it did. -/
def signalPlacesSpec : ChangeSpec := { name := "signalPlaces", fn := fun _ => fun
  | [d1, d2, d3, d4] => { results := [.lit (.bool true)], args := [d1, d2, d3, d4] }
  | _ => none }
def signalPlacesRow : OpenClaim := { program := "ytdndfbamhnchfaadoor", sum := "e9951cc3f479c263ddb3e56bea09a8f96aca86f01e322810936cfb2bf9e3c67c", func := "omnibus/omnibuslaw.SignalPlaces", spec := "signalPlaces", inPlace := ["internal/bytealg.IndexByteString", "internal/bytealg.IndexString"], unfollowed := true, recurses := true, named := ["unicode/utf8.first", "unicode/utf8.acceptRanges", "internal/bytealg.MaxLen"], apart := false, laid := [("unicode/utf8.acceptRanges", laid_unicode_utf8_acceptRanges), ("unicode/utf8.first", laid_unicode_utf8_first)] }
def SignalPlacesSaid : Prop := signalPlacesRow.holds Tryd.pinned (OpenSpec.ofChange signalPlacesSpec)

/-- ITS FALSE NEIGHBOUR: 'it returns false'. Refute it at one input. -/
def signalPlacesWrong : ChangeSpec := { name := "signalPlaces", fn := fun _ => fun
  | [d1, d2, d3, d4] => { results := [.lit (.bool false)], args := [d1, d2, d3, d4] }
  | _ => none }
def SignalPlacesWrongFalsely : Prop := signalPlacesRow.holds Tryd.pinned (OpenSpec.ofChange signalPlacesWrong)

/-- 'omnibuslaw.MessageCheck': WHATEVER THE INPUT: true; the input reads as it did. -/
def messageCheckSpec : ChangeSpec := { name := "messageCheck", fn := fun _ => fun
  | [d1, d2] => { results := [.lit (.bool true)], args := [d1, d2] }
  | _ => none }
def messageCheckRow : OpenClaim := { program := "ytdndfbamhnchfaadoor", sum := "e9951cc3f479c263ddb3e56bea09a8f96aca86f01e322810936cfb2bf9e3c67c", func := "omnibus/omnibuslaw.MessageCheck", spec := "messageCheck", inPlace := ["internal/bytealg.IndexByteString", "internal/bytealg.IndexString"], unfollowed := true, recurses := true, named := ["unicode/utf8.first", "unicode/utf8.acceptRanges", "internal/bytealg.MaxLen"], apart := false, laid := [("unicode/utf8.acceptRanges", laid_unicode_utf8_acceptRanges), ("unicode/utf8.first", laid_unicode_utf8_first)] }
def MessageCheckSaid : Prop := messageCheckRow.holds Tryd.pinned (OpenSpec.ofChange messageCheckSpec)

/-- ITS FALSE NEIGHBOUR: 'it returns false'. Refute it at one input. -/
def messageCheckWrong : ChangeSpec := { name := "messageCheck", fn := fun _ => fun
  | [d1, d2] => { results := [.lit (.bool false)], args := [d1, d2] }
  | _ => none }
def MessageCheckWrongFalsely : Prop := messageCheckRow.holds Tryd.pinned (OpenSpec.ofChange messageCheckWrong)

/- THE SECOND FORM. 'bulk': how many values and letters a reading holds, each counted each time it is reached (what is shared counts as often as it is met; a slice's spare places count too). A statement '..UptoSaid' is the law's where the arguments, and the package variables that the reading takes, are together of bulk at most 1048576: NARROWER than '..Said'. Prove '..Said' where nothing that the law and all that it calls make is longer than what came in: it says more and counts as full. Else prove '..UptoSaid'. A law counts once. -/
mutual
def uptoBulk {H : Type} : DataW H → Nat
  | .lit (.string bytes) => bytes.length + 1
  | .lit _ => 1
  | .nil => 1
  | .ptr d => uptoBulk d + 1
  | .slice elems spare => uptoBulkAll elems + uptoBulkAll spare + 1
  | .agg parts => uptoBulkAll parts + 1
  | .iface _ d => uptoBulk d + 1
  | .map entries => uptoBulkEntries entries + 1
  | .held _ => 1
def uptoBulkAll {H : Type} : List (DataW H) → Nat
  | [] => 0
  | d :: r => uptoBulk d + uptoBulkAll r
def uptoBulkEntries {H : Type} : List (Lit × DataW H) → Nat
  | [] => 0
  | x :: r => uptoBulkEntry x + uptoBulkEntries r
def uptoBulkEntry {H : Type} : Lit × DataW H → Nat
  | (.string bytes, d) => bytes.length + uptoBulk d + 1
  | (_, d) => uptoBulk d + 1
 end
def uptoSmall : (H : Type) → List (DataW H) → Bool := fun _ ds => decide (uptoBulkAll ds ≤ 1048576)
def OpenSpec.upto (s : _root_.Go.ChangeSpec) : _root_.Go.OpenSpec := { _root_.Go.OpenSpec.ofChange s with cond := some uptoSmall }

/-- 'omnibuslaw.SignalRead', WHERE WHAT IT READS IS OF BULK AT MOST 1048576: true; the input reads as it did. -/
def signalReadUptoRow : OpenClaim := { program := "ytdndfbamhnchfaadoor", sum := "e9951cc3f479c263ddb3e56bea09a8f96aca86f01e322810936cfb2bf9e3c67c", func := "omnibus/omnibuslaw.SignalRead", spec := "signalRead", inPlace := ["internal/bytealg.IndexByteString", "internal/bytealg.IndexString"], unfollowed := true, recurses := true, named := ["unicode/utf8.first", "unicode/utf8.acceptRanges", "internal/bytealg.MaxLen"], apart := false, laid := [("unicode/utf8.acceptRanges", laid_unicode_utf8_acceptRanges), ("unicode/utf8.first", laid_unicode_utf8_first)], narrowed := true }
def SignalReadUptoSaid : Prop := signalReadUptoRow.holds Tryd.pinned (OpenSpec.upto signalReadSpec)

/-- 'omnibuslaw.SignalWrite', WHERE WHAT IT READS IS OF BULK AT MOST 1048576: true; the input reads as it did. -/
def signalWriteUptoRow : OpenClaim := { program := "ytdndfbamhnchfaadoor", sum := "e9951cc3f479c263ddb3e56bea09a8f96aca86f01e322810936cfb2bf9e3c67c", func := "omnibus/omnibuslaw.SignalWrite", spec := "signalWrite", inPlace := ["internal/bytealg.IndexByteString", "internal/bytealg.IndexString"], unfollowed := true, recurses := true, named := ["unicode/utf8.first", "unicode/utf8.acceptRanges", "internal/bytealg.MaxLen"], apart := false, laid := [("unicode/utf8.acceptRanges", laid_unicode_utf8_acceptRanges), ("unicode/utf8.first", laid_unicode_utf8_first)], narrowed := true }
def SignalWriteUptoSaid : Prop := signalWriteUptoRow.holds Tryd.pinned (OpenSpec.upto signalWriteSpec)

/-- 'omnibuslaw.SignalPlaces', WHERE WHAT IT READS IS OF BULK AT MOST 1048576: true; the input reads as it did. -/
def signalPlacesUptoRow : OpenClaim := { program := "ytdndfbamhnchfaadoor", sum := "e9951cc3f479c263ddb3e56bea09a8f96aca86f01e322810936cfb2bf9e3c67c", func := "omnibus/omnibuslaw.SignalPlaces", spec := "signalPlaces", inPlace := ["internal/bytealg.IndexByteString", "internal/bytealg.IndexString"], unfollowed := true, recurses := true, named := ["unicode/utf8.first", "unicode/utf8.acceptRanges", "internal/bytealg.MaxLen"], apart := false, laid := [("unicode/utf8.acceptRanges", laid_unicode_utf8_acceptRanges), ("unicode/utf8.first", laid_unicode_utf8_first)], narrowed := true }
def SignalPlacesUptoSaid : Prop := signalPlacesUptoRow.holds Tryd.pinned (OpenSpec.upto signalPlacesSpec)

/-- 'omnibuslaw.MessageCheck', WHERE WHAT IT READS IS OF BULK AT MOST 1048576: true; the input reads as it did. -/
def messageCheckUptoRow : OpenClaim := { program := "ytdndfbamhnchfaadoor", sum := "e9951cc3f479c263ddb3e56bea09a8f96aca86f01e322810936cfb2bf9e3c67c", func := "omnibus/omnibuslaw.MessageCheck", spec := "messageCheck", inPlace := ["internal/bytealg.IndexByteString", "internal/bytealg.IndexString"], unfollowed := true, recurses := true, named := ["unicode/utf8.first", "unicode/utf8.acceptRanges", "internal/bytealg.MaxLen"], apart := false, laid := [("unicode/utf8.acceptRanges", laid_unicode_utf8_acceptRanges), ("unicode/utf8.first", laid_unicode_utf8_first)], narrowed := true }
def MessageCheckUptoSaid : Prop := messageCheckUptoRow.holds Tryd.pinned (OpenSpec.upto messageCheckSpec)

end Rows
end Go.Proofs.YtdndfbamhnchfaaDoor
