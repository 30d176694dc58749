/-
  No cell of these rows narrows 'for every input' (looked for: loops, veiled, ifaces, maps, wideKeys, modest, calm, conditions, laid).
  DERIVED. THE GIVEN ROWS OF THIS SEAT. 4 by the template 'for every input the law returns true; each argument reads behind the call as it read before'; 0 by the template 'total and deterministic' (their statements: YtdndfbamhnchfaaTotals.lean).
  GIVEN WITH THE SEED: the statements are not yours to turn. If you find one false, say at which input.
  Laid BY PROGRAM, IN A SANDBOX (cutbox-rows.mjs): the forced cells as the released guide's own fill.sh prints them over the translation 25e7bc79ed121de5… (all of the seat's roots in one cut). By AI agents, Wed Nov 11 2026. No macro, syntax, notation, axiom, sorry.
-/
import Derived.Test.YtdndfbamhnchfaaChecked
import GoSem.Claim
import GoSem.ClaimJoined
import GoSem.ClaimMapViews
import Derived.JoinedTies
import Derived.KernelRfl
namespace Go.Proofs.Ytdndfbamhnchfaa
/- THE CELL 'sum', in the pinned program and in every row, IS THE sha256 OF THE DUMP (.gsa) THAT YtdndfbamhnchfaaProg.lean LOADS. Nothing in Lean hashes anything: it is a label: what it is worth is what the hold of that sum in a sandbox is worth. -/
noncomputable def Try.pinned : Pinned := { name := "ytdndfbamhnchfaa", sum := "25e7bc79ed121de5b1d0e053d4cc64e8a20275f5f9804a8e6952d2200c669caa", checked := Try.checked }
namespace Rows
def none {H : Type} : Left H := { results := [], args := [] }

/-- 'omnibuslaw.SignalBack': WHATEVER THE INPUT: true; the input reads as it did. -/
def signalBackSpec : ChangeSpec := { name := "signalBack", fn := fun _ => fun
  | [d1, d2, d3, d4] => { results := [.lit (.bool true)], args := [d1, d2, d3, d4] }
  | _ => none }
def signalBackRow : OpenClaim := { program := "ytdndfbamhnchfaa", sum := "25e7bc79ed121de5b1d0e053d4cc64e8a20275f5f9804a8e6952d2200c669caa", func := "omnibus/omnibuslaw.SignalBack", spec := "signalBack", recurses := true, apart := false }
def SignalBackSaid : Prop := signalBackRow.holds Try.pinned (OpenSpec.ofChange signalBackSpec)

/-- ITS FALSE NEIGHBOUR: 'it returns false'. Refute it at one input. -/
def signalBackWrong : ChangeSpec := { name := "signalBack", fn := fun _ => fun
  | [d1, d2, d3, d4] => { results := [.lit (.bool false)], args := [d1, d2, d3, d4] }
  | _ => none }
def SignalBackWrongFalsely : Prop := signalBackRow.holds Try.pinned (OpenSpec.ofChange signalBackWrong)

/-- 'omnibuslaw.SignalApart': WHATEVER THE INPUT: true; the input reads as it did. -/
def signalApartSpec : ChangeSpec := { name := "signalApart", fn := fun _ => fun
  | [d1, d2, d3, d4, d5] => { results := [.lit (.bool true)], args := [d1, d2, d3, d4, d5] }
  | _ => none }
def signalApartRow : OpenClaim := { program := "ytdndfbamhnchfaa", sum := "25e7bc79ed121de5b1d0e053d4cc64e8a20275f5f9804a8e6952d2200c669caa", func := "omnibus/omnibuslaw.SignalApart", spec := "signalApart", recurses := true, apart := false }
def SignalApartSaid : Prop := signalApartRow.holds Try.pinned (OpenSpec.ofChange signalApartSpec)

/-- ITS FALSE NEIGHBOUR: 'it returns false'. Refute it at one input. -/
def signalApartWrong : ChangeSpec := { name := "signalApart", fn := fun _ => fun
  | [d1, d2, d3, d4, d5] => { results := [.lit (.bool false)], args := [d1, d2, d3, d4, d5] }
  | _ => none }
def SignalApartWrongFalsely : Prop := signalApartRow.holds Try.pinned (OpenSpec.ofChange signalApartWrong)

/-- 'omnibuslaw.MessageBack': WHATEVER THE INPUT: true; the input reads as it did. -/
def messageBackSpec : ChangeSpec := { name := "messageBack", fn := fun _ => fun
  | [d1, d2] => { results := [.lit (.bool true)], args := [d1, d2] }
  | _ => none }
def messageBackRow : OpenClaim := { program := "ytdndfbamhnchfaa", sum := "25e7bc79ed121de5b1d0e053d4cc64e8a20275f5f9804a8e6952d2200c669caa", func := "omnibus/omnibuslaw.MessageBack", spec := "messageBack", unfollowed := true, recurses := true, apart := false }
def MessageBackSaid : Prop := messageBackRow.holds Try.pinned (OpenSpec.ofChange messageBackSpec)

/-- ITS FALSE NEIGHBOUR: 'it returns false'. Refute it at one input. -/
def messageBackWrong : ChangeSpec := { name := "messageBack", fn := fun _ => fun
  | [d1, d2] => { results := [.lit (.bool false)], args := [d1, d2] }
  | _ => none }
def MessageBackWrongFalsely : Prop := messageBackRow.holds Try.pinned (OpenSpec.ofChange messageBackWrong)

/-- 'omnibuslaw.MessageFound': WHATEVER THE INPUT: true; the input reads as it did. -/
def messageFoundSpec : ChangeSpec := { name := "messageFound", fn := fun _ => fun
  | [d1, d2] => { results := [.lit (.bool true)], args := [d1, d2] }
  | _ => none }
def messageFoundRow : OpenClaim := { program := "ytdndfbamhnchfaa", sum := "25e7bc79ed121de5b1d0e053d4cc64e8a20275f5f9804a8e6952d2200c669caa", func := "omnibus/omnibuslaw.MessageFound", spec := "messageFound", unfollowed := true, recurses := true, apart := false }
def MessageFoundSaid : Prop := messageFoundRow.holds Try.pinned (OpenSpec.ofChange messageFoundSpec)

/-- ITS FALSE NEIGHBOUR: 'it returns false'. Refute it at one input. -/
def messageFoundWrong : ChangeSpec := { name := "messageFound", fn := fun _ => fun
  | [d1, d2] => { results := [.lit (.bool false)], args := [d1, d2] }
  | _ => none }
def MessageFoundWrongFalsely : Prop := messageFoundRow.holds Try.pinned (OpenSpec.ofChange messageFoundWrong)

/- THE SECOND FORM. 'bulk': how many values and letters a reading holds, each counted each time it is reached (what is shared counts as often as it is met; a slice's spare places count too). A statement '..UptoSaid' is the law's where the arguments, and the package variables that the reading takes, are together of bulk at most 1048576: NARROWER than '..Said'. Prove '..Said' where nothing that the law and all that it calls make is longer than what came in: it says more and counts as full. Else prove '..UptoSaid'. A law counts once. -/
mutual
def uptoBulk {H : Type} : DataW H → Nat
  | .lit (.string bytes) => bytes.length + 1
  | .lit _ => 1
  | .nil => 1
  | .ptr d => uptoBulk d + 1
  | .slice elems spare => uptoBulkAll elems + uptoBulkAll spare + 1
  | .agg parts => uptoBulkAll parts + 1
  | .iface _ d => uptoBulk d + 1
  | .map entries => uptoBulkEntries entries + 1
  | .held _ => 1
def uptoBulkAll {H : Type} : List (DataW H) → Nat
  | [] => 0
  | d :: r => uptoBulk d + uptoBulkAll r
def uptoBulkEntries {H : Type} : List (Lit × DataW H) → Nat
  | [] => 0
  | x :: r => uptoBulkEntry x + uptoBulkEntries r
def uptoBulkEntry {H : Type} : Lit × DataW H → Nat
  | (.string bytes, d) => bytes.length + uptoBulk d + 1
  | (_, d) => uptoBulk d + 1
 end
def uptoSmall : (H : Type) → List (DataW H) → Bool := fun _ ds => decide (uptoBulkAll ds ≤ 1048576)
def OpenSpec.upto (s : _root_.Go.ChangeSpec) : _root_.Go.OpenSpec := { _root_.Go.OpenSpec.ofChange s with cond := some uptoSmall }

/-- 'omnibuslaw.SignalBack', WHERE WHAT IT READS IS OF BULK AT MOST 1048576: true; the input reads as it did. -/
def signalBackUptoRow : OpenClaim := { program := "ytdndfbamhnchfaa", sum := "25e7bc79ed121de5b1d0e053d4cc64e8a20275f5f9804a8e6952d2200c669caa", func := "omnibus/omnibuslaw.SignalBack", spec := "signalBack", recurses := true, apart := false, narrowed := true }
def SignalBackUptoSaid : Prop := signalBackUptoRow.holds Try.pinned (OpenSpec.upto signalBackSpec)

/-- 'omnibuslaw.SignalApart', WHERE WHAT IT READS IS OF BULK AT MOST 1048576: true; the input reads as it did. -/
def signalApartUptoRow : OpenClaim := { program := "ytdndfbamhnchfaa", sum := "25e7bc79ed121de5b1d0e053d4cc64e8a20275f5f9804a8e6952d2200c669caa", func := "omnibus/omnibuslaw.SignalApart", spec := "signalApart", recurses := true, apart := false, narrowed := true }
def SignalApartUptoSaid : Prop := signalApartUptoRow.holds Try.pinned (OpenSpec.upto signalApartSpec)

/-- 'omnibuslaw.MessageBack', WHERE WHAT IT READS IS OF BULK AT MOST 1048576: true; the input reads as it did. -/
def messageBackUptoRow : OpenClaim := { program := "ytdndfbamhnchfaa", sum := "25e7bc79ed121de5b1d0e053d4cc64e8a20275f5f9804a8e6952d2200c669caa", func := "omnibus/omnibuslaw.MessageBack", spec := "messageBack", unfollowed := true, recurses := true, apart := false, narrowed := true }
def MessageBackUptoSaid : Prop := messageBackUptoRow.holds Try.pinned (OpenSpec.upto messageBackSpec)

/-- 'omnibuslaw.MessageFound', WHERE WHAT IT READS IS OF BULK AT MOST 1048576: true; the input reads as it did. -/
def messageFoundUptoRow : OpenClaim := { program := "ytdndfbamhnchfaa", sum := "25e7bc79ed121de5b1d0e053d4cc64e8a20275f5f9804a8e6952d2200c669caa", func := "omnibus/omnibuslaw.MessageFound", spec := "messageFound", unfollowed := true, recurses := true, apart := false, narrowed := true }
def MessageFoundUptoSaid : Prop := messageFoundUptoRow.holds Try.pinned (OpenSpec.upto messageFoundSpec)

end Rows
end Go.Proofs.Ytdndfbamhnchfaa
