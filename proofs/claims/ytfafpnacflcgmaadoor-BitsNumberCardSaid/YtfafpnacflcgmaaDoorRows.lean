/-
  NARROWER THAN 'FOR EVERY INPUT', by the rows' own cells (each row's printed sentence says how): BitsJoin: laid · BitsBack: laid · BitsNumber: laid · BitsBytes: laid · StuffParts: laid · StuffBack: laid · StuffPut: laid · StuffTake: laid · StuffFixed: laid · StuffTurned: laid.
  DERIVED. THE GIVEN ROWS OF THIS SEAT. 10 by the template 'for every input the law returns true; each argument reads behind the call as it read before'; 0 by the template 'total and deterministic' (their statements: YtfafpnacflcgmaaDoorTotals.lean).
  GIVEN WITH THE SEED: the statements are not yours to turn. If you find one false, say at which input.
  Laid BY PROGRAM, IN A SANDBOX (cutbox-rows.mjs): the forced cells as the released guide's own fill.sh prints them over the translation ad0f4093976fc4be… (all of the seat's roots in one cut). By AI agents, Wed Nov 11 2026. No macro, syntax, notation, axiom, sorry.
-/
import Derived.Test.YtfafpnacflcgmaaDoorChecked
import GoSem.PinnedTables
import GoSem.Claim
import GoSem.ClaimJoined
import GoSem.ClaimMapViews
import Derived.JoinedTies
import Derived.KernelRfl
namespace Go.Proofs.YtfafpnacflcgmaaDoor
/- THE CELL 'sum', in the pinned program and in every row, IS THE sha256 OF THE DUMP (.gsa) THAT YtfafpnacflcgmaaDoorProg.lean LOADS. Nothing in Lean hashes anything: it is a label: what it is worth is what the hold of that sum in a sandbox is worth. -/
noncomputable def Tryd.pinned : Pinned := { name := "ytfafpnacflcgmaadoor", sum := "ad0f4093976fc4bead25707c5b17cb43d171104bf7d5e2affc662baa20357acc", checked := Tryd.checked }
namespace Rows
def none {H : Type} : Left H := { results := [], args := [] }

/- WHAT THE LISTED PACKAGE-LEVEL VARIABLES READ AS WHEN THE CALL BEGINS. Each datum BY PROGRAM (the guide's laid-datum.mjs) off the statement by which the dump's own 'gosem.cut.vars' lays the variable. In a bare row this is a premise. The card (YtfafpnacflcgmaaDoorCards.lean) ties it to the program's text. -/
def laid_unicode_utf8_acceptRanges {H : Type} : DataW H := .agg [.agg [.lit (.int .u8 128), .lit (.int .u8 191)], .agg [.lit (.int .u8 160), .lit (.int .u8 191)], .agg [.lit (.int .u8 128), .lit (.int .u8 159)], .agg [.lit (.int .u8 144), .lit (.int .u8 191)], .agg [.lit (.int .u8 128), .lit (.int .u8 143)], .agg [.lit (.int .u8 0), .lit (.int .u8 0)], .agg [.lit (.int .u8 0), .lit (.int .u8 0)], .agg [.lit (.int .u8 0), .lit (.int .u8 0)], .agg [.lit (.int .u8 0), .lit (.int .u8 0)], .agg [.lit (.int .u8 0), .lit (.int .u8 0)], .agg [.lit (.int .u8 0), .lit (.int .u8 0)], .agg [.lit (.int .u8 0), .lit (.int .u8 0)], .agg [.lit (.int .u8 0), .lit (.int .u8 0)], .agg [.lit (.int .u8 0), .lit (.int .u8 0)], .agg [.lit (.int .u8 0), .lit (.int .u8 0)], .agg [.lit (.int .u8 0), .lit (.int .u8 0)]]
/-- One of Go's own tables, pinned by name: the form's constant. -/
def laid_unicode_utf8_first : DataW Unit := Go.Pinned.utf8First
def laid_math_bits_deBruijn32tab {H : Type} : DataW H := .agg [.lit (.int .u8 0), .lit (.int .u8 1), .lit (.int .u8 28), .lit (.int .u8 2), .lit (.int .u8 29), .lit (.int .u8 14), .lit (.int .u8 24), .lit (.int .u8 3), .lit (.int .u8 30), .lit (.int .u8 22), .lit (.int .u8 20), .lit (.int .u8 15), .lit (.int .u8 25), .lit (.int .u8 17), .lit (.int .u8 4), .lit (.int .u8 8), .lit (.int .u8 31), .lit (.int .u8 27), .lit (.int .u8 13), .lit (.int .u8 23), .lit (.int .u8 21), .lit (.int .u8 19), .lit (.int .u8 16), .lit (.int .u8 7), .lit (.int .u8 26), .lit (.int .u8 12), .lit (.int .u8 18), .lit (.int .u8 6), .lit (.int .u8 11), .lit (.int .u8 5), .lit (.int .u8 10), .lit (.int .u8 9)]
def laid_math_bits_deBruijn64tab {H : Type} : DataW H := .agg [.lit (.int .u8 0), .lit (.int .u8 1), .lit (.int .u8 56), .lit (.int .u8 2), .lit (.int .u8 57), .lit (.int .u8 49), .lit (.int .u8 28), .lit (.int .u8 3), .lit (.int .u8 61), .lit (.int .u8 58), .lit (.int .u8 42), .lit (.int .u8 50), .lit (.int .u8 38), .lit (.int .u8 29), .lit (.int .u8 17), .lit (.int .u8 4), .lit (.int .u8 62), .lit (.int .u8 47), .lit (.int .u8 59), .lit (.int .u8 36), .lit (.int .u8 45), .lit (.int .u8 43), .lit (.int .u8 51), .lit (.int .u8 22), .lit (.int .u8 53), .lit (.int .u8 39), .lit (.int .u8 33), .lit (.int .u8 30), .lit (.int .u8 24), .lit (.int .u8 18), .lit (.int .u8 12), .lit (.int .u8 5), .lit (.int .u8 63), .lit (.int .u8 55), .lit (.int .u8 48), .lit (.int .u8 27), .lit (.int .u8 60), .lit (.int .u8 41), .lit (.int .u8 37), .lit (.int .u8 16), .lit (.int .u8 46), .lit (.int .u8 35), .lit (.int .u8 44), .lit (.int .u8 21), .lit (.int .u8 52), .lit (.int .u8 32), .lit (.int .u8 23), .lit (.int .u8 11), .lit (.int .u8 54), .lit (.int .u8 26), .lit (.int .u8 40), .lit (.int .u8 15), .lit (.int .u8 34), .lit (.int .u8 20), .lit (.int .u8 31), .lit (.int .u8 10), .lit (.int .u8 25), .lit (.int .u8 14), .lit (.int .u8 19), .lit (.int .u8 9), .lit (.int .u8 13), .lit (.int .u8 8), .lit (.int .u8 7), .lit (.int .u8 6)]
def laid_internal_strconv_uint64pow10 {H : Type} : DataW H := .agg [.lit (.int .u64 1), .lit (.int .u64 10), .lit (.int .u64 100), .lit (.int .u64 1000), .lit (.int .u64 10000), .lit (.int .u64 100000), .lit (.int .u64 1000000), .lit (.int .u64 10000000), .lit (.int .u64 100000000), .lit (.int .u64 1000000000), .lit (.int .u64 10000000000), .lit (.int .u64 100000000000), .lit (.int .u64 1000000000000), .lit (.int .u64 10000000000000), .lit (.int .u64 100000000000000), .lit (.int .u64 1000000000000000), .lit (.int .u64 10000000000000000), .lit (.int .u64 100000000000000000), .lit (.int .u64 1000000000000000000), .lit (.int .u64 10000000000000000000)]

/-- 'omnibuslaw.BitsJoin': WHATEVER THE INPUT: true; the input reads as it did. -/
def bitsJoinSpec : ChangeSpec := { name := "bitsJoin", fn := fun _ => fun
  | [d1, d2] => { results := [.lit (.bool true)], args := [d1, d2] }
  | _ => none }
def bitsJoinRow : OpenClaim := { program := "ytfafpnacflcgmaadoor", sum := "ad0f4093976fc4bead25707c5b17cb43d171104bf7d5e2affc662baa20357acc", func := "omnibus/omnibuslaw.BitsJoin", spec := "bitsJoin", inPlace := ["internal/bytealg.IndexByteString", "internal/bytealg.IndexString"], named := ["unicode/utf8.first", "unicode/utf8.acceptRanges", "internal/bytealg.MaxLen"], apart := false, laid := [("unicode/utf8.acceptRanges", laid_unicode_utf8_acceptRanges), ("unicode/utf8.first", laid_unicode_utf8_first)] }
def BitsJoinSaid : Prop := bitsJoinRow.holds Tryd.pinned (OpenSpec.ofChange bitsJoinSpec)

/-- ITS FALSE NEIGHBOUR: 'it returns false'. Refute it at one input. -/
def bitsJoinWrong : ChangeSpec := { name := "bitsJoin", fn := fun _ => fun
  | [d1, d2] => { results := [.lit (.bool false)], args := [d1, d2] }
  | _ => none }
def BitsJoinWrongFalsely : Prop := bitsJoinRow.holds Tryd.pinned (OpenSpec.ofChange bitsJoinWrong)

/-- 'omnibuslaw.BitsBack': WHATEVER THE INPUT: true; the input reads as it did. -/
def bitsBackSpec : ChangeSpec := { name := "bitsBack", fn := fun _ => fun
  | [d1, d2, d3, d4] => { results := [.lit (.bool true)], args := [d1, d2, d3, d4] }
  | _ => none }
def bitsBackRow : OpenClaim := { program := "ytfafpnacflcgmaadoor", sum := "ad0f4093976fc4bead25707c5b17cb43d171104bf7d5e2affc662baa20357acc", func := "omnibus/omnibuslaw.BitsBack", spec := "bitsBack", inPlace := ["internal/bytealg.IndexByteString", "internal/bytealg.IndexString", "internal/abi.NoEscape", "internal/bytealg.MakeNoZero"], unfollowed := true, recurses := true, named := ["unicode/utf8.first", "unicode/utf8.acceptRanges", "internal/bytealg.MaxLen"], apart := false, laid := [("unicode/utf8.acceptRanges", laid_unicode_utf8_acceptRanges), ("unicode/utf8.first", laid_unicode_utf8_first)] }
def BitsBackSaid : Prop := bitsBackRow.holds Tryd.pinned (OpenSpec.ofChange bitsBackSpec)

/-- ITS FALSE NEIGHBOUR: 'it returns false'. Refute it at one input. -/
def bitsBackWrong : ChangeSpec := { name := "bitsBack", fn := fun _ => fun
  | [d1, d2, d3, d4] => { results := [.lit (.bool false)], args := [d1, d2, d3, d4] }
  | _ => none }
def BitsBackWrongFalsely : Prop := bitsBackRow.holds Tryd.pinned (OpenSpec.ofChange bitsBackWrong)

/-- 'omnibuslaw.BitsNumber': WHATEVER THE INPUT: true; the input reads as it did. -/
def bitsNumberSpec : ChangeSpec := { name := "bitsNumber", fn := fun _ => fun
  | [d1, d2, d3] => { results := [.lit (.bool true)], args := [d1, d2, d3] }
  | _ => none }
def bitsNumberRow : OpenClaim := { program := "ytfafpnacflcgmaadoor", sum := "ad0f4093976fc4bead25707c5b17cb43d171104bf7d5e2affc662baa20357acc", func := "omnibus/omnibuslaw.BitsNumber", spec := "bitsNumber", inPlace := ["internal/bytealg.IndexByteString", "internal/bytealg.IndexString", "internal/bytealg.CountString", "internal/abi.NoEscape", "internal/bytealg.MakeNoZero"], named := ["unicode/utf8.first", "unicode/utf8.acceptRanges", "internal/bytealg.MaxLen", "internal/strconv.uint64pow10", "math/bits.deBruijn32tab", "math/bits.deBruijn64tab"], apart := false, laid := [("math/bits.deBruijn32tab", laid_math_bits_deBruijn32tab), ("math/bits.deBruijn64tab", laid_math_bits_deBruijn64tab), ("internal/strconv.uint64pow10", laid_internal_strconv_uint64pow10), ("unicode/utf8.acceptRanges", laid_unicode_utf8_acceptRanges), ("unicode/utf8.first", laid_unicode_utf8_first)] }
def BitsNumberSaid : Prop := bitsNumberRow.holds Tryd.pinned (OpenSpec.ofChange bitsNumberSpec)

/-- ITS FALSE NEIGHBOUR: 'it returns false'. Refute it at one input. -/
def bitsNumberWrong : ChangeSpec := { name := "bitsNumber", fn := fun _ => fun
  | [d1, d2, d3] => { results := [.lit (.bool false)], args := [d1, d2, d3] }
  | _ => none }
def BitsNumberWrongFalsely : Prop := bitsNumberRow.holds Tryd.pinned (OpenSpec.ofChange bitsNumberWrong)

/-- 'omnibuslaw.BitsBytes': WHATEVER THE INPUT: true; the input reads as it did. -/
def bitsBytesSpec : ChangeSpec := { name := "bitsBytes", fn := fun _ => fun
  | [d1, d2] => { results := [.lit (.bool true)], args := [d1, d2] }
  | _ => none }
def bitsBytesRow : OpenClaim := { program := "ytfafpnacflcgmaadoor", sum := "ad0f4093976fc4bead25707c5b17cb43d171104bf7d5e2affc662baa20357acc", func := "omnibus/omnibuslaw.BitsBytes", spec := "bitsBytes", inPlace := ["internal/abi.NoEscape", "internal/bytealg.IndexByteString", "internal/bytealg.IndexString", "internal/bytealg.MakeNoZero", "internal/bytealg.CountString"], named := ["unicode/utf8.first", "unicode/utf8.acceptRanges", "internal/strconv.uint64pow10", "math/bits.deBruijn32tab", "math/bits.deBruijn64tab", "internal/bytealg.MaxLen"], apart := false, laid := [("math/bits.deBruijn32tab", laid_math_bits_deBruijn32tab), ("math/bits.deBruijn64tab", laid_math_bits_deBruijn64tab), ("internal/strconv.uint64pow10", laid_internal_strconv_uint64pow10), ("unicode/utf8.acceptRanges", laid_unicode_utf8_acceptRanges), ("unicode/utf8.first", laid_unicode_utf8_first)] }
def BitsBytesSaid : Prop := bitsBytesRow.holds Tryd.pinned (OpenSpec.ofChange bitsBytesSpec)

/-- ITS FALSE NEIGHBOUR: 'it returns false'. Refute it at one input. -/
def bitsBytesWrong : ChangeSpec := { name := "bitsBytes", fn := fun _ => fun
  | [d1, d2] => { results := [.lit (.bool false)], args := [d1, d2] }
  | _ => none }
def BitsBytesWrongFalsely : Prop := bitsBytesRow.holds Tryd.pinned (OpenSpec.ofChange bitsBytesWrong)

/-- 'omnibuslaw.StuffParts': WHATEVER THE INPUT: true; the input reads as it did. -/
def stuffPartsSpec : ChangeSpec := { name := "stuffParts", fn := fun _ => fun
  | [d1, d2, d3] => { results := [.lit (.bool true)], args := [d1, d2, d3] }
  | _ => none }
def stuffPartsRow : OpenClaim := { program := "ytfafpnacflcgmaadoor", sum := "ad0f4093976fc4bead25707c5b17cb43d171104bf7d5e2affc662baa20357acc", func := "omnibus/omnibuslaw.StuffParts", spec := "stuffParts", inPlace := ["internal/bytealg.IndexByteString", "internal/bytealg.IndexString"], named := ["unicode/utf8.first", "unicode/utf8.acceptRanges", "internal/bytealg.MaxLen"], apart := false, laid := [("unicode/utf8.acceptRanges", laid_unicode_utf8_acceptRanges), ("unicode/utf8.first", laid_unicode_utf8_first)] }
def StuffPartsSaid : Prop := stuffPartsRow.holds Tryd.pinned (OpenSpec.ofChange stuffPartsSpec)

/-- ITS FALSE NEIGHBOUR: 'it returns false'. Refute it at one input. -/
def stuffPartsWrong : ChangeSpec := { name := "stuffParts", fn := fun _ => fun
  | [d1, d2, d3] => { results := [.lit (.bool false)], args := [d1, d2, d3] }
  | _ => none }
def StuffPartsWrongFalsely : Prop := stuffPartsRow.holds Tryd.pinned (OpenSpec.ofChange stuffPartsWrong)

/-- 'omnibuslaw.StuffBack': WHATEVER THE INPUT: true; the input reads as it did. -/
def stuffBackSpec : ChangeSpec := { name := "stuffBack", fn := fun _ => fun
  | [d1, d2] => { results := [.lit (.bool true)], args := [d1, d2] }
  | _ => none }
def stuffBackRow : OpenClaim := { program := "ytfafpnacflcgmaadoor", sum := "ad0f4093976fc4bead25707c5b17cb43d171104bf7d5e2affc662baa20357acc", func := "omnibus/omnibuslaw.StuffBack", spec := "stuffBack", inPlace := ["internal/bytealg.IndexByteString", "internal/bytealg.IndexString"], named := ["unicode/utf8.first", "unicode/utf8.acceptRanges", "internal/bytealg.MaxLen"], apart := false, laid := [("unicode/utf8.acceptRanges", laid_unicode_utf8_acceptRanges), ("unicode/utf8.first", laid_unicode_utf8_first)] }
def StuffBackSaid : Prop := stuffBackRow.holds Tryd.pinned (OpenSpec.ofChange stuffBackSpec)

/-- ITS FALSE NEIGHBOUR: 'it returns false'. Refute it at one input. -/
def stuffBackWrong : ChangeSpec := { name := "stuffBack", fn := fun _ => fun
  | [d1, d2] => { results := [.lit (.bool false)], args := [d1, d2] }
  | _ => none }
def StuffBackWrongFalsely : Prop := stuffBackRow.holds Tryd.pinned (OpenSpec.ofChange stuffBackWrong)

/-- 'omnibuslaw.StuffPut': WHATEVER THE INPUT: true; the input reads as it did. -/
def stuffPutSpec : ChangeSpec := { name := "stuffPut", fn := fun _ => fun
  | [d] => { results := [.lit (.bool true)], args := [d] }
  | _ => none }
def stuffPutRow : OpenClaim := { program := "ytfafpnacflcgmaadoor", sum := "ad0f4093976fc4bead25707c5b17cb43d171104bf7d5e2affc662baa20357acc", func := "omnibus/omnibuslaw.StuffPut", spec := "stuffPut", inPlace := ["internal/bytealg.IndexByteString", "internal/bytealg.IndexString", "internal/bytealg.CountString"], named := ["unicode/utf8.first", "unicode/utf8.acceptRanges", "internal/bytealg.MaxLen"], apart := false, laid := [("unicode/utf8.acceptRanges", laid_unicode_utf8_acceptRanges), ("unicode/utf8.first", laid_unicode_utf8_first)] }
def StuffPutSaid : Prop := stuffPutRow.holds Tryd.pinned (OpenSpec.ofChange stuffPutSpec)

/-- ITS FALSE NEIGHBOUR: 'it returns false'. Refute it at one input. -/
def stuffPutWrong : ChangeSpec := { name := "stuffPut", fn := fun _ => fun
  | [d] => { results := [.lit (.bool false)], args := [d] }
  | _ => none }
def StuffPutWrongFalsely : Prop := stuffPutRow.holds Tryd.pinned (OpenSpec.ofChange stuffPutWrong)

/-- 'omnibuslaw.StuffTake': WHATEVER THE INPUT: true; the input reads as it did. -/
def stuffTakeSpec : ChangeSpec := { name := "stuffTake", fn := fun _ => fun
  | [d1, d2] => { results := [.lit (.bool true)], args := [d1, d2] }
  | _ => none }
def stuffTakeRow : OpenClaim := { program := "ytfafpnacflcgmaadoor", sum := "ad0f4093976fc4bead25707c5b17cb43d171104bf7d5e2affc662baa20357acc", func := "omnibus/omnibuslaw.StuffTake", spec := "stuffTake", inPlace := ["internal/bytealg.IndexByteString", "internal/bytealg.IndexString", "internal/bytealg.CountString"], named := ["unicode/utf8.first", "unicode/utf8.acceptRanges", "internal/bytealg.MaxLen"], apart := false, laid := [("unicode/utf8.acceptRanges", laid_unicode_utf8_acceptRanges), ("unicode/utf8.first", laid_unicode_utf8_first)] }
def StuffTakeSaid : Prop := stuffTakeRow.holds Tryd.pinned (OpenSpec.ofChange stuffTakeSpec)

/-- ITS FALSE NEIGHBOUR: 'it returns false'. Refute it at one input. -/
def stuffTakeWrong : ChangeSpec := { name := "stuffTake", fn := fun _ => fun
  | [d1, d2] => { results := [.lit (.bool false)], args := [d1, d2] }
  | _ => none }
def StuffTakeWrongFalsely : Prop := stuffTakeRow.holds Tryd.pinned (OpenSpec.ofChange stuffTakeWrong)

/-- 'omnibuslaw.StuffFixed': WHATEVER THE INPUT: true; the input reads as it did. -/
def stuffFixedSpec : ChangeSpec := { name := "stuffFixed", fn := fun _ => fun
  | [d1, d2, d3] => { results := [.lit (.bool true)], args := [d1, d2, d3] }
  | _ => none }
def stuffFixedRow : OpenClaim := { program := "ytfafpnacflcgmaadoor", sum := "ad0f4093976fc4bead25707c5b17cb43d171104bf7d5e2affc662baa20357acc", func := "omnibus/omnibuslaw.StuffFixed", spec := "stuffFixed", inPlace := ["internal/bytealg.IndexByteString", "internal/bytealg.IndexString", "internal/bytealg.CountString"], named := ["unicode/utf8.first", "unicode/utf8.acceptRanges", "internal/bytealg.MaxLen"], apart := false, laid := [("unicode/utf8.acceptRanges", laid_unicode_utf8_acceptRanges), ("unicode/utf8.first", laid_unicode_utf8_first)] }
def StuffFixedSaid : Prop := stuffFixedRow.holds Tryd.pinned (OpenSpec.ofChange stuffFixedSpec)

/-- ITS FALSE NEIGHBOUR: 'it returns false'. Refute it at one input. -/
def stuffFixedWrong : ChangeSpec := { name := "stuffFixed", fn := fun _ => fun
  | [d1, d2, d3] => { results := [.lit (.bool false)], args := [d1, d2, d3] }
  | _ => none }
def StuffFixedWrongFalsely : Prop := stuffFixedRow.holds Tryd.pinned (OpenSpec.ofChange stuffFixedWrong)

/-- 'omnibuslaw.StuffTurned': WHATEVER THE INPUT: true; the input reads as it did. -/
def stuffTurnedSpec : ChangeSpec := { name := "stuffTurned", fn := fun _ => fun
  | [d] => { results := [.lit (.bool true)], args := [d] }
  | _ => none }
def stuffTurnedRow : OpenClaim := { program := "ytfafpnacflcgmaadoor", sum := "ad0f4093976fc4bead25707c5b17cb43d171104bf7d5e2affc662baa20357acc", func := "omnibus/omnibuslaw.StuffTurned", spec := "stuffTurned", inPlace := ["internal/bytealg.IndexByteString", "internal/bytealg.IndexString", "internal/abi.NoEscape", "internal/bytealg.MakeNoZero"], unfollowed := true, recurses := true, named := ["unicode/utf8.first", "unicode/utf8.acceptRanges", "internal/bytealg.MaxLen"], apart := false, laid := [("unicode/utf8.acceptRanges", laid_unicode_utf8_acceptRanges), ("unicode/utf8.first", laid_unicode_utf8_first)] }
def StuffTurnedSaid : Prop := stuffTurnedRow.holds Tryd.pinned (OpenSpec.ofChange stuffTurnedSpec)

/-- ITS FALSE NEIGHBOUR: 'it returns false'. Refute it at one input. -/
def stuffTurnedWrong : ChangeSpec := { name := "stuffTurned", fn := fun _ => fun
  | [d] => { results := [.lit (.bool false)], args := [d] }
  | _ => none }
def StuffTurnedWrongFalsely : Prop := stuffTurnedRow.holds Tryd.pinned (OpenSpec.ofChange stuffTurnedWrong)

/- THE SECOND FORM. 'bulk': how many values and letters a reading holds, each counted each time it is reached (what is shared counts as often as it is met; a slice's spare places count too). A statement '..UptoSaid' is the law's where the arguments, and the package variables that the reading takes, are together of bulk at most 1048576: NARROWER than '..Said'. Prove '..Said' where nothing that the law and all that it calls make is longer than what came in: it says more and counts as full. Else prove '..UptoSaid'. A law counts once. -/
mutual
def uptoBulk {H : Type} : DataW H → Nat
  | .lit (.string bytes) => bytes.length + 1
  | .lit _ => 1
  | .nil => 1
  | .ptr d => uptoBulk d + 1
  | .slice elems spare => uptoBulkAll elems + uptoBulkAll spare + 1
  | .agg parts => uptoBulkAll parts + 1
  | .iface _ d => uptoBulk d + 1
  | .map entries => uptoBulkEntries entries + 1
  | .held _ => 1
def uptoBulkAll {H : Type} : List (DataW H) → Nat
  | [] => 0
  | d :: r => uptoBulk d + uptoBulkAll r
def uptoBulkEntries {H : Type} : List (Lit × DataW H) → Nat
  | [] => 0
  | x :: r => uptoBulkEntry x + uptoBulkEntries r
def uptoBulkEntry {H : Type} : Lit × DataW H → Nat
  | (.string bytes, d) => bytes.length + uptoBulk d + 1
  | (_, d) => uptoBulk d + 1
 end
def uptoSmall : (H : Type) → List (DataW H) → Bool := fun _ ds => decide (uptoBulkAll ds ≤ 1048576)
def OpenSpec.upto (s : _root_.Go.ChangeSpec) : _root_.Go.OpenSpec := { _root_.Go.OpenSpec.ofChange s with cond := some uptoSmall }

/-- 'omnibuslaw.BitsJoin', WHERE WHAT IT READS IS OF BULK AT MOST 1048576: true; the input reads as it did. -/
def bitsJoinUptoRow : OpenClaim := { program := "ytfafpnacflcgmaadoor", sum := "ad0f4093976fc4bead25707c5b17cb43d171104bf7d5e2affc662baa20357acc", func := "omnibus/omnibuslaw.BitsJoin", spec := "bitsJoin", inPlace := ["internal/bytealg.IndexByteString", "internal/bytealg.IndexString"], named := ["unicode/utf8.first", "unicode/utf8.acceptRanges", "internal/bytealg.MaxLen"], apart := false, laid := [("unicode/utf8.acceptRanges", laid_unicode_utf8_acceptRanges), ("unicode/utf8.first", laid_unicode_utf8_first)], narrowed := true }
def BitsJoinUptoSaid : Prop := bitsJoinUptoRow.holds Tryd.pinned (OpenSpec.upto bitsJoinSpec)

/-- 'omnibuslaw.BitsBack', WHERE WHAT IT READS IS OF BULK AT MOST 1048576: true; the input reads as it did. -/
def bitsBackUptoRow : OpenClaim := { program := "ytfafpnacflcgmaadoor", sum := "ad0f4093976fc4bead25707c5b17cb43d171104bf7d5e2affc662baa20357acc", func := "omnibus/omnibuslaw.BitsBack", spec := "bitsBack", inPlace := ["internal/bytealg.IndexByteString", "internal/bytealg.IndexString", "internal/abi.NoEscape", "internal/bytealg.MakeNoZero"], unfollowed := true, recurses := true, named := ["unicode/utf8.first", "unicode/utf8.acceptRanges", "internal/bytealg.MaxLen"], apart := false, laid := [("unicode/utf8.acceptRanges", laid_unicode_utf8_acceptRanges), ("unicode/utf8.first", laid_unicode_utf8_first)], narrowed := true }
def BitsBackUptoSaid : Prop := bitsBackUptoRow.holds Tryd.pinned (OpenSpec.upto bitsBackSpec)

/-- 'omnibuslaw.BitsNumber', WHERE WHAT IT READS IS OF BULK AT MOST 1048576: true; the input reads as it did. -/
def bitsNumberUptoRow : OpenClaim := { program := "ytfafpnacflcgmaadoor", sum := "ad0f4093976fc4bead25707c5b17cb43d171104bf7d5e2affc662baa20357acc", func := "omnibus/omnibuslaw.BitsNumber", spec := "bitsNumber", inPlace := ["internal/bytealg.IndexByteString", "internal/bytealg.IndexString", "internal/bytealg.CountString", "internal/abi.NoEscape", "internal/bytealg.MakeNoZero"], named := ["unicode/utf8.first", "unicode/utf8.acceptRanges", "internal/bytealg.MaxLen", "internal/strconv.uint64pow10", "math/bits.deBruijn32tab", "math/bits.deBruijn64tab"], apart := false, laid := [("math/bits.deBruijn32tab", laid_math_bits_deBruijn32tab), ("math/bits.deBruijn64tab", laid_math_bits_deBruijn64tab), ("internal/strconv.uint64pow10", laid_internal_strconv_uint64pow10), ("unicode/utf8.acceptRanges", laid_unicode_utf8_acceptRanges), ("unicode/utf8.first", laid_unicode_utf8_first)], narrowed := true }
def BitsNumberUptoSaid : Prop := bitsNumberUptoRow.holds Tryd.pinned (OpenSpec.upto bitsNumberSpec)

/-- 'omnibuslaw.BitsBytes', WHERE WHAT IT READS IS OF BULK AT MOST 1048576: true; the input reads as it did. -/
def bitsBytesUptoRow : OpenClaim := { program := "ytfafpnacflcgmaadoor", sum := "ad0f4093976fc4bead25707c5b17cb43d171104bf7d5e2affc662baa20357acc", func := "omnibus/omnibuslaw.BitsBytes", spec := "bitsBytes", inPlace := ["internal/abi.NoEscape", "internal/bytealg.IndexByteString", "internal/bytealg.IndexString", "internal/bytealg.MakeNoZero", "internal/bytealg.CountString"], named := ["unicode/utf8.first", "unicode/utf8.acceptRanges", "internal/strconv.uint64pow10", "math/bits.deBruijn32tab", "math/bits.deBruijn64tab", "internal/bytealg.MaxLen"], apart := false, laid := [("math/bits.deBruijn32tab", laid_math_bits_deBruijn32tab), ("math/bits.deBruijn64tab", laid_math_bits_deBruijn64tab), ("internal/strconv.uint64pow10", laid_internal_strconv_uint64pow10), ("unicode/utf8.acceptRanges", laid_unicode_utf8_acceptRanges), ("unicode/utf8.first", laid_unicode_utf8_first)], narrowed := true }
def BitsBytesUptoSaid : Prop := bitsBytesUptoRow.holds Tryd.pinned (OpenSpec.upto bitsBytesSpec)

/-- 'omnibuslaw.StuffParts', WHERE WHAT IT READS IS OF BULK AT MOST 1048576: true; the input reads as it did. -/
def stuffPartsUptoRow : OpenClaim := { program := "ytfafpnacflcgmaadoor", sum := "ad0f4093976fc4bead25707c5b17cb43d171104bf7d5e2affc662baa20357acc", func := "omnibus/omnibuslaw.StuffParts", spec := "stuffParts", inPlace := ["internal/bytealg.IndexByteString", "internal/bytealg.IndexString"], named := ["unicode/utf8.first", "unicode/utf8.acceptRanges", "internal/bytealg.MaxLen"], apart := false, laid := [("unicode/utf8.acceptRanges", laid_unicode_utf8_acceptRanges), ("unicode/utf8.first", laid_unicode_utf8_first)], narrowed := true }
def StuffPartsUptoSaid : Prop := stuffPartsUptoRow.holds Tryd.pinned (OpenSpec.upto stuffPartsSpec)

/-- 'omnibuslaw.StuffBack', WHERE WHAT IT READS IS OF BULK AT MOST 1048576: true; the input reads as it did. -/
def stuffBackUptoRow : OpenClaim := { program := "ytfafpnacflcgmaadoor", sum := "ad0f4093976fc4bead25707c5b17cb43d171104bf7d5e2affc662baa20357acc", func := "omnibus/omnibuslaw.StuffBack", spec := "stuffBack", inPlace := ["internal/bytealg.IndexByteString", "internal/bytealg.IndexString"], named := ["unicode/utf8.first", "unicode/utf8.acceptRanges", "internal/bytealg.MaxLen"], apart := false, laid := [("unicode/utf8.acceptRanges", laid_unicode_utf8_acceptRanges), ("unicode/utf8.first", laid_unicode_utf8_first)], narrowed := true }
def StuffBackUptoSaid : Prop := stuffBackUptoRow.holds Tryd.pinned (OpenSpec.upto stuffBackSpec)

/-- 'omnibuslaw.StuffPut', WHERE WHAT IT READS IS OF BULK AT MOST 1048576: true; the input reads as it did. -/
def stuffPutUptoRow : OpenClaim := { program := "ytfafpnacflcgmaadoor", sum := "ad0f4093976fc4bead25707c5b17cb43d171104bf7d5e2affc662baa20357acc", func := "omnibus/omnibuslaw.StuffPut", spec := "stuffPut", inPlace := ["internal/bytealg.IndexByteString", "internal/bytealg.IndexString", "internal/bytealg.CountString"], named := ["unicode/utf8.first", "unicode/utf8.acceptRanges", "internal/bytealg.MaxLen"], apart := false, laid := [("unicode/utf8.acceptRanges", laid_unicode_utf8_acceptRanges), ("unicode/utf8.first", laid_unicode_utf8_first)], narrowed := true }
def StuffPutUptoSaid : Prop := stuffPutUptoRow.holds Tryd.pinned (OpenSpec.upto stuffPutSpec)

/-- 'omnibuslaw.StuffTake', WHERE WHAT IT READS IS OF BULK AT MOST 1048576: true; the input reads as it did. -/
def stuffTakeUptoRow : OpenClaim := { program := "ytfafpnacflcgmaadoor", sum := "ad0f4093976fc4bead25707c5b17cb43d171104bf7d5e2affc662baa20357acc", func := "omnibus/omnibuslaw.StuffTake", spec := "stuffTake", inPlace := ["internal/bytealg.IndexByteString", "internal/bytealg.IndexString", "internal/bytealg.CountString"], named := ["unicode/utf8.first", "unicode/utf8.acceptRanges", "internal/bytealg.MaxLen"], apart := false, laid := [("unicode/utf8.acceptRanges", laid_unicode_utf8_acceptRanges), ("unicode/utf8.first", laid_unicode_utf8_first)], narrowed := true }
def StuffTakeUptoSaid : Prop := stuffTakeUptoRow.holds Tryd.pinned (OpenSpec.upto stuffTakeSpec)

/-- 'omnibuslaw.StuffFixed', WHERE WHAT IT READS IS OF BULK AT MOST 1048576: true; the input reads as it did. -/
def stuffFixedUptoRow : OpenClaim := { program := "ytfafpnacflcgmaadoor", sum := "ad0f4093976fc4bead25707c5b17cb43d171104bf7d5e2affc662baa20357acc", func := "omnibus/omnibuslaw.StuffFixed", spec := "stuffFixed", inPlace := ["internal/bytealg.IndexByteString", "internal/bytealg.IndexString", "internal/bytealg.CountString"], named := ["unicode/utf8.first", "unicode/utf8.acceptRanges", "internal/bytealg.MaxLen"], apart := false, laid := [("unicode/utf8.acceptRanges", laid_unicode_utf8_acceptRanges), ("unicode/utf8.first", laid_unicode_utf8_first)], narrowed := true }
def StuffFixedUptoSaid : Prop := stuffFixedUptoRow.holds Tryd.pinned (OpenSpec.upto stuffFixedSpec)

/-- 'omnibuslaw.StuffTurned', WHERE WHAT IT READS IS OF BULK AT MOST 1048576: true; the input reads as it did. -/
def stuffTurnedUptoRow : OpenClaim := { program := "ytfafpnacflcgmaadoor", sum := "ad0f4093976fc4bead25707c5b17cb43d171104bf7d5e2affc662baa20357acc", func := "omnibus/omnibuslaw.StuffTurned", spec := "stuffTurned", inPlace := ["internal/bytealg.IndexByteString", "internal/bytealg.IndexString", "internal/abi.NoEscape", "internal/bytealg.MakeNoZero"], unfollowed := true, recurses := true, named := ["unicode/utf8.first", "unicode/utf8.acceptRanges", "internal/bytealg.MaxLen"], apart := false, laid := [("unicode/utf8.acceptRanges", laid_unicode_utf8_acceptRanges), ("unicode/utf8.first", laid_unicode_utf8_first)], narrowed := true }
def StuffTurnedUptoSaid : Prop := stuffTurnedUptoRow.holds Tryd.pinned (OpenSpec.upto stuffTurnedSpec)

end Rows
end Go.Proofs.YtfafpnacflcgmaaDoor
