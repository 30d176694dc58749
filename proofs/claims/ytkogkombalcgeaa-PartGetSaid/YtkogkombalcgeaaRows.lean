/-
  No cell of these rows narrows 'for every input' (looked for: loops, veiled, ifaces, maps, wideKeys, modest, calm, conditions, laid).
  DERIVED. THE GIVEN ROWS OF THIS SEAT. 12 by the template 'for every input the law returns true; each argument reads behind the call as it read before'; 0 by the template 'total and deterministic' (their statements: YtkogkombalcgeaaTotals.lean).
  GIVEN WITH THE SEED: the statements are not yours to turn. If you find one false, say at which input.
  Laid BY PROGRAM, IN A SANDBOX (cutbox-rows.mjs): the forced cells as the released guide's own fill.sh prints them over the translation ecb528c5c4187097… (all of the seat's roots in one cut). By AI agents, Wed Nov 11 2026. No macro, syntax, notation, axiom, sorry.
-/
import Derived.Test.YtkogkombalcgeaaChecked
import GoSem.Claim
import GoSem.ClaimJoined
import GoSem.ClaimMapViews
import Derived.JoinedTies
import Derived.KernelRfl
namespace Go.Proofs.Ytkogkombalcgeaa
/- THE CELL 'sum', in the pinned program and in every row, IS THE sha256 OF THE DUMP (.gsa) THAT YtkogkombalcgeaaProg.lean LOADS. Nothing in Lean hashes anything: it is a label: what it is worth is what the hold of that sum in a sandbox is worth. -/
noncomputable def Try.pinned : Pinned := { name := "ytkogkombalcgeaa", sum := "ecb528c5c4187097f76e2eb0b08725653e17a4aadb8bab5b4562abced1adaa7a", checked := Try.checked }
namespace Rows
def none {H : Type} : Left H := { results := [], args := [] }

/-- 'omnibuslaw.FilterRanges': WHATEVER THE INPUT: true; the input reads as it did. -/
def filterRangesSpec : ChangeSpec := { name := "filterRanges", fn := fun _ => fun
  | [d1, d2, d3] => { results := [.lit (.bool true)], args := [d1, d2, d3] }
  | _ => none }
def filterRangesRow : OpenClaim := { program := "ytkogkombalcgeaa", sum := "ecb528c5c4187097f76e2eb0b08725653e17a4aadb8bab5b4562abced1adaa7a", func := "omnibus/omnibuslaw.FilterRanges", spec := "filterRanges", recurses := true, apart := false }
def FilterRangesSaid : Prop := filterRangesRow.holds Try.pinned (OpenSpec.ofChange filterRangesSpec)

/-- ITS FALSE NEIGHBOUR: 'it returns false'. Refute it at one input. -/
def filterRangesWrong : ChangeSpec := { name := "filterRanges", fn := fun _ => fun
  | [d1, d2, d3] => { results := [.lit (.bool false)], args := [d1, d2, d3] }
  | _ => none }
def FilterRangesWrongFalsely : Prop := filterRangesRow.holds Try.pinned (OpenSpec.ofChange filterRangesWrong)

/-- 'omnibuslaw.FilterCount': WHATEVER THE INPUT: true; the input reads as it did. -/
def filterCountSpec : ChangeSpec := { name := "filterCount", fn := fun _ => fun
  | [d] => { results := [.lit (.bool true)], args := [d] }
  | _ => none }
def filterCountRow : OpenClaim := { program := "ytkogkombalcgeaa", sum := "ecb528c5c4187097f76e2eb0b08725653e17a4aadb8bab5b4562abced1adaa7a", func := "omnibus/omnibuslaw.FilterCount", spec := "filterCount", unfollowed := true, recurses := true, apart := false }
def FilterCountSaid : Prop := filterCountRow.holds Try.pinned (OpenSpec.ofChange filterCountSpec)

/-- ITS FALSE NEIGHBOUR: 'it returns false'. Refute it at one input. -/
def filterCountWrong : ChangeSpec := { name := "filterCount", fn := fun _ => fun
  | [d] => { results := [.lit (.bool false)], args := [d] }
  | _ => none }
def FilterCountWrongFalsely : Prop := filterCountRow.holds Try.pinned (OpenSpec.ofChange filterCountWrong)

/-- 'omnibuslaw.FilterLeast': WHATEVER THE INPUT: true; the input reads as it did. -/
def filterLeastSpec : ChangeSpec := { name := "filterLeast", fn := fun _ => fun
  | [d] => { results := [.lit (.bool true)], args := [d] }
  | _ => none }
def filterLeastRow : OpenClaim := { program := "ytkogkombalcgeaa", sum := "ecb528c5c4187097f76e2eb0b08725653e17a4aadb8bab5b4562abced1adaa7a", func := "omnibus/omnibuslaw.FilterLeast", spec := "filterLeast", recurses := true, apart := false }
def FilterLeastSaid : Prop := filterLeastRow.holds Try.pinned (OpenSpec.ofChange filterLeastSpec)

/-- ITS FALSE NEIGHBOUR: 'it returns false'. Refute it at one input. -/
def filterLeastWrong : ChangeSpec := { name := "filterLeast", fn := fun _ => fun
  | [d] => { results := [.lit (.bool false)], args := [d] }
  | _ => none }
def FilterLeastWrongFalsely : Prop := filterLeastRow.holds Try.pinned (OpenSpec.ofChange filterLeastWrong)

/-- 'omnibuslaw.FilterIn': WHATEVER THE INPUT: true; the input reads as it did. -/
def filterInSpec : ChangeSpec := { name := "filterIn", fn := fun _ => fun
  | [d1, d2] => { results := [.lit (.bool true)], args := [d1, d2] }
  | _ => none }
def filterInRow : OpenClaim := { program := "ytkogkombalcgeaa", sum := "ecb528c5c4187097f76e2eb0b08725653e17a4aadb8bab5b4562abced1adaa7a", func := "omnibus/omnibuslaw.FilterIn", spec := "filterIn", unfollowed := true, recurses := true, apart := false }
def FilterInSaid : Prop := filterInRow.holds Try.pinned (OpenSpec.ofChange filterInSpec)

/-- ITS FALSE NEIGHBOUR: 'it returns false'. Refute it at one input. -/
def filterInWrong : ChangeSpec := { name := "filterIn", fn := fun _ => fun
  | [d1, d2] => { results := [.lit (.bool false)], args := [d1, d2] }
  | _ => none }
def FilterInWrongFalsely : Prop := filterInRow.holds Try.pinned (OpenSpec.ofChange filterInWrong)

/-- 'omnibuslaw.FilterSame': WHATEVER THE INPUT: true; the input reads as it did. -/
def filterSameSpec : ChangeSpec := { name := "filterSame", fn := fun _ => fun
  | [d1, d2, d3, d4] => { results := [.lit (.bool true)], args := [d1, d2, d3, d4] }
  | _ => none }
def filterSameRow : OpenClaim := { program := "ytkogkombalcgeaa", sum := "ecb528c5c4187097f76e2eb0b08725653e17a4aadb8bab5b4562abced1adaa7a", func := "omnibus/omnibuslaw.FilterSame", spec := "filterSame", unfollowed := true, recurses := true, apart := false }
def FilterSameSaid : Prop := filterSameRow.holds Try.pinned (OpenSpec.ofChange filterSameSpec)

/-- ITS FALSE NEIGHBOUR: 'it returns false'. Refute it at one input. -/
def filterSameWrong : ChangeSpec := { name := "filterSame", fn := fun _ => fun
  | [d1, d2, d3, d4] => { results := [.lit (.bool false)], args := [d1, d2, d3, d4] }
  | _ => none }
def FilterSameWrongFalsely : Prop := filterSameRow.holds Try.pinned (OpenSpec.ofChange filterSameWrong)

/-- 'omnibuslaw.FilterBoth': WHATEVER THE INPUT: true; the input reads as it did. -/
def filterBothSpec : ChangeSpec := { name := "filterBoth", fn := fun _ => fun
  | [d1, d2, d3] => { results := [.lit (.bool true)], args := [d1, d2, d3] }
  | _ => none }
def filterBothRow : OpenClaim := { program := "ytkogkombalcgeaa", sum := "ecb528c5c4187097f76e2eb0b08725653e17a4aadb8bab5b4562abced1adaa7a", func := "omnibus/omnibuslaw.FilterBoth", spec := "filterBoth", unfollowed := true, recurses := true, apart := false }
def FilterBothSaid : Prop := filterBothRow.holds Try.pinned (OpenSpec.ofChange filterBothSpec)

/-- ITS FALSE NEIGHBOUR: 'it returns false'. Refute it at one input. -/
def filterBothWrong : ChangeSpec := { name := "filterBoth", fn := fun _ => fun
  | [d1, d2, d3] => { results := [.lit (.bool false)], args := [d1, d2, d3] }
  | _ => none }
def FilterBothWrongFalsely : Prop := filterBothRow.holds Try.pinned (OpenSpec.ofChange filterBothWrong)

/-- 'omnibuslaw.PartTold': WHATEVER THE INPUT: true; the input reads as it did. -/
def partToldSpec : ChangeSpec := { name := "partTold", fn := fun _ => fun
  | [d1, d2] => { results := [.lit (.bool true)], args := [d1, d2] }
  | _ => none }
def partToldRow : OpenClaim := { program := "ytkogkombalcgeaa", sum := "ecb528c5c4187097f76e2eb0b08725653e17a4aadb8bab5b4562abced1adaa7a", func := "omnibus/omnibuslaw.PartTold", spec := "partTold", apart := false }
def PartToldSaid : Prop := partToldRow.holds Try.pinned (OpenSpec.ofChange partToldSpec)

/-- ITS FALSE NEIGHBOUR: 'it returns false'. Refute it at one input. -/
def partToldWrong : ChangeSpec := { name := "partTold", fn := fun _ => fun
  | [d1, d2] => { results := [.lit (.bool false)], args := [d1, d2] }
  | _ => none }
def PartToldWrongFalsely : Prop := partToldRow.holds Try.pinned (OpenSpec.ofChange partToldWrong)

/-- 'omnibuslaw.PartSend': WHATEVER THE INPUT: true; the input reads as it did. -/
def partSendSpec : ChangeSpec := { name := "partSend", fn := fun _ => fun
  | [d1, d2] => { results := [.lit (.bool true)], args := [d1, d2] }
  | _ => none }
def partSendRow : OpenClaim := { program := "ytkogkombalcgeaa", sum := "ecb528c5c4187097f76e2eb0b08725653e17a4aadb8bab5b4562abced1adaa7a", func := "omnibus/omnibuslaw.PartSend", spec := "partSend", apart := false }
def PartSendSaid : Prop := partSendRow.holds Try.pinned (OpenSpec.ofChange partSendSpec)

/-- ITS FALSE NEIGHBOUR: 'it returns false'. Refute it at one input. -/
def partSendWrong : ChangeSpec := { name := "partSend", fn := fun _ => fun
  | [d1, d2] => { results := [.lit (.bool false)], args := [d1, d2] }
  | _ => none }
def PartSendWrongFalsely : Prop := partSendRow.holds Try.pinned (OpenSpec.ofChange partSendWrong)

/-- 'omnibuslaw.PartLost': WHATEVER THE INPUT: true; the input reads as it did. -/
def partLostSpec : ChangeSpec := { name := "partLost", fn := fun _ => fun
  | [d1, d2] => { results := [.lit (.bool true)], args := [d1, d2] }
  | _ => none }
def partLostRow : OpenClaim := { program := "ytkogkombalcgeaa", sum := "ecb528c5c4187097f76e2eb0b08725653e17a4aadb8bab5b4562abced1adaa7a", func := "omnibus/omnibuslaw.PartLost", spec := "partLost", apart := false }
def PartLostSaid : Prop := partLostRow.holds Try.pinned (OpenSpec.ofChange partLostSpec)

/-- ITS FALSE NEIGHBOUR: 'it returns false'. Refute it at one input. -/
def partLostWrong : ChangeSpec := { name := "partLost", fn := fun _ => fun
  | [d1, d2] => { results := [.lit (.bool false)], args := [d1, d2] }
  | _ => none }
def PartLostWrongFalsely : Prop := partLostRow.holds Try.pinned (OpenSpec.ofChange partLostWrong)

/-- 'omnibuslaw.PartAnew': WHATEVER THE INPUT: true; the input reads as it did. -/
def partAnewSpec : ChangeSpec := { name := "partAnew", fn := fun _ => fun
  | [d1, d2] => { results := [.lit (.bool true)], args := [d1, d2] }
  | _ => none }
def partAnewRow : OpenClaim := { program := "ytkogkombalcgeaa", sum := "ecb528c5c4187097f76e2eb0b08725653e17a4aadb8bab5b4562abced1adaa7a", func := "omnibus/omnibuslaw.PartAnew", spec := "partAnew", apart := false }
def PartAnewSaid : Prop := partAnewRow.holds Try.pinned (OpenSpec.ofChange partAnewSpec)

/-- ITS FALSE NEIGHBOUR: 'it returns false'. Refute it at one input. -/
def partAnewWrong : ChangeSpec := { name := "partAnew", fn := fun _ => fun
  | [d1, d2] => { results := [.lit (.bool false)], args := [d1, d2] }
  | _ => none }
def PartAnewWrongFalsely : Prop := partAnewRow.holds Try.pinned (OpenSpec.ofChange partAnewWrong)

/-- 'omnibuslaw.PartSplit': WHATEVER THE INPUT: true; the input reads as it did. -/
def partSplitSpec : ChangeSpec := { name := "partSplit", fn := fun _ => fun
  | [d] => { results := [.lit (.bool true)], args := [d] }
  | _ => none }
def partSplitRow : OpenClaim := { program := "ytkogkombalcgeaa", sum := "ecb528c5c4187097f76e2eb0b08725653e17a4aadb8bab5b4562abced1adaa7a", func := "omnibus/omnibuslaw.PartSplit", spec := "partSplit", unfollowed := true, recurses := true, apart := false }
def PartSplitSaid : Prop := partSplitRow.holds Try.pinned (OpenSpec.ofChange partSplitSpec)

/-- ITS FALSE NEIGHBOUR: 'it returns false'. Refute it at one input. -/
def partSplitWrong : ChangeSpec := { name := "partSplit", fn := fun _ => fun
  | [d] => { results := [.lit (.bool false)], args := [d] }
  | _ => none }
def PartSplitWrongFalsely : Prop := partSplitRow.holds Try.pinned (OpenSpec.ofChange partSplitWrong)

/-- 'omnibuslaw.PartGet': WHATEVER THE INPUT: true; the input reads as it did. -/
def partGetSpec : ChangeSpec := { name := "partGet", fn := fun _ => fun
  | [d1, d2] => { results := [.lit (.bool true)], args := [d1, d2] }
  | _ => none }
def partGetRow : OpenClaim := { program := "ytkogkombalcgeaa", sum := "ecb528c5c4187097f76e2eb0b08725653e17a4aadb8bab5b4562abced1adaa7a", func := "omnibus/omnibuslaw.PartGet", spec := "partGet", unfollowed := true, recurses := true, apart := false }
def PartGetSaid : Prop := partGetRow.holds Try.pinned (OpenSpec.ofChange partGetSpec)

/-- ITS FALSE NEIGHBOUR: 'it returns false'. Refute it at one input. -/
def partGetWrong : ChangeSpec := { name := "partGet", fn := fun _ => fun
  | [d1, d2] => { results := [.lit (.bool false)], args := [d1, d2] }
  | _ => none }
def PartGetWrongFalsely : Prop := partGetRow.holds Try.pinned (OpenSpec.ofChange partGetWrong)

/- THE SECOND FORM. 'bulk': how many values and letters a reading holds, each counted each time it is reached (what is shared counts as often as it is met; a slice's spare places count too). A statement '..UptoSaid' is the law's where the arguments, and the package variables that the reading takes, are together of bulk at most 1048576: NARROWER than '..Said'. Prove '..Said' where nothing that the law and all that it calls make is longer than what came in: it says more and counts as full. Else prove '..UptoSaid'. A law counts once. -/
mutual
def uptoBulk {H : Type} : DataW H → Nat
  | .lit (.string bytes) => bytes.length + 1
  | .lit _ => 1
  | .nil => 1
  | .ptr d => uptoBulk d + 1
  | .slice elems spare => uptoBulkAll elems + uptoBulkAll spare + 1
  | .agg parts => uptoBulkAll parts + 1
  | .iface _ d => uptoBulk d + 1
  | .map entries => uptoBulkEntries entries + 1
  | .held _ => 1
def uptoBulkAll {H : Type} : List (DataW H) → Nat
  | [] => 0
  | d :: r => uptoBulk d + uptoBulkAll r
def uptoBulkEntries {H : Type} : List (Lit × DataW H) → Nat
  | [] => 0
  | x :: r => uptoBulkEntry x + uptoBulkEntries r
def uptoBulkEntry {H : Type} : Lit × DataW H → Nat
  | (.string bytes, d) => bytes.length + uptoBulk d + 1
  | (_, d) => uptoBulk d + 1
 end
def uptoSmall : (H : Type) → List (DataW H) → Bool := fun _ ds => decide (uptoBulkAll ds ≤ 1048576)
def OpenSpec.upto (s : _root_.Go.ChangeSpec) : _root_.Go.OpenSpec := { _root_.Go.OpenSpec.ofChange s with cond := some uptoSmall }

/-- 'omnibuslaw.FilterRanges', WHERE WHAT IT READS IS OF BULK AT MOST 1048576: true; the input reads as it did. -/
def filterRangesUptoRow : OpenClaim := { program := "ytkogkombalcgeaa", sum := "ecb528c5c4187097f76e2eb0b08725653e17a4aadb8bab5b4562abced1adaa7a", func := "omnibus/omnibuslaw.FilterRanges", spec := "filterRanges", recurses := true, apart := false, narrowed := true }
def FilterRangesUptoSaid : Prop := filterRangesUptoRow.holds Try.pinned (OpenSpec.upto filterRangesSpec)

/-- 'omnibuslaw.FilterCount', WHERE WHAT IT READS IS OF BULK AT MOST 1048576: true; the input reads as it did. -/
def filterCountUptoRow : OpenClaim := { program := "ytkogkombalcgeaa", sum := "ecb528c5c4187097f76e2eb0b08725653e17a4aadb8bab5b4562abced1adaa7a", func := "omnibus/omnibuslaw.FilterCount", spec := "filterCount", unfollowed := true, recurses := true, apart := false, narrowed := true }
def FilterCountUptoSaid : Prop := filterCountUptoRow.holds Try.pinned (OpenSpec.upto filterCountSpec)

/-- 'omnibuslaw.FilterLeast', WHERE WHAT IT READS IS OF BULK AT MOST 1048576: true; the input reads as it did. -/
def filterLeastUptoRow : OpenClaim := { program := "ytkogkombalcgeaa", sum := "ecb528c5c4187097f76e2eb0b08725653e17a4aadb8bab5b4562abced1adaa7a", func := "omnibus/omnibuslaw.FilterLeast", spec := "filterLeast", recurses := true, apart := false, narrowed := true }
def FilterLeastUptoSaid : Prop := filterLeastUptoRow.holds Try.pinned (OpenSpec.upto filterLeastSpec)

/-- 'omnibuslaw.FilterIn', WHERE WHAT IT READS IS OF BULK AT MOST 1048576: true; the input reads as it did. -/
def filterInUptoRow : OpenClaim := { program := "ytkogkombalcgeaa", sum := "ecb528c5c4187097f76e2eb0b08725653e17a4aadb8bab5b4562abced1adaa7a", func := "omnibus/omnibuslaw.FilterIn", spec := "filterIn", unfollowed := true, recurses := true, apart := false, narrowed := true }
def FilterInUptoSaid : Prop := filterInUptoRow.holds Try.pinned (OpenSpec.upto filterInSpec)

/-- 'omnibuslaw.FilterSame', WHERE WHAT IT READS IS OF BULK AT MOST 1048576: true; the input reads as it did. -/
def filterSameUptoRow : OpenClaim := { program := "ytkogkombalcgeaa", sum := "ecb528c5c4187097f76e2eb0b08725653e17a4aadb8bab5b4562abced1adaa7a", func := "omnibus/omnibuslaw.FilterSame", spec := "filterSame", unfollowed := true, recurses := true, apart := false, narrowed := true }
def FilterSameUptoSaid : Prop := filterSameUptoRow.holds Try.pinned (OpenSpec.upto filterSameSpec)

/-- 'omnibuslaw.FilterBoth', WHERE WHAT IT READS IS OF BULK AT MOST 1048576: true; the input reads as it did. -/
def filterBothUptoRow : OpenClaim := { program := "ytkogkombalcgeaa", sum := "ecb528c5c4187097f76e2eb0b08725653e17a4aadb8bab5b4562abced1adaa7a", func := "omnibus/omnibuslaw.FilterBoth", spec := "filterBoth", unfollowed := true, recurses := true, apart := false, narrowed := true }
def FilterBothUptoSaid : Prop := filterBothUptoRow.holds Try.pinned (OpenSpec.upto filterBothSpec)

/-- 'omnibuslaw.PartTold', WHERE WHAT IT READS IS OF BULK AT MOST 1048576: true; the input reads as it did. -/
def partToldUptoRow : OpenClaim := { program := "ytkogkombalcgeaa", sum := "ecb528c5c4187097f76e2eb0b08725653e17a4aadb8bab5b4562abced1adaa7a", func := "omnibus/omnibuslaw.PartTold", spec := "partTold", apart := false, narrowed := true }
def PartToldUptoSaid : Prop := partToldUptoRow.holds Try.pinned (OpenSpec.upto partToldSpec)

/-- 'omnibuslaw.PartSend', WHERE WHAT IT READS IS OF BULK AT MOST 1048576: true; the input reads as it did. -/
def partSendUptoRow : OpenClaim := { program := "ytkogkombalcgeaa", sum := "ecb528c5c4187097f76e2eb0b08725653e17a4aadb8bab5b4562abced1adaa7a", func := "omnibus/omnibuslaw.PartSend", spec := "partSend", apart := false, narrowed := true }
def PartSendUptoSaid : Prop := partSendUptoRow.holds Try.pinned (OpenSpec.upto partSendSpec)

/-- 'omnibuslaw.PartLost', WHERE WHAT IT READS IS OF BULK AT MOST 1048576: true; the input reads as it did. -/
def partLostUptoRow : OpenClaim := { program := "ytkogkombalcgeaa", sum := "ecb528c5c4187097f76e2eb0b08725653e17a4aadb8bab5b4562abced1adaa7a", func := "omnibus/omnibuslaw.PartLost", spec := "partLost", apart := false, narrowed := true }
def PartLostUptoSaid : Prop := partLostUptoRow.holds Try.pinned (OpenSpec.upto partLostSpec)

/-- 'omnibuslaw.PartAnew', WHERE WHAT IT READS IS OF BULK AT MOST 1048576: true; the input reads as it did. -/
def partAnewUptoRow : OpenClaim := { program := "ytkogkombalcgeaa", sum := "ecb528c5c4187097f76e2eb0b08725653e17a4aadb8bab5b4562abced1adaa7a", func := "omnibus/omnibuslaw.PartAnew", spec := "partAnew", apart := false, narrowed := true }
def PartAnewUptoSaid : Prop := partAnewUptoRow.holds Try.pinned (OpenSpec.upto partAnewSpec)

/-- 'omnibuslaw.PartSplit', WHERE WHAT IT READS IS OF BULK AT MOST 1048576: true; the input reads as it did. -/
def partSplitUptoRow : OpenClaim := { program := "ytkogkombalcgeaa", sum := "ecb528c5c4187097f76e2eb0b08725653e17a4aadb8bab5b4562abced1adaa7a", func := "omnibus/omnibuslaw.PartSplit", spec := "partSplit", unfollowed := true, recurses := true, apart := false, narrowed := true }
def PartSplitUptoSaid : Prop := partSplitUptoRow.holds Try.pinned (OpenSpec.upto partSplitSpec)

/-- 'omnibuslaw.PartGet', WHERE WHAT IT READS IS OF BULK AT MOST 1048576: true; the input reads as it did. -/
def partGetUptoRow : OpenClaim := { program := "ytkogkombalcgeaa", sum := "ecb528c5c4187097f76e2eb0b08725653e17a4aadb8bab5b4562abced1adaa7a", func := "omnibus/omnibuslaw.PartGet", spec := "partGet", unfollowed := true, recurses := true, apart := false, narrowed := true }
def PartGetUptoSaid : Prop := partGetUptoRow.holds Try.pinned (OpenSpec.upto partGetSpec)

end Rows
end Go.Proofs.Ytkogkombalcgeaa
