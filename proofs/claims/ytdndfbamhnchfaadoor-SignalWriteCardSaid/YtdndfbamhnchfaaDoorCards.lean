/-
  DERIVED. GIVEN WITH THE SEED: THE CARDS: each row of YtdndfbamhnchfaaDoorRows.lean that lists a variable, with what it lists TIED to the program's text (the seventh form; the later family's looks); each row that meets fmt, with fmt's text TOLD by the authors' own Lean function (tested against real Go, not proved from fmt's source: count such statements apart). THE CARD IS WHAT COUNTS. Prove the row's statement (the work); the ties are given (YtdndfbamhnchfaaDoorTie.lean); close each card by the builder's one call (the guide's Derived/Test/ToyasCard.lean, 'card_holds'). Laid BY PROGRAM, IN A SANDBOX (cutbox-door.mjs). By AI agents, Wed Nov 11 2026. No macro, syntax, notation, axiom, sorry.
-/
import Derived.Test.YtdndfbamhnchfaaDoorRows
import GoSem.ClaimSeven
namespace Go.Proofs.YtdndfbamhnchfaaDoor
namespace Rows

/-- THE TIED CARD OF 'omnibuslaw.SignalRead'. -/
def signalReadCard : Claim7 := { stood := { row := signalReadRow, standIns := [], harness := (true, "be497365eb9e3b95c953620ea312743127d9da80275b620f6f6f60d85d0c07dd"), looks := false }, kinds := [], alts := [], laidByText := true, laidKinds := [.data, .pinned], laidTests := true, laidLooks := .later }
def SignalReadCardSaid : Prop := Claim7.holds Tryd.pinned (.plain (OpenSpec.ofChange signalReadSpec)) signalReadCard

/-- THE TIED CARD OF 'omnibuslaw.SignalWrite'. -/
def signalWriteCard : Claim7 := { stood := { row := signalWriteRow, standIns := [], harness := (true, "be497365eb9e3b95c953620ea312743127d9da80275b620f6f6f60d85d0c07dd"), looks := false }, kinds := [], alts := [], laidByText := true, laidKinds := [.data, .pinned], laidTests := true, laidLooks := .later }
def SignalWriteCardSaid : Prop := Claim7.holds Tryd.pinned (.plain (OpenSpec.ofChange signalWriteSpec)) signalWriteCard

/-- THE TIED CARD OF 'omnibuslaw.SignalPlaces'. -/
def signalPlacesCard : Claim7 := { stood := { row := signalPlacesRow, standIns := [], harness := (true, "be497365eb9e3b95c953620ea312743127d9da80275b620f6f6f60d85d0c07dd"), looks := false }, kinds := [], alts := [], laidByText := true, laidKinds := [.data, .pinned], laidTests := true, laidLooks := .later }
def SignalPlacesCardSaid : Prop := Claim7.holds Tryd.pinned (.plain (OpenSpec.ofChange signalPlacesSpec)) signalPlacesCard

/-- THE TIED CARD OF 'omnibuslaw.MessageCheck'. -/
def messageCheckCard : Claim7 := { stood := { row := messageCheckRow, standIns := [], harness := (true, "be497365eb9e3b95c953620ea312743127d9da80275b620f6f6f60d85d0c07dd"), looks := false }, kinds := [], alts := [], laidByText := true, laidKinds := [.data, .pinned], laidTests := true, laidLooks := .later }
def MessageCheckCardSaid : Prop := Claim7.holds Tryd.pinned (.plain (OpenSpec.ofChange messageCheckSpec)) messageCheckCard

/-- THE SECOND FORM's CARD OF 'omnibuslaw.SignalRead'. -/
def signalReadUptoCard : Claim7 := { stood := { row := signalReadUptoRow, standIns := [], harness := (true, "be497365eb9e3b95c953620ea312743127d9da80275b620f6f6f60d85d0c07dd"), looks := false }, kinds := [], alts := [], laidByText := true, laidKinds := [.data, .pinned], laidTests := true, laidLooks := .later }
def SignalReadUptoCardSaid : Prop := Claim7.holds Tryd.pinned (.plain (OpenSpec.upto signalReadSpec)) signalReadUptoCard

/-- THE SECOND FORM's CARD OF 'omnibuslaw.SignalWrite'. -/
def signalWriteUptoCard : Claim7 := { stood := { row := signalWriteUptoRow, standIns := [], harness := (true, "be497365eb9e3b95c953620ea312743127d9da80275b620f6f6f60d85d0c07dd"), looks := false }, kinds := [], alts := [], laidByText := true, laidKinds := [.data, .pinned], laidTests := true, laidLooks := .later }
def SignalWriteUptoCardSaid : Prop := Claim7.holds Tryd.pinned (.plain (OpenSpec.upto signalWriteSpec)) signalWriteUptoCard

/-- THE SECOND FORM's CARD OF 'omnibuslaw.SignalPlaces'. -/
def signalPlacesUptoCard : Claim7 := { stood := { row := signalPlacesUptoRow, standIns := [], harness := (true, "be497365eb9e3b95c953620ea312743127d9da80275b620f6f6f60d85d0c07dd"), looks := false }, kinds := [], alts := [], laidByText := true, laidKinds := [.data, .pinned], laidTests := true, laidLooks := .later }
def SignalPlacesUptoCardSaid : Prop := Claim7.holds Tryd.pinned (.plain (OpenSpec.upto signalPlacesSpec)) signalPlacesUptoCard

/-- THE SECOND FORM's CARD OF 'omnibuslaw.MessageCheck'. -/
def messageCheckUptoCard : Claim7 := { stood := { row := messageCheckUptoRow, standIns := [], harness := (true, "be497365eb9e3b95c953620ea312743127d9da80275b620f6f6f60d85d0c07dd"), looks := false }, kinds := [], alts := [], laidByText := true, laidKinds := [.data, .pinned], laidTests := true, laidLooks := .later }
def MessageCheckUptoCardSaid : Prop := Claim7.holds Tryd.pinned (.plain (OpenSpec.upto messageCheckSpec)) messageCheckUptoCard
end Rows
end Go.Proofs.YtdndfbamhnchfaaDoor
