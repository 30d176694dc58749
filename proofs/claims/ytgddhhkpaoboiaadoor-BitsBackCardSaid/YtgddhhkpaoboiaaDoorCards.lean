/-
  DERIVED. GIVEN WITH THE SEED: THE CARDS: each row of YtgddhhkpaoboiaaDoorRows.lean that lists a variable, with what it lists TIED to the program's text (the seventh form; the later family's looks); each row that meets fmt, with fmt's text TOLD by the authors' own Lean function (tested against real Go, not proved from fmt's source: count such statements apart). THE CARD IS WHAT COUNTS. Prove the row's statement (the work); the ties are given (YtgddhhkpaoboiaaDoorTie.lean); close each card by the builder's one call (the guide's Derived/Test/ToyasCard.lean, 'card_holds'). Laid BY PROGRAM, IN A SANDBOX (cutbox-door.mjs). By AI agents, Wed Nov 11 2026. No macro, syntax, notation, axiom, sorry.
-/
import Derived.Test.YtgddhhkpaoboiaaDoorRows
import GoSem.ClaimSeven
namespace Go.Proofs.YtgddhhkpaoboiaaDoor
namespace Rows

/-- THE TIED CARD OF 'omnibuslaw.BitsBack'. -/
def bitsBackCard : Claim7 := { stood := { row := bitsBackRow, standIns := [], harness := (true, "7555e8999dfc055f0d6a00383a3730295dabf23eaba24bebbc5187c4f2086d36"), looks := false }, kinds := [], alts := [], laidByText := true, laidKinds := [.data, .pinned], laidTests := true, laidLooks := .later }
def BitsBackCardSaid : Prop := Claim7.holds Tryd.pinned (.plain (OpenSpec.ofChange bitsBackSpec)) bitsBackCard

/-- THE TIED CARD OF 'omnibuslaw.StuffTurned'. -/
def stuffTurnedCard : Claim7 := { stood := { row := stuffTurnedRow, standIns := [], harness := (true, "7555e8999dfc055f0d6a00383a3730295dabf23eaba24bebbc5187c4f2086d36"), looks := false }, kinds := [], alts := [], laidByText := true, laidKinds := [.data, .pinned], laidTests := true, laidLooks := .later }
def StuffTurnedCardSaid : Prop := Claim7.holds Tryd.pinned (.plain (OpenSpec.ofChange stuffTurnedSpec)) stuffTurnedCard

/-- THE SECOND FORM's CARD OF 'omnibuslaw.BitsBack'. -/
def bitsBackUptoCard : Claim7 := { stood := { row := bitsBackUptoRow, standIns := [], harness := (true, "7555e8999dfc055f0d6a00383a3730295dabf23eaba24bebbc5187c4f2086d36"), looks := false }, kinds := [], alts := [], laidByText := true, laidKinds := [.data, .pinned], laidTests := true, laidLooks := .later }
def BitsBackUptoCardSaid : Prop := Claim7.holds Tryd.pinned (.plain (OpenSpec.upto bitsBackSpec)) bitsBackUptoCard

/-- THE SECOND FORM's CARD OF 'omnibuslaw.StuffTurned'. -/
def stuffTurnedUptoCard : Claim7 := { stood := { row := stuffTurnedUptoRow, standIns := [], harness := (true, "7555e8999dfc055f0d6a00383a3730295dabf23eaba24bebbc5187c4f2086d36"), looks := false }, kinds := [], alts := [], laidByText := true, laidKinds := [.data, .pinned], laidTests := true, laidLooks := .later }
def StuffTurnedUptoCardSaid : Prop := Claim7.holds Tryd.pinned (.plain (OpenSpec.upto stuffTurnedSpec)) stuffTurnedUptoCard
end Rows
end Go.Proofs.YtgddhhkpaoboiaaDoor
