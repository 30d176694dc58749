/-
  DERIVED. GIVEN WITH THE SEED: THE CARDS: each row of YtdndfbamhnchfaaGreatDoorRows.lean that lists a variable, with what it lists TIED to the program's text (the seventh form; the later family's looks); each row that meets fmt, with fmt's text TOLD by the authors' own Lean function (tested against real Go, not proved from fmt's source: count such statements apart). THE CARD IS WHAT COUNTS. Prove the row's statement (the work); the ties are given (YtdndfbamhnchfaaGreatDoorTie.lean); close each card by the builder's one call (the guide's Derived/Test/ToyasCard.lean, 'card_holds'). Laid BY PROGRAM, IN A SANDBOX (cutbox-door.mjs). By AI agents, Wed Nov 11 2026. No macro, syntax, notation, axiom, sorry.
-/
import Derived.Test.YtdndfbamhnchfaaGreatDoorRows
import GoSem.ClaimSeven
namespace Go.Proofs.YtdndfbamhnchfaaGreatDoor
namespace Rows

/-- THE TIED CARD OF 'omnibuslaw.MessageRead'. -/
def messageReadCard : Claim7 := { stood := { row := messageReadRow, standIns := [], harness := (true, "e06a57da351197e9e74d40619f674f7772f06c72df3218b2d87e40b5efe25e18"), looks := false }, kinds := [], alts := [], laidByText := true, laidKinds := [.data, .pinned], laidTests := true, laidLooks := .later }
def MessageReadCardSaid : Prop := Claim7.holds Tryz.pinned (.plain (OpenSpec.ofChange messageReadSpec)) messageReadCard

/-- THE TIED CARD OF 'omnibuslaw.MessageWrite'. -/
def messageWriteCard : Claim7 := { stood := { row := messageWriteRow, standIns := [], harness := (true, "e06a57da351197e9e74d40619f674f7772f06c72df3218b2d87e40b5efe25e18"), looks := false }, kinds := [], alts := [], laidByText := true, laidKinds := [.data, .pinned], laidTests := true, laidLooks := .later }
def MessageWriteCardSaid : Prop := Claim7.holds Tryz.pinned (.plain (OpenSpec.ofChange messageWriteSpec)) messageWriteCard

/-- THE TIED CARD OF 'omnibuslaw.MessageRepack'. -/
def messageRepackCard : Claim7 := { stood := { row := messageRepackRow, standIns := [], harness := (true, "e06a57da351197e9e74d40619f674f7772f06c72df3218b2d87e40b5efe25e18"), looks := false }, kinds := [], alts := [], laidByText := true, laidKinds := [.data, .pinned], laidTests := true, laidLooks := .later }
def MessageRepackCardSaid : Prop := Claim7.holds Tryz.pinned (.plain (OpenSpec.ofChange messageRepackSpec)) messageRepackCard

/-- THE SECOND FORM's CARD OF 'omnibuslaw.MessageRead'. -/
def messageReadUptoCard : Claim7 := { stood := { row := messageReadUptoRow, standIns := [], harness := (true, "e06a57da351197e9e74d40619f674f7772f06c72df3218b2d87e40b5efe25e18"), looks := false }, kinds := [], alts := [], laidByText := true, laidKinds := [.data, .pinned], laidTests := true, laidLooks := .later }
def MessageReadUptoCardSaid : Prop := Claim7.holds Tryz.pinned (.plain (OpenSpec.upto messageReadSpec)) messageReadUptoCard

/-- THE SECOND FORM's CARD OF 'omnibuslaw.MessageWrite'. -/
def messageWriteUptoCard : Claim7 := { stood := { row := messageWriteUptoRow, standIns := [], harness := (true, "e06a57da351197e9e74d40619f674f7772f06c72df3218b2d87e40b5efe25e18"), looks := false }, kinds := [], alts := [], laidByText := true, laidKinds := [.data, .pinned], laidTests := true, laidLooks := .later }
def MessageWriteUptoCardSaid : Prop := Claim7.holds Tryz.pinned (.plain (OpenSpec.upto messageWriteSpec)) messageWriteUptoCard

/-- THE SECOND FORM's CARD OF 'omnibuslaw.MessageRepack'. -/
def messageRepackUptoCard : Claim7 := { stood := { row := messageRepackUptoRow, standIns := [], harness := (true, "e06a57da351197e9e74d40619f674f7772f06c72df3218b2d87e40b5efe25e18"), looks := false }, kinds := [], alts := [], laidByText := true, laidKinds := [.data, .pinned], laidTests := true, laidLooks := .later }
def MessageRepackUptoCardSaid : Prop := Claim7.holds Tryz.pinned (.plain (OpenSpec.upto messageRepackSpec)) messageRepackUptoCard
end Rows
end Go.Proofs.YtdndfbamhnchfaaGreatDoor
