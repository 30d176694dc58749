/-
  DERIVED. GIVEN WITH THE SEED: THE CARDS: each row of YtmnlahbngbigdaaGreatDoorRows.lean that lists a variable, with what it lists TIED to the program's text (the seventh form; the later family's looks); each row that meets fmt, with fmt's text TOLD by the authors' own Lean function (tested against real Go, not proved from fmt's source: count such statements apart). THE CARD IS WHAT COUNTS. Prove the row's statement (the work); the ties are given (YtmnlahbngbigdaaGreatDoorTie.lean); close each card by the builder's one call (the guide's Derived/Test/ToyasCard.lean, 'card_holds'). Laid BY PROGRAM, IN A SANDBOX (cutbox-door.mjs). By AI agents, Wed Nov 11 2026. No macro, syntax, notation, axiom, sorry.
-/
import Derived.Test.YtmnlahbngbigdaaGreatDoorRows
import GoSem.ClaimSeven
namespace Go.Proofs.YtmnlahbngbigdaaGreatDoor
namespace Rows

/-- THE TIED CARD OF 'omnibuslaw.FrameRead'. -/
def frameReadCard : Claim7 := { stood := { row := frameReadRow, standIns := [], harness := (true, "d50a240343e55370e6a57404e6526ee85ff26f0b4032c06971107f6702c2666c"), looks := false }, kinds := [], alts := [], laidByText := true, laidKinds := [.data, .data, .data, .data, .pinned], laidTests := true, laidLooks := .later }
def FrameReadCardSaid : Prop := Claim7.holds Tryz.pinned (.plain (OpenSpec.ofChange frameReadSpec)) frameReadCard

/-- THE TIED CARD OF 'omnibuslaw.WireNoise'. -/
def wireNoiseCard : Claim7 := { stood := { row := wireNoiseRow, standIns := [], harness := (true, "d50a240343e55370e6a57404e6526ee85ff26f0b4032c06971107f6702c2666c"), looks := false }, kinds := [], alts := [], laidByText := true, laidKinds := [.data, .data, .data, .data, .pinned], laidTests := true, laidLooks := .later }
def WireNoiseCardSaid : Prop := Claim7.holds Tryz.pinned (.plain (OpenSpec.ofChange wireNoiseSpec)) wireNoiseCard

/-- THE SECOND FORM's CARD OF 'omnibuslaw.FrameRead'. -/
def frameReadUptoCard : Claim7 := { stood := { row := frameReadUptoRow, standIns := [], harness := (true, "d50a240343e55370e6a57404e6526ee85ff26f0b4032c06971107f6702c2666c"), looks := false }, kinds := [], alts := [], laidByText := true, laidKinds := [.data, .data, .data, .data, .pinned], laidTests := true, laidLooks := .later }
def FrameReadUptoCardSaid : Prop := Claim7.holds Tryz.pinned (.plain (OpenSpec.upto frameReadSpec)) frameReadUptoCard

/-- THE SECOND FORM's CARD OF 'omnibuslaw.WireNoise'. -/
def wireNoiseUptoCard : Claim7 := { stood := { row := wireNoiseUptoRow, standIns := [], harness := (true, "d50a240343e55370e6a57404e6526ee85ff26f0b4032c06971107f6702c2666c"), looks := false }, kinds := [], alts := [], laidByText := true, laidKinds := [.data, .data, .data, .data, .pinned], laidTests := true, laidLooks := .later }
def WireNoiseUptoCardSaid : Prop := Claim7.holds Tryz.pinned (.plain (OpenSpec.upto wireNoiseSpec)) wireNoiseUptoCard
end Rows
end Go.Proofs.YtmnlahbngbigdaaGreatDoor
