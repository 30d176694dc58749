/-
  DERIVED. GIVEN WITH THE SEED: THE CARDS: each row of YtmbdcehmeiiaoaaDoorRows.lean that lists a variable, with what it lists TIED to the program's text (the seventh form; the later family's looks); each row that meets fmt, with fmt's text TOLD by the authors' own Lean function (tested against real Go, not proved from fmt's source: count such statements apart). THE CARD IS WHAT COUNTS. Prove the row's statement (the work); the ties are given (YtmbdcehmeiiaoaaDoorTie.lean); close each card by the builder's one call (the guide's Derived/Test/ToyasCard.lean, 'card_holds'). Laid BY PROGRAM, IN A SANDBOX (cutbox-door.mjs). By AI agents, Wed Nov 11 2026. No macro, syntax, notation, axiom, sorry.
-/
import Derived.Test.YtmbdcehmeiiaoaaDoorRows
import GoSem.ClaimSeven
namespace Go.Proofs.YtmbdcehmeiiaoaaDoor
namespace Rows

/-- THE TIED CARD OF 'omnibuslaw.FrameHeard'. -/
def frameHeardCard : Claim7 := { stood := { row := frameHeardRow, standIns := [], harness := (true, "e1233d667076a868b258e7ab51bab0d51e00b7a277931f666428f78a276147a9"), looks := false }, kinds := [], alts := [], laidByText := true, laidKinds := [.data, .pinned], laidTests := true, laidLooks := .later }
def FrameHeardCardSaid : Prop := Claim7.holds Tryd.pinned (.plain (OpenSpec.ofChange frameHeardSpec)) frameHeardCard

/-- THE TIED CARD OF 'omnibuslaw.FrameApart'. -/
def frameApartCard : Claim7 := { stood := { row := frameApartRow, standIns := [], harness := (true, "e1233d667076a868b258e7ab51bab0d51e00b7a277931f666428f78a276147a9"), looks := false }, kinds := [], alts := [], laidByText := true, laidKinds := [.data, .pinned], laidTests := true, laidLooks := .later }
def FrameApartCardSaid : Prop := Claim7.holds Tryd.pinned (.plain (OpenSpec.ofChange frameApartSpec)) frameApartCard

/-- THE TIED CARD OF 'omnibuslaw.FrameNames'. -/
def frameNamesCard : Claim7 := { stood := { row := frameNamesRow, standIns := [], harness := (true, "e1233d667076a868b258e7ab51bab0d51e00b7a277931f666428f78a276147a9"), looks := false }, kinds := [], alts := [], laidByText := true, laidKinds := [.data, .pinned], laidTests := true, laidLooks := .later }
def FrameNamesCardSaid : Prop := Claim7.holds Tryd.pinned (.plain (OpenSpec.ofChange frameNamesSpec)) frameNamesCard

/-- THE TIED CARD OF 'omnibuslaw.FrameBack'. -/
def frameBackCard : Claim7 := { stood := { row := frameBackRow, standIns := [], harness := (true, "e1233d667076a868b258e7ab51bab0d51e00b7a277931f666428f78a276147a9"), looks := false }, kinds := [], alts := [], laidByText := true, laidKinds := [.data, .pinned], laidTests := true, laidLooks := .later }
def FrameBackCardSaid : Prop := Claim7.holds Tryd.pinned (.plain (OpenSpec.ofChange frameBackSpec)) frameBackCard

/-- THE TIED CARD OF 'omnibuslaw.WireTurns'. -/
def wireTurnsCard : Claim7 := { stood := { row := wireTurnsRow, standIns := [], harness := (true, "e1233d667076a868b258e7ab51bab0d51e00b7a277931f666428f78a276147a9"), looks := false }, kinds := [], alts := [], laidByText := true, laidKinds := [.data, .pinned], laidTests := true, laidLooks := .later }
def WireTurnsCardSaid : Prop := Claim7.holds Tryd.pinned (.plain (OpenSpec.ofChange wireTurnsSpec)) wireTurnsCard

/-- THE TIED CARD OF 'omnibuslaw.WireWins'. -/
def wireWinsCard : Claim7 := { stood := { row := wireWinsRow, standIns := [], harness := (true, "e1233d667076a868b258e7ab51bab0d51e00b7a277931f666428f78a276147a9"), looks := false }, kinds := [], alts := [], laidByText := true, laidKinds := [.data, .pinned], laidTests := true, laidLooks := .later }
def WireWinsCardSaid : Prop := Claim7.holds Tryd.pinned (.plain (OpenSpec.ofChange wireWinsSpec)) wireWinsCard

/-- THE TIED CARD OF 'omnibuslaw.WireFirst'. -/
def wireFirstCard : Claim7 := { stood := { row := wireFirstRow, standIns := [], harness := (true, "e1233d667076a868b258e7ab51bab0d51e00b7a277931f666428f78a276147a9"), looks := false }, kinds := [], alts := [], laidByText := true, laidKinds := [.data, .data, .data, .data, .pinned], laidTests := true, laidLooks := .later }
def WireFirstCardSaid : Prop := Claim7.holds Tryd.pinned (.plain (OpenSpec.ofChange wireFirstSpec)) wireFirstCard

/-- THE SECOND FORM's CARD OF 'omnibuslaw.FrameHeard'. -/
def frameHeardUptoCard : Claim7 := { stood := { row := frameHeardUptoRow, standIns := [], harness := (true, "e1233d667076a868b258e7ab51bab0d51e00b7a277931f666428f78a276147a9"), looks := false }, kinds := [], alts := [], laidByText := true, laidKinds := [.data, .pinned], laidTests := true, laidLooks := .later }
def FrameHeardUptoCardSaid : Prop := Claim7.holds Tryd.pinned (.plain (OpenSpec.upto frameHeardSpec)) frameHeardUptoCard

/-- THE SECOND FORM's CARD OF 'omnibuslaw.FrameApart'. -/
def frameApartUptoCard : Claim7 := { stood := { row := frameApartUptoRow, standIns := [], harness := (true, "e1233d667076a868b258e7ab51bab0d51e00b7a277931f666428f78a276147a9"), looks := false }, kinds := [], alts := [], laidByText := true, laidKinds := [.data, .pinned], laidTests := true, laidLooks := .later }
def FrameApartUptoCardSaid : Prop := Claim7.holds Tryd.pinned (.plain (OpenSpec.upto frameApartSpec)) frameApartUptoCard

/-- THE SECOND FORM's CARD OF 'omnibuslaw.FrameNames'. -/
def frameNamesUptoCard : Claim7 := { stood := { row := frameNamesUptoRow, standIns := [], harness := (true, "e1233d667076a868b258e7ab51bab0d51e00b7a277931f666428f78a276147a9"), looks := false }, kinds := [], alts := [], laidByText := true, laidKinds := [.data, .pinned], laidTests := true, laidLooks := .later }
def FrameNamesUptoCardSaid : Prop := Claim7.holds Tryd.pinned (.plain (OpenSpec.upto frameNamesSpec)) frameNamesUptoCard

/-- THE SECOND FORM's CARD OF 'omnibuslaw.FrameBack'. -/
def frameBackUptoCard : Claim7 := { stood := { row := frameBackUptoRow, standIns := [], harness := (true, "e1233d667076a868b258e7ab51bab0d51e00b7a277931f666428f78a276147a9"), looks := false }, kinds := [], alts := [], laidByText := true, laidKinds := [.data, .pinned], laidTests := true, laidLooks := .later }
def FrameBackUptoCardSaid : Prop := Claim7.holds Tryd.pinned (.plain (OpenSpec.upto frameBackSpec)) frameBackUptoCard

/-- THE SECOND FORM's CARD OF 'omnibuslaw.WireTurns'. -/
def wireTurnsUptoCard : Claim7 := { stood := { row := wireTurnsUptoRow, standIns := [], harness := (true, "e1233d667076a868b258e7ab51bab0d51e00b7a277931f666428f78a276147a9"), looks := false }, kinds := [], alts := [], laidByText := true, laidKinds := [.data, .pinned], laidTests := true, laidLooks := .later }
def WireTurnsUptoCardSaid : Prop := Claim7.holds Tryd.pinned (.plain (OpenSpec.upto wireTurnsSpec)) wireTurnsUptoCard

/-- THE SECOND FORM's CARD OF 'omnibuslaw.WireWins'. -/
def wireWinsUptoCard : Claim7 := { stood := { row := wireWinsUptoRow, standIns := [], harness := (true, "e1233d667076a868b258e7ab51bab0d51e00b7a277931f666428f78a276147a9"), looks := false }, kinds := [], alts := [], laidByText := true, laidKinds := [.data, .pinned], laidTests := true, laidLooks := .later }
def WireWinsUptoCardSaid : Prop := Claim7.holds Tryd.pinned (.plain (OpenSpec.upto wireWinsSpec)) wireWinsUptoCard

/-- THE SECOND FORM's CARD OF 'omnibuslaw.WireFirst'. -/
def wireFirstUptoCard : Claim7 := { stood := { row := wireFirstUptoRow, standIns := [], harness := (true, "e1233d667076a868b258e7ab51bab0d51e00b7a277931f666428f78a276147a9"), looks := false }, kinds := [], alts := [], laidByText := true, laidKinds := [.data, .data, .data, .data, .pinned], laidTests := true, laidLooks := .later }
def WireFirstUptoCardSaid : Prop := Claim7.holds Tryd.pinned (.plain (OpenSpec.upto wireFirstSpec)) wireFirstUptoCard
end Rows
end Go.Proofs.YtmbdcehmeiiaoaaDoor
