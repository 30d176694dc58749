/-
  DERIVED. GIVEN WITH THE SEED: THE CARDS: each row of YtmbdcehmeiiaoaaGreatDoorRows.lean that lists a variable, with what it lists TIED to the program's text (the seventh form; the later family's looks); each row that meets fmt, with fmt's text TOLD by the authors' own Lean function (tested against real Go, not proved from fmt's source: count such statements apart). THE CARD IS WHAT COUNTS. Prove the row's statement (the work); the ties are given (YtmbdcehmeiiaoaaGreatDoorTie.lean); close each card by the builder's one call (the guide's Derived/Test/ToyasCard.lean, 'card_holds'). Laid BY PROGRAM, IN A SANDBOX (cutbox-door.mjs). By AI agents, Wed Nov 11 2026. No macro, syntax, notation, axiom, sorry.
-/
import Derived.Test.YtmbdcehmeiiaoaaGreatDoorRows
import GoSem.ClaimSeven
namespace Go.Proofs.YtmbdcehmeiiaoaaGreatDoor
namespace Rows

/-- THE TIED CARD OF 'omnibuslaw.FrameRead'. -/
def frameReadCard : Claim7 := { stood := { row := frameReadRow, standIns := [], harness := (true, "3a9c5ad691785884110641622b2ebe6371007423d0f0327a112f8594ba140d9e"), looks := false }, kinds := [], alts := [], laidByText := true, laidKinds := [.data, .data, .data, .data, .pinned], laidTests := true, laidLooks := .later }
def FrameReadCardSaid : Prop := Claim7.holds Tryz.pinned (.plain (OpenSpec.ofChange frameReadSpec)) frameReadCard

/-- THE TIED CARD OF 'omnibuslaw.FrameBits'. -/
def frameBitsCard : Claim7 := { stood := { row := frameBitsRow, standIns := [], harness := (true, "3a9c5ad691785884110641622b2ebe6371007423d0f0327a112f8594ba140d9e"), looks := false }, kinds := [], alts := [], laidByText := true, laidKinds := [.data, .data, .data, .data, .pinned], laidTests := true, laidLooks := .later }
def FrameBitsCardSaid : Prop := Claim7.holds Tryz.pinned (.plain (OpenSpec.ofChange frameBitsSpec)) frameBitsCard

/-- THE TIED CARD OF 'omnibuslaw.FrameLongest'. -/
def frameLongestCard : Claim7 := { stood := { row := frameLongestRow, standIns := [], harness := (true, "3a9c5ad691785884110641622b2ebe6371007423d0f0327a112f8594ba140d9e"), looks := false }, kinds := [], alts := [], laidByText := true, laidKinds := [.data, .data, .data, .data, .pinned], laidTests := true, laidLooks := .later }
def FrameLongestCardSaid : Prop := Claim7.holds Tryz.pinned (.plain (OpenSpec.ofChange frameLongestSpec)) frameLongestCard

/-- THE TIED CARD OF 'omnibuslaw.WireSend'. -/
def wireSendCard : Claim7 := { stood := { row := wireSendRow, standIns := [], harness := (true, "3a9c5ad691785884110641622b2ebe6371007423d0f0327a112f8594ba140d9e"), looks := false }, kinds := [], alts := [], laidByText := true, laidKinds := [.data, .data, .data, .data, .pinned], laidTests := true, laidLooks := .later }
def WireSendCardSaid : Prop := Claim7.holds Tryz.pinned (.plain (OpenSpec.ofChange wireSendSpec)) wireSendCard

/-- THE TIED CARD OF 'omnibuslaw.WireNoise'. -/
def wireNoiseCard : Claim7 := { stood := { row := wireNoiseRow, standIns := [], harness := (true, "3a9c5ad691785884110641622b2ebe6371007423d0f0327a112f8594ba140d9e"), looks := false }, kinds := [], alts := [], laidByText := true, laidKinds := [.data, .data, .data, .data, .pinned], laidTests := true, laidLooks := .later }
def WireNoiseCardSaid : Prop := Claim7.holds Tryz.pinned (.plain (OpenSpec.ofChange wireNoiseSpec)) wireNoiseCard

/-- THE SECOND FORM's CARD OF 'omnibuslaw.FrameRead'. -/
def frameReadUptoCard : Claim7 := { stood := { row := frameReadUptoRow, standIns := [], harness := (true, "3a9c5ad691785884110641622b2ebe6371007423d0f0327a112f8594ba140d9e"), looks := false }, kinds := [], alts := [], laidByText := true, laidKinds := [.data, .data, .data, .data, .pinned], laidTests := true, laidLooks := .later }
def FrameReadUptoCardSaid : Prop := Claim7.holds Tryz.pinned (.plain (OpenSpec.upto frameReadSpec)) frameReadUptoCard

/-- THE SECOND FORM's CARD OF 'omnibuslaw.FrameBits'. -/
def frameBitsUptoCard : Claim7 := { stood := { row := frameBitsUptoRow, standIns := [], harness := (true, "3a9c5ad691785884110641622b2ebe6371007423d0f0327a112f8594ba140d9e"), looks := false }, kinds := [], alts := [], laidByText := true, laidKinds := [.data, .data, .data, .data, .pinned], laidTests := true, laidLooks := .later }
def FrameBitsUptoCardSaid : Prop := Claim7.holds Tryz.pinned (.plain (OpenSpec.upto frameBitsSpec)) frameBitsUptoCard

/-- THE SECOND FORM's CARD OF 'omnibuslaw.FrameLongest'. -/
def frameLongestUptoCard : Claim7 := { stood := { row := frameLongestUptoRow, standIns := [], harness := (true, "3a9c5ad691785884110641622b2ebe6371007423d0f0327a112f8594ba140d9e"), looks := false }, kinds := [], alts := [], laidByText := true, laidKinds := [.data, .data, .data, .data, .pinned], laidTests := true, laidLooks := .later }
def FrameLongestUptoCardSaid : Prop := Claim7.holds Tryz.pinned (.plain (OpenSpec.upto frameLongestSpec)) frameLongestUptoCard

/-- THE SECOND FORM's CARD OF 'omnibuslaw.WireSend'. -/
def wireSendUptoCard : Claim7 := { stood := { row := wireSendUptoRow, standIns := [], harness := (true, "3a9c5ad691785884110641622b2ebe6371007423d0f0327a112f8594ba140d9e"), looks := false }, kinds := [], alts := [], laidByText := true, laidKinds := [.data, .data, .data, .data, .pinned], laidTests := true, laidLooks := .later }
def WireSendUptoCardSaid : Prop := Claim7.holds Tryz.pinned (.plain (OpenSpec.upto wireSendSpec)) wireSendUptoCard

/-- THE SECOND FORM's CARD OF 'omnibuslaw.WireNoise'. -/
def wireNoiseUptoCard : Claim7 := { stood := { row := wireNoiseUptoRow, standIns := [], harness := (true, "3a9c5ad691785884110641622b2ebe6371007423d0f0327a112f8594ba140d9e"), looks := false }, kinds := [], alts := [], laidByText := true, laidKinds := [.data, .data, .data, .data, .pinned], laidTests := true, laidLooks := .later }
def WireNoiseUptoCardSaid : Prop := Claim7.holds Tryz.pinned (.plain (OpenSpec.upto wireNoiseSpec)) wireNoiseUptoCard
end Rows
end Go.Proofs.YtmbdcehmeiiaoaaGreatDoor
