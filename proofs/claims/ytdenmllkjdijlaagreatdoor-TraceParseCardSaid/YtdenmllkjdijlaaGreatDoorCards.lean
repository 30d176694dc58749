/-
  DERIVED. GIVEN WITH THE SEED: THE CARDS: each row of YtdenmllkjdijlaaGreatDoorRows.lean that lists a variable, with what it lists TIED to the program's text (the seventh form; the later family's looks); each row that meets fmt, with fmt's text TOLD by the authors' own Lean function (tested against real Go, not proved from fmt's source: count such statements apart). THE CARD IS WHAT COUNTS. Prove the row's statement (the work); the ties are given (YtdenmllkjdijlaaGreatDoorTie.lean); close each card by the builder's one call (the guide's Derived/Test/ToyasCard.lean, 'card_holds'). Laid BY PROGRAM, IN A SANDBOX (cutbox-door.mjs). By AI agents, Wed Nov 11 2026. No macro, syntax, notation, axiom, sorry.
-/
import Derived.Test.YtdenmllkjdijlaaGreatDoorRows
import GoSem.ClaimSeven
namespace Go.Proofs.YtdenmllkjdijlaaGreatDoor
namespace Rows

/-- THE TIED CARD OF 'omnibuslaw.TraceTally'. -/
def traceTallyCard : Claim7 := { stood := { row := traceTallyRow, standIns := [], harness := (true, "6eb0c1ee029ecfff89ffa9aa277552fc550d25e03c4c1c4f9e3fca33974c3b74"), looks := true }, kinds := [], alts := [], laidByText := true, laidKinds := [.data, .data, .data, .data, .sentinel, .sentinel, .pinned], laidTests := true, laidLooks := .later }
def TraceTallyCardSaid : Prop := Claim7.holds Tryz.pinned (.plain (OpenSpec.ofChange traceTallySpec)) traceTallyCard

/-- THE TIED CARD OF 'omnibuslaw.TraceParse'. -/
def traceParseCard : Claim7 := { stood := { row := traceParseRow, standIns := [], harness := (true, "6eb0c1ee029ecfff89ffa9aa277552fc550d25e03c4c1c4f9e3fca33974c3b74"), looks := true }, kinds := [], alts := [], laidByText := true, laidKinds := [.data, .data, .data, .data, .sentinel, .sentinel, .pinned], laidTests := true, laidLooks := .later }
def TraceParseCardSaid : Prop := Claim7.holds Tryz.pinned (.plain (OpenSpec.ofChange traceParseSpec)) traceParseCard

/-- THE TIED CARD OF 'omnibuslaw.TraceBack'. -/
def traceBackCard : Claim7 := { stood := { row := traceBackRow, standIns := [], harness := (true, "6eb0c1ee029ecfff89ffa9aa277552fc550d25e03c4c1c4f9e3fca33974c3b74"), looks := true }, kinds := [], alts := [], laidByText := true, laidKinds := [.data, .data, .data, .data, .sentinel, .sentinel, .pinned], laidTests := true, laidLooks := .later }
def TraceBackCardSaid : Prop := Claim7.holds Tryz.pinned (.plain (OpenSpec.ofChange traceBackSpec)) traceBackCard

/-- THE SECOND FORM's CARD OF 'omnibuslaw.TraceTally'. -/
def traceTallyUptoCard : Claim7 := { stood := { row := traceTallyUptoRow, standIns := [], harness := (true, "6eb0c1ee029ecfff89ffa9aa277552fc550d25e03c4c1c4f9e3fca33974c3b74"), looks := true }, kinds := [], alts := [], laidByText := true, laidKinds := [.data, .data, .data, .data, .sentinel, .sentinel, .pinned], laidTests := true, laidLooks := .later }
def TraceTallyUptoCardSaid : Prop := Claim7.holds Tryz.pinned (.plain (OpenSpec.upto traceTallySpec)) traceTallyUptoCard

/-- THE SECOND FORM's CARD OF 'omnibuslaw.TraceParse'. -/
def traceParseUptoCard : Claim7 := { stood := { row := traceParseUptoRow, standIns := [], harness := (true, "6eb0c1ee029ecfff89ffa9aa277552fc550d25e03c4c1c4f9e3fca33974c3b74"), looks := true }, kinds := [], alts := [], laidByText := true, laidKinds := [.data, .data, .data, .data, .sentinel, .sentinel, .pinned], laidTests := true, laidLooks := .later }
def TraceParseUptoCardSaid : Prop := Claim7.holds Tryz.pinned (.plain (OpenSpec.upto traceParseSpec)) traceParseUptoCard

/-- THE SECOND FORM's CARD OF 'omnibuslaw.TraceBack'. -/
def traceBackUptoCard : Claim7 := { stood := { row := traceBackUptoRow, standIns := [], harness := (true, "6eb0c1ee029ecfff89ffa9aa277552fc550d25e03c4c1c4f9e3fca33974c3b74"), looks := true }, kinds := [], alts := [], laidByText := true, laidKinds := [.data, .data, .data, .data, .sentinel, .sentinel, .pinned], laidTests := true, laidLooks := .later }
def TraceBackUptoCardSaid : Prop := Claim7.holds Tryz.pinned (.plain (OpenSpec.upto traceBackSpec)) traceBackUptoCard
end Rows
end Go.Proofs.YtdenmllkjdijlaaGreatDoor
