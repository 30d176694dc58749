/-
  DERIVED. GIVEN WITH THE SEED: THE CARDS: each row of YtdenmllkjdijlaaDoorRows.lean that lists a variable, with what it lists TIED to the program's text (the seventh form; the later family's looks); each row that meets fmt, with fmt's text TOLD by the authors' own Lean function (tested against real Go, not proved from fmt's source: count such statements apart). THE CARD IS WHAT COUNTS. Prove the row's statement (the work); the ties are given (YtdenmllkjdijlaaDoorTie.lean); close each card by the builder's one call (the guide's Derived/Test/ToyasCard.lean, 'card_holds'). Laid BY PROGRAM, IN A SANDBOX (cutbox-door.mjs). By AI agents, Wed Nov 11 2026. No macro, syntax, notation, axiom, sorry.
-/
import Derived.Test.YtdenmllkjdijlaaDoorRows
import GoSem.ClaimSeven
namespace Go.Proofs.YtdenmllkjdijlaaDoor
namespace Rows

/-- THE TIED CARD OF 'omnibuslaw.TraceJoin'. -/
def traceJoinCard : Claim7 := { stood := { row := traceJoinRow, standIns := [], harness := (true, "a22ee29de701956f43edbd631093d4916683e239dbad10d1402a3fb67f195746"), looks := true }, kinds := [], alts := [], laidByText := true, laidKinds := [.data, .data, .data, .data, .sentinel, .sentinel, .pinned], laidTests := true, laidLooks := .later }
def TraceJoinCardSaid : Prop := Claim7.holds Tryd.pinned (.plain (OpenSpec.ofChange traceJoinSpec)) traceJoinCard

/-- THE TIED CARD OF 'omnibuslaw.TracePrint'. -/
def tracePrintCard : Claim7 := { stood := { row := tracePrintRow, standIns := [], harness := (true, "a22ee29de701956f43edbd631093d4916683e239dbad10d1402a3fb67f195746"), looks := true }, kinds := [], alts := [], laidByText := true, laidKinds := [.data, .data, .data, .data, .sentinel, .sentinel, .pinned], laidTests := true, laidLooks := .later }
def TracePrintCardSaid : Prop := Claim7.holds Tryd.pinned (.plain (OpenSpec.ofChange tracePrintSpec)) tracePrintCard

/-- THE SECOND FORM's CARD OF 'omnibuslaw.TraceJoin'. -/
def traceJoinUptoCard : Claim7 := { stood := { row := traceJoinUptoRow, standIns := [], harness := (true, "a22ee29de701956f43edbd631093d4916683e239dbad10d1402a3fb67f195746"), looks := true }, kinds := [], alts := [], laidByText := true, laidKinds := [.data, .data, .data, .data, .sentinel, .sentinel, .pinned], laidTests := true, laidLooks := .later }
def TraceJoinUptoCardSaid : Prop := Claim7.holds Tryd.pinned (.plain (OpenSpec.upto traceJoinSpec)) traceJoinUptoCard

/-- THE SECOND FORM's CARD OF 'omnibuslaw.TracePrint'. -/
def tracePrintUptoCard : Claim7 := { stood := { row := tracePrintUptoRow, standIns := [], harness := (true, "a22ee29de701956f43edbd631093d4916683e239dbad10d1402a3fb67f195746"), looks := true }, kinds := [], alts := [], laidByText := true, laidKinds := [.data, .data, .data, .data, .sentinel, .sentinel, .pinned], laidTests := true, laidLooks := .later }
def TracePrintUptoCardSaid : Prop := Claim7.holds Tryd.pinned (.plain (OpenSpec.upto tracePrintSpec)) tracePrintUptoCard
end Rows
end Go.Proofs.YtdenmllkjdijlaaDoor
