/-
  DERIVED. GIVEN WITH THE SEED: THE CARDS: each row of YtginlmgkimfjmaaDoorRows.lean that lists a variable, with what it lists TIED to the program's text (the seventh form; the later family's looks); each row that meets fmt, with fmt's text TOLD by the authors' own Lean function (tested against real Go, not proved from fmt's source: count such statements apart). THE CARD IS WHAT COUNTS. Prove the row's statement (the work); the ties are given (YtginlmgkimfjmaaDoorTie.lean); close each card by the builder's one call (the guide's Derived/Test/ToyasCard.lean, 'card_holds'). Laid BY PROGRAM, IN A SANDBOX (cutbox-door.mjs). By AI agents, Wed Nov 11 2026. No macro, syntax, notation, axiom, sorry.
-/
import Derived.Test.YtginlmgkimfjmaaDoorRows
import GoSem.ClaimSeven
namespace Go.Proofs.YtginlmgkimfjmaaDoor
namespace Rows

/-- THE TIED CARD OF 'omnibuslaw.DelayWorst'. -/
def delayWorstCard : Claim7 := { stood := { row := delayWorstRow, standIns := [], harness := (true, "9ea87e7d28f73f536ed3e969bba934e704398fe98a5cdc8abf20ae727dc77f43"), looks := false }, kinds := [], alts := [], laidByText := true, laidKinds := [.data, .data, .data], laidTests := true, laidLooks := .later }
def DelayWorstCardSaid : Prop := Claim7.holds Tryd.pinned (.plain (OpenSpec.ofChange delayWorstSpec)) delayWorstCard

/-- THE TIED CARD OF 'omnibuslaw.SchedPlay'. -/
def schedPlayCard : Claim7 := { stood := { row := schedPlayRow, standIns := [], harness := (true, "9ea87e7d28f73f536ed3e969bba934e704398fe98a5cdc8abf20ae727dc77f43"), looks := false }, kinds := [], alts := [], laidByText := true, laidKinds := [.data, .data, .data], laidTests := true, laidLooks := .later }
def SchedPlayCardSaid : Prop := Claim7.holds Tryd.pinned (.plain (OpenSpec.ofChange schedPlaySpec)) schedPlayCard

/-- THE SECOND FORM's CARD OF 'omnibuslaw.DelayWorst'. -/
def delayWorstUptoCard : Claim7 := { stood := { row := delayWorstUptoRow, standIns := [], harness := (true, "9ea87e7d28f73f536ed3e969bba934e704398fe98a5cdc8abf20ae727dc77f43"), looks := false }, kinds := [], alts := [], laidByText := true, laidKinds := [.data, .data, .data], laidTests := true, laidLooks := .later }
def DelayWorstUptoCardSaid : Prop := Claim7.holds Tryd.pinned (.plain (OpenSpec.upto delayWorstSpec)) delayWorstUptoCard

/-- THE SECOND FORM's CARD OF 'omnibuslaw.SchedPlay'. -/
def schedPlayUptoCard : Claim7 := { stood := { row := schedPlayUptoRow, standIns := [], harness := (true, "9ea87e7d28f73f536ed3e969bba934e704398fe98a5cdc8abf20ae727dc77f43"), looks := false }, kinds := [], alts := [], laidByText := true, laidKinds := [.data, .data, .data], laidTests := true, laidLooks := .later }
def SchedPlayUptoCardSaid : Prop := Claim7.holds Tryd.pinned (.plain (OpenSpec.upto schedPlaySpec)) schedPlayUptoCard
end Rows
end Go.Proofs.YtginlmgkimfjmaaDoor
