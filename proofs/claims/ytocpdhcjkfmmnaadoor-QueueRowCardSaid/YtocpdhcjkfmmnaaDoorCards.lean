/-
  DERIVED. GIVEN WITH THE SEED: THE CARDS: each row of YtocpdhcjkfmmnaaDoorRows.lean that lists a variable, with what it lists TIED to the program's text (the seventh form; the later family's looks); each row that meets fmt, with fmt's text TOLD by the authors' own Lean function (tested against real Go, not proved from fmt's source: count such statements apart). THE CARD IS WHAT COUNTS. Prove the row's statement (the work); the ties are given (YtocpdhcjkfmmnaaDoorTie.lean); close each card by the builder's one call (the guide's Derived/Test/ToyasCard.lean, 'card_holds'). Laid BY PROGRAM, IN A SANDBOX (cutbox-door.mjs). By AI agents, Wed Nov 11 2026. No macro, syntax, notation, axiom, sorry.
-/
import Derived.Test.YtocpdhcjkfmmnaaDoorRows
import GoSem.ClaimSeven
namespace Go.Proofs.YtocpdhcjkfmmnaaDoor
namespace Rows

/-- THE TIED CARD OF 'omnibuslaw.QueueMerge'. -/
def queueMergeCard : Claim7 := { stood := { row := queueMergeRow, standIns := [], harness := (true, "c4526ad80e37499794a1e3a5d55ed0b5ec27ea86fdd27c9de7ae0a86a74f079d"), looks := false }, kinds := [], alts := [], laidByText := true, laidKinds := [.data, .data, .data], laidTests := true, laidLooks := .later }
def QueueMergeCardSaid : Prop := Claim7.holds Tryd.pinned (.plain (OpenSpec.ofChange queueMergeSpec)) queueMergeCard

/-- THE TIED CARD OF 'omnibuslaw.QueuePut'. -/
def queuePutCard : Claim7 := { stood := { row := queuePutRow, standIns := [], harness := (true, "c4526ad80e37499794a1e3a5d55ed0b5ec27ea86fdd27c9de7ae0a86a74f079d"), looks := false }, kinds := [], alts := [], laidByText := true, laidKinds := [.data, .data, .data], laidTests := true, laidLooks := .later }
def QueuePutCardSaid : Prop := Claim7.holds Tryd.pinned (.plain (OpenSpec.ofChange queuePutSpec)) queuePutCard

/-- THE TIED CARD OF 'omnibuslaw.QueueRow'. -/
def queueRowCard : Claim7 := { stood := { row := queueRowRow, standIns := [], harness := (true, "c4526ad80e37499794a1e3a5d55ed0b5ec27ea86fdd27c9de7ae0a86a74f079d"), looks := false }, kinds := [], alts := [], laidByText := true, laidKinds := [.data, .data, .data], laidTests := true, laidLooks := .later }
def QueueRowCardSaid : Prop := Claim7.holds Tryd.pinned (.plain (OpenSpec.ofChange queueRowSpec)) queueRowCard

/-- THE SECOND FORM's CARD OF 'omnibuslaw.QueueMerge'. -/
def queueMergeUptoCard : Claim7 := { stood := { row := queueMergeUptoRow, standIns := [], harness := (true, "c4526ad80e37499794a1e3a5d55ed0b5ec27ea86fdd27c9de7ae0a86a74f079d"), looks := false }, kinds := [], alts := [], laidByText := true, laidKinds := [.data, .data, .data], laidTests := true, laidLooks := .later }
def QueueMergeUptoCardSaid : Prop := Claim7.holds Tryd.pinned (.plain (OpenSpec.upto queueMergeSpec)) queueMergeUptoCard

/-- THE SECOND FORM's CARD OF 'omnibuslaw.QueuePut'. -/
def queuePutUptoCard : Claim7 := { stood := { row := queuePutUptoRow, standIns := [], harness := (true, "c4526ad80e37499794a1e3a5d55ed0b5ec27ea86fdd27c9de7ae0a86a74f079d"), looks := false }, kinds := [], alts := [], laidByText := true, laidKinds := [.data, .data, .data], laidTests := true, laidLooks := .later }
def QueuePutUptoCardSaid : Prop := Claim7.holds Tryd.pinned (.plain (OpenSpec.upto queuePutSpec)) queuePutUptoCard

/-- THE SECOND FORM's CARD OF 'omnibuslaw.QueueRow'. -/
def queueRowUptoCard : Claim7 := { stood := { row := queueRowUptoRow, standIns := [], harness := (true, "c4526ad80e37499794a1e3a5d55ed0b5ec27ea86fdd27c9de7ae0a86a74f079d"), looks := false }, kinds := [], alts := [], laidByText := true, laidKinds := [.data, .data, .data], laidTests := true, laidLooks := .later }
def QueueRowUptoCardSaid : Prop := Claim7.holds Tryd.pinned (.plain (OpenSpec.upto queueRowSpec)) queueRowUptoCard
end Rows
end Go.Proofs.YtocpdhcjkfmmnaaDoor
