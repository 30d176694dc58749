/-
  DERIVED. GIVEN WITH THE SEED: THE CARDS: each row of YtfafpnacflcgmaaDoorRows.lean that lists a variable, with what it lists TIED to the program's text (the seventh form; the later family's looks); each row that meets fmt, with fmt's text TOLD by the authors' own Lean function (tested against real Go, not proved from fmt's source: count such statements apart). THE CARD IS WHAT COUNTS. Prove the row's statement (the work); the ties are given (YtfafpnacflcgmaaDoorTie.lean); close each card by the builder's one call (the guide's Derived/Test/ToyasCard.lean, 'card_holds'). Laid BY PROGRAM, IN A SANDBOX (cutbox-door.mjs). By AI agents, Wed Nov 11 2026. No macro, syntax, notation, axiom, sorry.
-/
import Derived.Test.YtfafpnacflcgmaaDoorRows
import GoSem.ClaimSeven
namespace Go.Proofs.YtfafpnacflcgmaaDoor
namespace Rows

/-- THE TIED CARD OF 'omnibuslaw.BitsJoin'. -/
def bitsJoinCard : Claim7 := { stood := { row := bitsJoinRow, standIns := [], harness := (true, "43d405350672671b538dc6cba9d6eb27b836633f522fad0806fca704e67841c9"), looks := false }, kinds := [], alts := [], laidByText := true, laidKinds := [.data, .pinned], laidTests := true, laidLooks := .later }
def BitsJoinCardSaid : Prop := Claim7.holds Tryd.pinned (.plain (OpenSpec.ofChange bitsJoinSpec)) bitsJoinCard

/-- THE TIED CARD OF 'omnibuslaw.BitsBack'. -/
def bitsBackCard : Claim7 := { stood := { row := bitsBackRow, standIns := [], harness := (true, "43d405350672671b538dc6cba9d6eb27b836633f522fad0806fca704e67841c9"), looks := false }, kinds := [], alts := [], laidByText := true, laidKinds := [.data, .pinned], laidTests := true, laidLooks := .later }
def BitsBackCardSaid : Prop := Claim7.holds Tryd.pinned (.plain (OpenSpec.ofChange bitsBackSpec)) bitsBackCard

/-- THE TIED CARD OF 'omnibuslaw.BitsNumber'. -/
def bitsNumberCard : Claim7 := { stood := { row := bitsNumberRow, standIns := [], harness := (true, "43d405350672671b538dc6cba9d6eb27b836633f522fad0806fca704e67841c9"), looks := false }, kinds := [], alts := [], laidByText := true, laidKinds := [.data, .data, .data, .data, .pinned], laidTests := true, laidLooks := .later }
def BitsNumberCardSaid : Prop := Claim7.holds Tryd.pinned (.plain (OpenSpec.ofChange bitsNumberSpec)) bitsNumberCard

/-- THE TIED CARD OF 'omnibuslaw.BitsBytes'. -/
def bitsBytesCard : Claim7 := { stood := { row := bitsBytesRow, standIns := [], harness := (true, "43d405350672671b538dc6cba9d6eb27b836633f522fad0806fca704e67841c9"), looks := false }, kinds := [], alts := [], laidByText := true, laidKinds := [.data, .data, .data, .data, .pinned], laidTests := true, laidLooks := .later }
def BitsBytesCardSaid : Prop := Claim7.holds Tryd.pinned (.plain (OpenSpec.ofChange bitsBytesSpec)) bitsBytesCard

/-- THE TIED CARD OF 'omnibuslaw.StuffParts'. -/
def stuffPartsCard : Claim7 := { stood := { row := stuffPartsRow, standIns := [], harness := (true, "43d405350672671b538dc6cba9d6eb27b836633f522fad0806fca704e67841c9"), looks := false }, kinds := [], alts := [], laidByText := true, laidKinds := [.data, .pinned], laidTests := true, laidLooks := .later }
def StuffPartsCardSaid : Prop := Claim7.holds Tryd.pinned (.plain (OpenSpec.ofChange stuffPartsSpec)) stuffPartsCard

/-- THE TIED CARD OF 'omnibuslaw.StuffBack'. -/
def stuffBackCard : Claim7 := { stood := { row := stuffBackRow, standIns := [], harness := (true, "43d405350672671b538dc6cba9d6eb27b836633f522fad0806fca704e67841c9"), looks := false }, kinds := [], alts := [], laidByText := true, laidKinds := [.data, .pinned], laidTests := true, laidLooks := .later }
def StuffBackCardSaid : Prop := Claim7.holds Tryd.pinned (.plain (OpenSpec.ofChange stuffBackSpec)) stuffBackCard

/-- THE TIED CARD OF 'omnibuslaw.StuffPut'. -/
def stuffPutCard : Claim7 := { stood := { row := stuffPutRow, standIns := [], harness := (true, "43d405350672671b538dc6cba9d6eb27b836633f522fad0806fca704e67841c9"), looks := false }, kinds := [], alts := [], laidByText := true, laidKinds := [.data, .pinned], laidTests := true, laidLooks := .later }
def StuffPutCardSaid : Prop := Claim7.holds Tryd.pinned (.plain (OpenSpec.ofChange stuffPutSpec)) stuffPutCard

/-- THE TIED CARD OF 'omnibuslaw.StuffTake'. -/
def stuffTakeCard : Claim7 := { stood := { row := stuffTakeRow, standIns := [], harness := (true, "43d405350672671b538dc6cba9d6eb27b836633f522fad0806fca704e67841c9"), looks := false }, kinds := [], alts := [], laidByText := true, laidKinds := [.data, .pinned], laidTests := true, laidLooks := .later }
def StuffTakeCardSaid : Prop := Claim7.holds Tryd.pinned (.plain (OpenSpec.ofChange stuffTakeSpec)) stuffTakeCard

/-- THE TIED CARD OF 'omnibuslaw.StuffFixed'. -/
def stuffFixedCard : Claim7 := { stood := { row := stuffFixedRow, standIns := [], harness := (true, "43d405350672671b538dc6cba9d6eb27b836633f522fad0806fca704e67841c9"), looks := false }, kinds := [], alts := [], laidByText := true, laidKinds := [.data, .pinned], laidTests := true, laidLooks := .later }
def StuffFixedCardSaid : Prop := Claim7.holds Tryd.pinned (.plain (OpenSpec.ofChange stuffFixedSpec)) stuffFixedCard

/-- THE TIED CARD OF 'omnibuslaw.StuffTurned'. -/
def stuffTurnedCard : Claim7 := { stood := { row := stuffTurnedRow, standIns := [], harness := (true, "43d405350672671b538dc6cba9d6eb27b836633f522fad0806fca704e67841c9"), looks := false }, kinds := [], alts := [], laidByText := true, laidKinds := [.data, .pinned], laidTests := true, laidLooks := .later }
def StuffTurnedCardSaid : Prop := Claim7.holds Tryd.pinned (.plain (OpenSpec.ofChange stuffTurnedSpec)) stuffTurnedCard

/-- THE SECOND FORM's CARD OF 'omnibuslaw.BitsJoin'. -/
def bitsJoinUptoCard : Claim7 := { stood := { row := bitsJoinUptoRow, standIns := [], harness := (true, "43d405350672671b538dc6cba9d6eb27b836633f522fad0806fca704e67841c9"), looks := false }, kinds := [], alts := [], laidByText := true, laidKinds := [.data, .pinned], laidTests := true, laidLooks := .later }
def BitsJoinUptoCardSaid : Prop := Claim7.holds Tryd.pinned (.plain (OpenSpec.upto bitsJoinSpec)) bitsJoinUptoCard

/-- THE SECOND FORM's CARD OF 'omnibuslaw.BitsBack'. -/
def bitsBackUptoCard : Claim7 := { stood := { row := bitsBackUptoRow, standIns := [], harness := (true, "43d405350672671b538dc6cba9d6eb27b836633f522fad0806fca704e67841c9"), looks := false }, kinds := [], alts := [], laidByText := true, laidKinds := [.data, .pinned], laidTests := true, laidLooks := .later }
def BitsBackUptoCardSaid : Prop := Claim7.holds Tryd.pinned (.plain (OpenSpec.upto bitsBackSpec)) bitsBackUptoCard

/-- THE SECOND FORM's CARD OF 'omnibuslaw.BitsNumber'. -/
def bitsNumberUptoCard : Claim7 := { stood := { row := bitsNumberUptoRow, standIns := [], harness := (true, "43d405350672671b538dc6cba9d6eb27b836633f522fad0806fca704e67841c9"), looks := false }, kinds := [], alts := [], laidByText := true, laidKinds := [.data, .data, .data, .data, .pinned], laidTests := true, laidLooks := .later }
def BitsNumberUptoCardSaid : Prop := Claim7.holds Tryd.pinned (.plain (OpenSpec.upto bitsNumberSpec)) bitsNumberUptoCard

/-- THE SECOND FORM's CARD OF 'omnibuslaw.BitsBytes'. -/
def bitsBytesUptoCard : Claim7 := { stood := { row := bitsBytesUptoRow, standIns := [], harness := (true, "43d405350672671b538dc6cba9d6eb27b836633f522fad0806fca704e67841c9"), looks := false }, kinds := [], alts := [], laidByText := true, laidKinds := [.data, .data, .data, .data, .pinned], laidTests := true, laidLooks := .later }
def BitsBytesUptoCardSaid : Prop := Claim7.holds Tryd.pinned (.plain (OpenSpec.upto bitsBytesSpec)) bitsBytesUptoCard

/-- THE SECOND FORM's CARD OF 'omnibuslaw.StuffParts'. -/
def stuffPartsUptoCard : Claim7 := { stood := { row := stuffPartsUptoRow, standIns := [], harness := (true, "43d405350672671b538dc6cba9d6eb27b836633f522fad0806fca704e67841c9"), looks := false }, kinds := [], alts := [], laidByText := true, laidKinds := [.data, .pinned], laidTests := true, laidLooks := .later }
def StuffPartsUptoCardSaid : Prop := Claim7.holds Tryd.pinned (.plain (OpenSpec.upto stuffPartsSpec)) stuffPartsUptoCard

/-- THE SECOND FORM's CARD OF 'omnibuslaw.StuffBack'. -/
def stuffBackUptoCard : Claim7 := { stood := { row := stuffBackUptoRow, standIns := [], harness := (true, "43d405350672671b538dc6cba9d6eb27b836633f522fad0806fca704e67841c9"), looks := false }, kinds := [], alts := [], laidByText := true, laidKinds := [.data, .pinned], laidTests := true, laidLooks := .later }
def StuffBackUptoCardSaid : Prop := Claim7.holds Tryd.pinned (.plain (OpenSpec.upto stuffBackSpec)) stuffBackUptoCard

/-- THE SECOND FORM's CARD OF 'omnibuslaw.StuffPut'. -/
def stuffPutUptoCard : Claim7 := { stood := { row := stuffPutUptoRow, standIns := [], harness := (true, "43d405350672671b538dc6cba9d6eb27b836633f522fad0806fca704e67841c9"), looks := false }, kinds := [], alts := [], laidByText := true, laidKinds := [.data, .pinned], laidTests := true, laidLooks := .later }
def StuffPutUptoCardSaid : Prop := Claim7.holds Tryd.pinned (.plain (OpenSpec.upto stuffPutSpec)) stuffPutUptoCard

/-- THE SECOND FORM's CARD OF 'omnibuslaw.StuffTake'. -/
def stuffTakeUptoCard : Claim7 := { stood := { row := stuffTakeUptoRow, standIns := [], harness := (true, "43d405350672671b538dc6cba9d6eb27b836633f522fad0806fca704e67841c9"), looks := false }, kinds := [], alts := [], laidByText := true, laidKinds := [.data, .pinned], laidTests := true, laidLooks := .later }
def StuffTakeUptoCardSaid : Prop := Claim7.holds Tryd.pinned (.plain (OpenSpec.upto stuffTakeSpec)) stuffTakeUptoCard

/-- THE SECOND FORM's CARD OF 'omnibuslaw.StuffFixed'. -/
def stuffFixedUptoCard : Claim7 := { stood := { row := stuffFixedUptoRow, standIns := [], harness := (true, "43d405350672671b538dc6cba9d6eb27b836633f522fad0806fca704e67841c9"), looks := false }, kinds := [], alts := [], laidByText := true, laidKinds := [.data, .pinned], laidTests := true, laidLooks := .later }
def StuffFixedUptoCardSaid : Prop := Claim7.holds Tryd.pinned (.plain (OpenSpec.upto stuffFixedSpec)) stuffFixedUptoCard

/-- THE SECOND FORM's CARD OF 'omnibuslaw.StuffTurned'. -/
def stuffTurnedUptoCard : Claim7 := { stood := { row := stuffTurnedUptoRow, standIns := [], harness := (true, "43d405350672671b538dc6cba9d6eb27b836633f522fad0806fca704e67841c9"), looks := false }, kinds := [], alts := [], laidByText := true, laidKinds := [.data, .pinned], laidTests := true, laidLooks := .later }
def StuffTurnedUptoCardSaid : Prop := Claim7.holds Tryd.pinned (.plain (OpenSpec.upto stuffTurnedSpec)) stuffTurnedUptoCard
end Rows
end Go.Proofs.YtfafpnacflcgmaaDoor
