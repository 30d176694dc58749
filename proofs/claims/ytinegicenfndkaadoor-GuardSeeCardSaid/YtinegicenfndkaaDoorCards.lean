/-
  DERIVED. GIVEN WITH THE SEED: THE CARDS: each row of YtinegicenfndkaaDoorRows.lean that lists a variable, with what it lists TIED to the program's text (the seventh form; the later family's looks); each row that meets fmt, with fmt's text TOLD by the authors' own Lean function (tested against real Go, not proved from fmt's source: count such statements apart). THE CARD IS WHAT COUNTS. Prove the row's statement (the work); the ties are given (YtinegicenfndkaaDoorTie.lean); close each card by the builder's one call (the guide's Derived/Test/ToyasCard.lean, 'card_holds'). Laid BY PROGRAM, IN A SANDBOX (cutbox-door.mjs). By AI agents, Wed Nov 11 2026. No macro, syntax, notation, axiom, sorry.
-/
import Derived.Test.YtinegicenfndkaaDoorRows
import GoSem.ClaimSeven
namespace Go.Proofs.YtinegicenfndkaaDoor
namespace Rows

/-- THE TIED CARD OF 'omnibuslaw.CheckAdds'. -/
def checkAddsCard : Claim7 := { stood := { row := checkAddsRow, standIns := [], harness := (true, "98c69b9ecb572787d9e0c76e983872d06cc5b5adff8710e1d1a990a0f2e30f99"), looks := false }, kinds := [], alts := [], laidByText := true, laidKinds := [.data, .pinned], laidTests := true, laidLooks := .later }
def CheckAddsCardSaid : Prop := Claim7.holds Tryd.pinned (.plain (OpenSpec.ofChange checkAddsSpec)) checkAddsCard

/-- THE TIED CARD OF 'omnibuslaw.CheckSees'. -/
def checkSeesCard : Claim7 := { stood := { row := checkSeesRow, standIns := [], harness := (true, "98c69b9ecb572787d9e0c76e983872d06cc5b5adff8710e1d1a990a0f2e30f99"), looks := false }, kinds := [], alts := [], laidByText := true, laidKinds := [.data, .pinned], laidTests := true, laidLooks := .later }
def CheckSeesCardSaid : Prop := Claim7.holds Tryd.pinned (.plain (OpenSpec.ofChange checkSeesSpec)) checkSeesCard

/-- THE TIED CARD OF 'omnibuslaw.CheckSum'. -/
def checkSumCard : Claim7 := { stood := { row := checkSumRow, standIns := [], harness := (true, "98c69b9ecb572787d9e0c76e983872d06cc5b5adff8710e1d1a990a0f2e30f99"), looks := false }, kinds := [], alts := [], laidByText := true, laidKinds := [.data, .data, .data, .data, .pinned], laidTests := true, laidLooks := .later }
def CheckSumCardSaid : Prop := Claim7.holds Tryd.pinned (.plain (OpenSpec.ofChange checkSumSpec)) checkSumCard

/-- THE TIED CARD OF 'omnibuslaw.QueueMerge'. -/
def queueMergeCard : Claim7 := { stood := { row := queueMergeRow, standIns := [], harness := (true, "98c69b9ecb572787d9e0c76e983872d06cc5b5adff8710e1d1a990a0f2e30f99"), looks := false }, kinds := [], alts := [], laidByText := true, laidKinds := [.data, .data, .data], laidTests := true, laidLooks := .later }
def QueueMergeCardSaid : Prop := Claim7.holds Tryd.pinned (.plain (OpenSpec.ofChange queueMergeSpec)) queueMergeCard

/-- THE TIED CARD OF 'omnibuslaw.QueuePut'. -/
def queuePutCard : Claim7 := { stood := { row := queuePutRow, standIns := [], harness := (true, "98c69b9ecb572787d9e0c76e983872d06cc5b5adff8710e1d1a990a0f2e30f99"), looks := false }, kinds := [], alts := [], laidByText := true, laidKinds := [.data, .data, .data], laidTests := true, laidLooks := .later }
def QueuePutCardSaid : Prop := Claim7.holds Tryd.pinned (.plain (OpenSpec.ofChange queuePutSpec)) queuePutCard

/-- THE TIED CARD OF 'omnibuslaw.QueueRow'. -/
def queueRowCard : Claim7 := { stood := { row := queueRowRow, standIns := [], harness := (true, "98c69b9ecb572787d9e0c76e983872d06cc5b5adff8710e1d1a990a0f2e30f99"), looks := false }, kinds := [], alts := [], laidByText := true, laidKinds := [.data, .data, .data], laidTests := true, laidLooks := .later }
def QueueRowCardSaid : Prop := Claim7.holds Tryd.pinned (.plain (OpenSpec.ofChange queueRowSpec)) queueRowCard

/-- THE TIED CARD OF 'omnibuslaw.GuardSee'. -/
def guardSeeCard : Claim7 := { stood := { row := guardSeeRow, standIns := [], harness := (true, "98c69b9ecb572787d9e0c76e983872d06cc5b5adff8710e1d1a990a0f2e30f99"), looks := false }, kinds := [], alts := [], laidByText := true, laidKinds := [.data, .data, .data], laidTests := true, laidLooks := .later }
def GuardSeeCardSaid : Prop := Claim7.holds Tryd.pinned (.plain (OpenSpec.ofChange guardSeeSpec)) guardSeeCard

/-- THE TIED CARD OF 'omnibuslaw.GuardPut'. -/
def guardPutCard : Claim7 := { stood := { row := guardPutRow, standIns := [], harness := (true, "98c69b9ecb572787d9e0c76e983872d06cc5b5adff8710e1d1a990a0f2e30f99"), looks := false }, kinds := [], alts := [], laidByText := true, laidKinds := [.data, .data, .data], laidTests := true, laidLooks := .later }
def GuardPutCardSaid : Prop := Claim7.holds Tryd.pinned (.plain (OpenSpec.ofChange guardPutSpec)) guardPutCard

/-- THE SECOND FORM's CARD OF 'omnibuslaw.CheckAdds'. -/
def checkAddsUptoCard : Claim7 := { stood := { row := checkAddsUptoRow, standIns := [], harness := (true, "98c69b9ecb572787d9e0c76e983872d06cc5b5adff8710e1d1a990a0f2e30f99"), looks := false }, kinds := [], alts := [], laidByText := true, laidKinds := [.data, .pinned], laidTests := true, laidLooks := .later }
def CheckAddsUptoCardSaid : Prop := Claim7.holds Tryd.pinned (.plain (OpenSpec.upto checkAddsSpec)) checkAddsUptoCard

/-- THE SECOND FORM's CARD OF 'omnibuslaw.CheckSees'. -/
def checkSeesUptoCard : Claim7 := { stood := { row := checkSeesUptoRow, standIns := [], harness := (true, "98c69b9ecb572787d9e0c76e983872d06cc5b5adff8710e1d1a990a0f2e30f99"), looks := false }, kinds := [], alts := [], laidByText := true, laidKinds := [.data, .pinned], laidTests := true, laidLooks := .later }
def CheckSeesUptoCardSaid : Prop := Claim7.holds Tryd.pinned (.plain (OpenSpec.upto checkSeesSpec)) checkSeesUptoCard

/-- THE SECOND FORM's CARD OF 'omnibuslaw.CheckSum'. -/
def checkSumUptoCard : Claim7 := { stood := { row := checkSumUptoRow, standIns := [], harness := (true, "98c69b9ecb572787d9e0c76e983872d06cc5b5adff8710e1d1a990a0f2e30f99"), looks := false }, kinds := [], alts := [], laidByText := true, laidKinds := [.data, .data, .data, .data, .pinned], laidTests := true, laidLooks := .later }
def CheckSumUptoCardSaid : Prop := Claim7.holds Tryd.pinned (.plain (OpenSpec.upto checkSumSpec)) checkSumUptoCard

/-- THE SECOND FORM's CARD OF 'omnibuslaw.QueueMerge'. -/
def queueMergeUptoCard : Claim7 := { stood := { row := queueMergeUptoRow, standIns := [], harness := (true, "98c69b9ecb572787d9e0c76e983872d06cc5b5adff8710e1d1a990a0f2e30f99"), looks := false }, kinds := [], alts := [], laidByText := true, laidKinds := [.data, .data, .data], laidTests := true, laidLooks := .later }
def QueueMergeUptoCardSaid : Prop := Claim7.holds Tryd.pinned (.plain (OpenSpec.upto queueMergeSpec)) queueMergeUptoCard

/-- THE SECOND FORM's CARD OF 'omnibuslaw.QueuePut'. -/
def queuePutUptoCard : Claim7 := { stood := { row := queuePutUptoRow, standIns := [], harness := (true, "98c69b9ecb572787d9e0c76e983872d06cc5b5adff8710e1d1a990a0f2e30f99"), looks := false }, kinds := [], alts := [], laidByText := true, laidKinds := [.data, .data, .data], laidTests := true, laidLooks := .later }
def QueuePutUptoCardSaid : Prop := Claim7.holds Tryd.pinned (.plain (OpenSpec.upto queuePutSpec)) queuePutUptoCard

/-- THE SECOND FORM's CARD OF 'omnibuslaw.QueueRow'. -/
def queueRowUptoCard : Claim7 := { stood := { row := queueRowUptoRow, standIns := [], harness := (true, "98c69b9ecb572787d9e0c76e983872d06cc5b5adff8710e1d1a990a0f2e30f99"), looks := false }, kinds := [], alts := [], laidByText := true, laidKinds := [.data, .data, .data], laidTests := true, laidLooks := .later }
def QueueRowUptoCardSaid : Prop := Claim7.holds Tryd.pinned (.plain (OpenSpec.upto queueRowSpec)) queueRowUptoCard

/-- THE SECOND FORM's CARD OF 'omnibuslaw.GuardSee'. -/
def guardSeeUptoCard : Claim7 := { stood := { row := guardSeeUptoRow, standIns := [], harness := (true, "98c69b9ecb572787d9e0c76e983872d06cc5b5adff8710e1d1a990a0f2e30f99"), looks := false }, kinds := [], alts := [], laidByText := true, laidKinds := [.data, .data, .data], laidTests := true, laidLooks := .later }
def GuardSeeUptoCardSaid : Prop := Claim7.holds Tryd.pinned (.plain (OpenSpec.upto guardSeeSpec)) guardSeeUptoCard

/-- THE SECOND FORM's CARD OF 'omnibuslaw.GuardPut'. -/
def guardPutUptoCard : Claim7 := { stood := { row := guardPutUptoRow, standIns := [], harness := (true, "98c69b9ecb572787d9e0c76e983872d06cc5b5adff8710e1d1a990a0f2e30f99"), looks := false }, kinds := [], alts := [], laidByText := true, laidKinds := [.data, .data, .data], laidTests := true, laidLooks := .later }
def GuardPutUptoCardSaid : Prop := Claim7.holds Tryd.pinned (.plain (OpenSpec.upto guardPutSpec)) guardPutUptoCard
end Rows
end Go.Proofs.YtinegicenfndkaaDoor
