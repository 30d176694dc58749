/-
  No cell of these rows narrows 'for every input' (looked for: loops, veiled, ifaces, maps, wideKeys, modest, calm, conditions, laid).
  DERIVED. THE GIVEN ROWS OF THIS SEAT. 9 by the template 'for every input the law returns true; each argument reads behind the call as it read before'; 0 by the template 'total and deterministic' (their statements: YtginlmgkimfjmaaTotals.lean).
  GIVEN WITH THE SEED: the statements are not yours to turn. If you find one false, say at which input.
  Laid BY PROGRAM, IN A SANDBOX (cutbox-rows.mjs): the forced cells as the released guide's own fill.sh prints them over the translation ade958a3c416ea80… (all of the seat's roots in one cut). By AI agents, Wed Nov 11 2026. No macro, syntax, notation, axiom, sorry.
-/
import Derived.Test.YtginlmgkimfjmaaChecked
import GoSem.Claim
import GoSem.ClaimJoined
import GoSem.ClaimMapViews
import Derived.JoinedTies
import Derived.KernelRfl
namespace Go.Proofs.Ytginlmgkimfjmaa
/- THE CELL 'sum', in the pinned program and in every row, IS THE sha256 OF THE DUMP (.gsa) THAT YtginlmgkimfjmaaProg.lean LOADS. Nothing in Lean hashes anything: it is a label: what it is worth is what the hold of that sum in a sandbox is worth. -/
noncomputable def Try.pinned : Pinned := { name := "ytginlmgkimfjmaa", sum := "ade958a3c416ea80bda4ded00e38e66bc668ee0fa600fe8ed6f0844a6a36778f", checked := Try.checked }
namespace Rows
def none {H : Type} : Left H := { results := [], args := [] }

/-- 'omnibuslaw.GuardRow': WHATEVER THE INPUT: true; the input reads as it did. -/
def guardRowSpec : ChangeSpec := { name := "guardRow", fn := fun _ => fun
  | [d1, d2, d3, d4] => { results := [.lit (.bool true)], args := [d1, d2, d3, d4] }
  | _ => none }
def guardRowRow : OpenClaim := { program := "ytginlmgkimfjmaa", sum := "ade958a3c416ea80bda4ded00e38e66bc668ee0fa600fe8ed6f0844a6a36778f", func := "omnibus/omnibuslaw.GuardRow", spec := "guardRow", unfollowed := true, recurses := true, plainKeys := false, apart := false }
def GuardRowSaid : Prop := guardRowRow.holds Try.pinned (OpenSpec.ofChange guardRowSpec)

/-- ITS FALSE NEIGHBOUR: 'it returns false'. Refute it at one input. -/
def guardRowWrong : ChangeSpec := { name := "guardRow", fn := fun _ => fun
  | [d1, d2, d3, d4] => { results := [.lit (.bool false)], args := [d1, d2, d3, d4] }
  | _ => none }
def GuardRowWrongFalsely : Prop := guardRowRow.holds Try.pinned (OpenSpec.ofChange guardRowWrong)

/-- 'omnibuslaw.DelayMore': WHATEVER THE INPUT: true; the input reads as it did. -/
def delayMoreSpec : ChangeSpec := { name := "delayMore", fn := fun _ => fun
  | [d1, d2] => { results := [.lit (.bool true)], args := [d1, d2] }
  | _ => none }
def delayMoreRow : OpenClaim := { program := "ytginlmgkimfjmaa", sum := "ade958a3c416ea80bda4ded00e38e66bc668ee0fa600fe8ed6f0844a6a36778f", func := "omnibus/omnibuslaw.DelayMore", spec := "delayMore", inPlace := ["internal/abi.NoEscape"], unfollowed := true, recurses := true, plainKeys := false, apart := false }
def DelayMoreSaid : Prop := delayMoreRow.holds Try.pinned (OpenSpec.ofChange delayMoreSpec)

/-- ITS FALSE NEIGHBOUR: 'it returns false'. Refute it at one input. -/
def delayMoreWrong : ChangeSpec := { name := "delayMore", fn := fun _ => fun
  | [d1, d2] => { results := [.lit (.bool false)], args := [d1, d2] }
  | _ => none }
def DelayMoreWrongFalsely : Prop := delayMoreRow.holds Try.pinned (OpenSpec.ofChange delayMoreWrong)

/-- 'omnibuslaw.SchedOne': WHATEVER THE INPUT: true; the input reads as it did. -/
def schedOneSpec : ChangeSpec := { name := "schedOne", fn := fun _ => fun
  | [d1, d2, d3, d4] => { results := [.lit (.bool true)], args := [d1, d2, d3, d4] }
  | _ => none }
def schedOneRow : OpenClaim := { program := "ytginlmgkimfjmaa", sum := "ade958a3c416ea80bda4ded00e38e66bc668ee0fa600fe8ed6f0844a6a36778f", func := "omnibus/omnibuslaw.SchedOne", spec := "schedOne", inPlace := ["internal/abi.NoEscape"], unfollowed := true, recurses := true, plainKeys := false, apart := false }
def SchedOneSaid : Prop := schedOneRow.holds Try.pinned (OpenSpec.ofChange schedOneSpec)

/-- ITS FALSE NEIGHBOUR: 'it returns false'. Refute it at one input. -/
def schedOneWrong : ChangeSpec := { name := "schedOne", fn := fun _ => fun
  | [d1, d2, d3, d4] => { results := [.lit (.bool false)], args := [d1, d2, d3, d4] }
  | _ => none }
def SchedOneWrongFalsely : Prop := schedOneRow.holds Try.pinned (OpenSpec.ofChange schedOneWrong)

/-- 'omnibuslaw.SchedWaits': WHATEVER THE INPUT: true; the input reads as it did. -/
def schedWaitsSpec : ChangeSpec := { name := "schedWaits", fn := fun _ => fun
  | [d1, d2] => { results := [.lit (.bool true)], args := [d1, d2] }
  | _ => none }
def schedWaitsRow : OpenClaim := { program := "ytginlmgkimfjmaa", sum := "ade958a3c416ea80bda4ded00e38e66bc668ee0fa600fe8ed6f0844a6a36778f", func := "omnibus/omnibuslaw.SchedWaits", spec := "schedWaits", inPlace := ["internal/abi.NoEscape"], unfollowed := true, recurses := true, plainKeys := false, apart := false }
def SchedWaitsSaid : Prop := schedWaitsRow.holds Try.pinned (OpenSpec.ofChange schedWaitsSpec)

/-- ITS FALSE NEIGHBOUR: 'it returns false'. Refute it at one input. -/
def schedWaitsWrong : ChangeSpec := { name := "schedWaits", fn := fun _ => fun
  | [d1, d2] => { results := [.lit (.bool false)], args := [d1, d2] }
  | _ => none }
def SchedWaitsWrongFalsely : Prop := schedWaitsRow.holds Try.pinned (OpenSpec.ofChange schedWaitsWrong)

/-- 'omnibuslaw.SchedBound': WHATEVER THE INPUT: true; the input reads as it did. -/
def schedBoundSpec : ChangeSpec := { name := "schedBound", fn := fun _ => fun
  | [d1, d2, d3, d4] => { results := [.lit (.bool true)], args := [d1, d2, d3, d4] }
  | _ => none }
def schedBoundRow : OpenClaim := { program := "ytginlmgkimfjmaa", sum := "ade958a3c416ea80bda4ded00e38e66bc668ee0fa600fe8ed6f0844a6a36778f", func := "omnibus/omnibuslaw.SchedBound", spec := "schedBound", inPlace := ["internal/abi.NoEscape"], unfollowed := true, recurses := true, plainKeys := false, apart := false }
def SchedBoundSaid : Prop := schedBoundRow.holds Try.pinned (OpenSpec.ofChange schedBoundSpec)

/-- ITS FALSE NEIGHBOUR: 'it returns false'. Refute it at one input. -/
def schedBoundWrong : ChangeSpec := { name := "schedBound", fn := fun _ => fun
  | [d1, d2, d3, d4] => { results := [.lit (.bool false)], args := [d1, d2, d3, d4] }
  | _ => none }
def SchedBoundWrongFalsely : Prop := schedBoundRow.holds Try.pinned (OpenSpec.ofChange schedBoundWrong)

/-- 'omnibuslaw.RouteGoes': WHATEVER THE INPUT: true; the input reads as it did. -/
def routeGoesSpec : ChangeSpec := { name := "routeGoes", fn := fun _ => fun
  | [d1, d2, d3] => { results := [.lit (.bool true)], args := [d1, d2, d3] }
  | _ => none }
def routeGoesRow : OpenClaim := { program := "ytginlmgkimfjmaa", sum := "ade958a3c416ea80bda4ded00e38e66bc668ee0fa600fe8ed6f0844a6a36778f", func := "omnibus/omnibuslaw.RouteGoes", spec := "routeGoes", unfollowed := true, recurses := true, plainKeys := false, apart := false }
def RouteGoesSaid : Prop := routeGoesRow.holds Try.pinned (OpenSpec.ofChange routeGoesSpec)

/-- ITS FALSE NEIGHBOUR: 'it returns false'. Refute it at one input. -/
def routeGoesWrong : ChangeSpec := { name := "routeGoes", fn := fun _ => fun
  | [d1, d2, d3] => { results := [.lit (.bool false)], args := [d1, d2, d3] }
  | _ => none }
def RouteGoesWrongFalsely : Prop := routeGoesRow.holds Try.pinned (OpenSpec.ofChange routeGoesWrong)

/-- 'omnibuslaw.RouteMore': WHATEVER THE INPUT: true; the input reads as it did. -/
def routeMoreSpec : ChangeSpec := { name := "routeMore", fn := fun _ => fun
  | [d1, d2, d3, d4] => { results := [.lit (.bool true)], args := [d1, d2, d3, d4] }
  | _ => none }
def routeMoreRow : OpenClaim := { program := "ytginlmgkimfjmaa", sum := "ade958a3c416ea80bda4ded00e38e66bc668ee0fa600fe8ed6f0844a6a36778f", func := "omnibus/omnibuslaw.RouteMore", spec := "routeMore", unfollowed := true, recurses := true, plainKeys := false, apart := false }
def RouteMoreSaid : Prop := routeMoreRow.holds Try.pinned (OpenSpec.ofChange routeMoreSpec)

/-- ITS FALSE NEIGHBOUR: 'it returns false'. Refute it at one input. -/
def routeMoreWrong : ChangeSpec := { name := "routeMore", fn := fun _ => fun
  | [d1, d2, d3, d4] => { results := [.lit (.bool false)], args := [d1, d2, d3, d4] }
  | _ => none }
def RouteMoreWrongFalsely : Prop := routeMoreRow.holds Try.pinned (OpenSpec.ofChange routeMoreWrong)

/-- 'omnibuslaw.RouteStep': WHATEVER THE INPUT: true; the input reads as it did. -/
def routeStepSpec : ChangeSpec := { name := "routeStep", fn := fun _ => fun
  | [d1, d2, d3, d4] => { results := [.lit (.bool true)], args := [d1, d2, d3, d4] }
  | _ => none }
def routeStepRow : OpenClaim := { program := "ytginlmgkimfjmaa", sum := "ade958a3c416ea80bda4ded00e38e66bc668ee0fa600fe8ed6f0844a6a36778f", func := "omnibus/omnibuslaw.RouteStep", spec := "routeStep", unfollowed := true, recurses := true, plainKeys := false, apart := false }
def RouteStepSaid : Prop := routeStepRow.holds Try.pinned (OpenSpec.ofChange routeStepSpec)

/-- ITS FALSE NEIGHBOUR: 'it returns false'. Refute it at one input. -/
def routeStepWrong : ChangeSpec := { name := "routeStep", fn := fun _ => fun
  | [d1, d2, d3, d4] => { results := [.lit (.bool false)], args := [d1, d2, d3, d4] }
  | _ => none }
def RouteStepWrongFalsely : Prop := routeStepRow.holds Try.pinned (OpenSpec.ofChange routeStepWrong)

/-- 'omnibuslaw.RouteSpread': WHATEVER THE INPUT: true; the input reads as it did. -/
def routeSpreadSpec : ChangeSpec := { name := "routeSpread", fn := fun _ => fun
  | [d1, d2, d3] => { results := [.lit (.bool true)], args := [d1, d2, d3] }
  | _ => none }
def routeSpreadRow : OpenClaim := { program := "ytginlmgkimfjmaa", sum := "ade958a3c416ea80bda4ded00e38e66bc668ee0fa600fe8ed6f0844a6a36778f", func := "omnibus/omnibuslaw.RouteSpread", spec := "routeSpread", unfollowed := true, recurses := true, plainKeys := false, apart := false }
def RouteSpreadSaid : Prop := routeSpreadRow.holds Try.pinned (OpenSpec.ofChange routeSpreadSpec)

/-- ITS FALSE NEIGHBOUR: 'it returns false'. Refute it at one input. -/
def routeSpreadWrong : ChangeSpec := { name := "routeSpread", fn := fun _ => fun
  | [d1, d2, d3] => { results := [.lit (.bool false)], args := [d1, d2, d3] }
  | _ => none }
def RouteSpreadWrongFalsely : Prop := routeSpreadRow.holds Try.pinned (OpenSpec.ofChange routeSpreadWrong)

/- THE SECOND FORM. 'bulk': how many values and letters a reading holds, each counted each time it is reached (what is shared counts as often as it is met; a slice's spare places count too). A statement '..UptoSaid' is the law's where the arguments, and the package variables that the reading takes, are together of bulk at most 1048576: NARROWER than '..Said'. Prove '..Said' where nothing that the law and all that it calls make is longer than what came in: it says more and counts as full. Else prove '..UptoSaid'. A law counts once. -/
mutual
def uptoBulk {H : Type} : DataW H → Nat
  | .lit (.string bytes) => bytes.length + 1
  | .lit _ => 1
  | .nil => 1
  | .ptr d => uptoBulk d + 1
  | .slice elems spare => uptoBulkAll elems + uptoBulkAll spare + 1
  | .agg parts => uptoBulkAll parts + 1
  | .iface _ d => uptoBulk d + 1
  | .map entries => uptoBulkEntries entries + 1
  | .held _ => 1
def uptoBulkAll {H : Type} : List (DataW H) → Nat
  | [] => 0
  | d :: r => uptoBulk d + uptoBulkAll r
def uptoBulkEntries {H : Type} : List (Lit × DataW H) → Nat
  | [] => 0
  | x :: r => uptoBulkEntry x + uptoBulkEntries r
def uptoBulkEntry {H : Type} : Lit × DataW H → Nat
  | (.string bytes, d) => bytes.length + uptoBulk d + 1
  | (_, d) => uptoBulk d + 1
 end
def uptoSmall : (H : Type) → List (DataW H) → Bool := fun _ ds => decide (uptoBulkAll ds ≤ 1048576)
def OpenSpec.upto (s : _root_.Go.ChangeSpec) : _root_.Go.OpenSpec := { _root_.Go.OpenSpec.ofChange s with cond := some uptoSmall }

/-- 'omnibuslaw.GuardRow', WHERE WHAT IT READS IS OF BULK AT MOST 1048576: true; the input reads as it did. -/
def guardRowUptoRow : OpenClaim := { program := "ytginlmgkimfjmaa", sum := "ade958a3c416ea80bda4ded00e38e66bc668ee0fa600fe8ed6f0844a6a36778f", func := "omnibus/omnibuslaw.GuardRow", spec := "guardRow", unfollowed := true, recurses := true, plainKeys := false, apart := false, narrowed := true }
def GuardRowUptoSaid : Prop := guardRowUptoRow.holds Try.pinned (OpenSpec.upto guardRowSpec)

/-- 'omnibuslaw.DelayMore', WHERE WHAT IT READS IS OF BULK AT MOST 1048576: true; the input reads as it did. -/
def delayMoreUptoRow : OpenClaim := { program := "ytginlmgkimfjmaa", sum := "ade958a3c416ea80bda4ded00e38e66bc668ee0fa600fe8ed6f0844a6a36778f", func := "omnibus/omnibuslaw.DelayMore", spec := "delayMore", inPlace := ["internal/abi.NoEscape"], unfollowed := true, recurses := true, plainKeys := false, apart := false, narrowed := true }
def DelayMoreUptoSaid : Prop := delayMoreUptoRow.holds Try.pinned (OpenSpec.upto delayMoreSpec)

/-- 'omnibuslaw.SchedOne', WHERE WHAT IT READS IS OF BULK AT MOST 1048576: true; the input reads as it did. -/
def schedOneUptoRow : OpenClaim := { program := "ytginlmgkimfjmaa", sum := "ade958a3c416ea80bda4ded00e38e66bc668ee0fa600fe8ed6f0844a6a36778f", func := "omnibus/omnibuslaw.SchedOne", spec := "schedOne", inPlace := ["internal/abi.NoEscape"], unfollowed := true, recurses := true, plainKeys := false, apart := false, narrowed := true }
def SchedOneUptoSaid : Prop := schedOneUptoRow.holds Try.pinned (OpenSpec.upto schedOneSpec)

/-- 'omnibuslaw.SchedWaits', WHERE WHAT IT READS IS OF BULK AT MOST 1048576: true; the input reads as it did. -/
def schedWaitsUptoRow : OpenClaim := { program := "ytginlmgkimfjmaa", sum := "ade958a3c416ea80bda4ded00e38e66bc668ee0fa600fe8ed6f0844a6a36778f", func := "omnibus/omnibuslaw.SchedWaits", spec := "schedWaits", inPlace := ["internal/abi.NoEscape"], unfollowed := true, recurses := true, plainKeys := false, apart := false, narrowed := true }
def SchedWaitsUptoSaid : Prop := schedWaitsUptoRow.holds Try.pinned (OpenSpec.upto schedWaitsSpec)

/-- 'omnibuslaw.SchedBound', WHERE WHAT IT READS IS OF BULK AT MOST 1048576: true; the input reads as it did. -/
def schedBoundUptoRow : OpenClaim := { program := "ytginlmgkimfjmaa", sum := "ade958a3c416ea80bda4ded00e38e66bc668ee0fa600fe8ed6f0844a6a36778f", func := "omnibus/omnibuslaw.SchedBound", spec := "schedBound", inPlace := ["internal/abi.NoEscape"], unfollowed := true, recurses := true, plainKeys := false, apart := false, narrowed := true }
def SchedBoundUptoSaid : Prop := schedBoundUptoRow.holds Try.pinned (OpenSpec.upto schedBoundSpec)

/-- 'omnibuslaw.RouteGoes', WHERE WHAT IT READS IS OF BULK AT MOST 1048576: true; the input reads as it did. -/
def routeGoesUptoRow : OpenClaim := { program := "ytginlmgkimfjmaa", sum := "ade958a3c416ea80bda4ded00e38e66bc668ee0fa600fe8ed6f0844a6a36778f", func := "omnibus/omnibuslaw.RouteGoes", spec := "routeGoes", unfollowed := true, recurses := true, plainKeys := false, apart := false, narrowed := true }
def RouteGoesUptoSaid : Prop := routeGoesUptoRow.holds Try.pinned (OpenSpec.upto routeGoesSpec)

/-- 'omnibuslaw.RouteMore', WHERE WHAT IT READS IS OF BULK AT MOST 1048576: true; the input reads as it did. -/
def routeMoreUptoRow : OpenClaim := { program := "ytginlmgkimfjmaa", sum := "ade958a3c416ea80bda4ded00e38e66bc668ee0fa600fe8ed6f0844a6a36778f", func := "omnibus/omnibuslaw.RouteMore", spec := "routeMore", unfollowed := true, recurses := true, plainKeys := false, apart := false, narrowed := true }
def RouteMoreUptoSaid : Prop := routeMoreUptoRow.holds Try.pinned (OpenSpec.upto routeMoreSpec)

/-- 'omnibuslaw.RouteStep', WHERE WHAT IT READS IS OF BULK AT MOST 1048576: true; the input reads as it did. -/
def routeStepUptoRow : OpenClaim := { program := "ytginlmgkimfjmaa", sum := "ade958a3c416ea80bda4ded00e38e66bc668ee0fa600fe8ed6f0844a6a36778f", func := "omnibus/omnibuslaw.RouteStep", spec := "routeStep", unfollowed := true, recurses := true, plainKeys := false, apart := false, narrowed := true }
def RouteStepUptoSaid : Prop := routeStepUptoRow.holds Try.pinned (OpenSpec.upto routeStepSpec)

/-- 'omnibuslaw.RouteSpread', WHERE WHAT IT READS IS OF BULK AT MOST 1048576: true; the input reads as it did. -/
def routeSpreadUptoRow : OpenClaim := { program := "ytginlmgkimfjmaa", sum := "ade958a3c416ea80bda4ded00e38e66bc668ee0fa600fe8ed6f0844a6a36778f", func := "omnibus/omnibuslaw.RouteSpread", spec := "routeSpread", unfollowed := true, recurses := true, plainKeys := false, apart := false, narrowed := true }
def RouteSpreadUptoSaid : Prop := routeSpreadUptoRow.holds Try.pinned (OpenSpec.upto routeSpreadSpec)

end Rows
end Go.Proofs.Ytginlmgkimfjmaa
