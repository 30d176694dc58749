/-
  No cell of these rows narrows 'for every input' (looked for: loops, veiled, ifaces, maps, wideKeys, modest, calm, conditions, laid).
  DERIVED. THE GIVEN ROWS OF THIS SEAT. 4 by the template 'for every input the law returns true; each argument reads behind the call as it read before'; 0 by the template 'total and deterministic' (their statements: YtodkadlfhlagpaaTotals.lean).
  GIVEN WITH THE SEED: the statements are not yours to turn. If you find one false, say at which input.
  Laid BY PROGRAM, IN A SANDBOX (cutbox-rows.mjs): the forced cells as the released guide's own fill.sh prints them over the translation 3e61dd1472056d03… (all of the seat's roots in one cut). By AI agents, Wed Nov 11 2026. No macro, syntax, notation, axiom, sorry.
-/
import Derived.Test.YtodkadlfhlagpaaChecked
import GoSem.Claim
import GoSem.ClaimJoined
import GoSem.ClaimMapViews
import Derived.JoinedTies
import Derived.KernelRfl
namespace Go.Proofs.Ytodkadlfhlagpaa
/- THE CELL 'sum', in the pinned program and in every row, IS THE sha256 OF THE DUMP (.gsa) THAT YtodkadlfhlagpaaProg.lean LOADS. Nothing in Lean hashes anything: it is a label: what it is worth is what the hold of that sum in a sandbox is worth. -/
noncomputable def Try.pinned : Pinned := { name := "ytodkadlfhlagpaa", sum := "3e61dd1472056d03cc10ec39bdb246b08d7a9ca5fbaa6282c70614ca9faebca2", checked := Try.checked }
namespace Rows
def none {H : Type} : Left H := { results := [], args := [] }

/-- 'omnibuslaw.Names': WHATEVER THE INPUT: true; the input reads as it did. -/
def namesSpec : ChangeSpec := { name := "names", fn := fun _ => fun
  | [] => { results := [.lit (.bool true)], args := [] }
  | _ => none }
def namesRow : OpenClaim := { program := "ytodkadlfhlagpaa", sum := "3e61dd1472056d03cc10ec39bdb246b08d7a9ca5fbaa6282c70614ca9faebca2", func := "omnibus/omnibuslaw.Names", spec := "names", apart := false }
def NamesSaid : Prop := namesRow.holds Try.pinned (OpenSpec.ofChange namesSpec)

/-- ITS FALSE NEIGHBOUR: 'it returns false'. Refute it at one input. -/
def namesWrong : ChangeSpec := { name := "names", fn := fun _ => fun
  | [] => { results := [.lit (.bool false)], args := [] }
  | _ => none }
def NamesWrongFalsely : Prop := namesRow.holds Try.pinned (OpenSpec.ofChange namesWrong)

/-- 'omnibuslaw.HealthStep': WHATEVER THE INPUT: true; the input reads as it did. -/
def healthStepSpec : ChangeSpec := { name := "healthStep", fn := fun _ => fun
  | [d1, d2] => { results := [.lit (.bool true)], args := [d1, d2] }
  | _ => none }
def healthStepRow : OpenClaim := { program := "ytodkadlfhlagpaa", sum := "3e61dd1472056d03cc10ec39bdb246b08d7a9ca5fbaa6282c70614ca9faebca2", func := "omnibus/omnibuslaw.HealthStep", spec := "healthStep", unfollowed := true, recurses := true, apart := false }
def HealthStepSaid : Prop := healthStepRow.holds Try.pinned (OpenSpec.ofChange healthStepSpec)

/-- ITS FALSE NEIGHBOUR: 'it returns false'. Refute it at one input. -/
def healthStepWrong : ChangeSpec := { name := "healthStep", fn := fun _ => fun
  | [d1, d2] => { results := [.lit (.bool false)], args := [d1, d2] }
  | _ => none }
def HealthStepWrongFalsely : Prop := healthStepRow.holds Try.pinned (OpenSpec.ofChange healthStepWrong)

/-- 'omnibuslaw.HealthRests': WHATEVER THE INPUT: true; the input reads as it did. -/
def healthRestsSpec : ChangeSpec := { name := "healthRests", fn := fun _ => fun
  | [d1, d2] => { results := [.lit (.bool true)], args := [d1, d2] }
  | _ => none }
def healthRestsRow : OpenClaim := { program := "ytodkadlfhlagpaa", sum := "3e61dd1472056d03cc10ec39bdb246b08d7a9ca5fbaa6282c70614ca9faebca2", func := "omnibus/omnibuslaw.HealthRests", spec := "healthRests", apart := false }
def HealthRestsSaid : Prop := healthRestsRow.holds Try.pinned (OpenSpec.ofChange healthRestsSpec)

/-- ITS FALSE NEIGHBOUR: 'it returns false'. Refute it at one input. -/
def healthRestsWrong : ChangeSpec := { name := "healthRests", fn := fun _ => fun
  | [d1, d2] => { results := [.lit (.bool false)], args := [d1, d2] }
  | _ => none }
def HealthRestsWrongFalsely : Prop := healthRestsRow.holds Try.pinned (OpenSpec.ofChange healthRestsWrong)

/-- 'omnibuslaw.HealthTill': WHATEVER THE INPUT: true; the input reads as it did. -/
def healthTillSpec : ChangeSpec := { name := "healthTill", fn := fun _ => fun
  | [d] => { results := [.lit (.bool true)], args := [d] }
  | _ => none }
def healthTillRow : OpenClaim := { program := "ytodkadlfhlagpaa", sum := "3e61dd1472056d03cc10ec39bdb246b08d7a9ca5fbaa6282c70614ca9faebca2", func := "omnibus/omnibuslaw.HealthTill", spec := "healthTill", unfollowed := true, recurses := true, apart := false }
def HealthTillSaid : Prop := healthTillRow.holds Try.pinned (OpenSpec.ofChange healthTillSpec)

/-- ITS FALSE NEIGHBOUR: 'it returns false'. Refute it at one input. -/
def healthTillWrong : ChangeSpec := { name := "healthTill", fn := fun _ => fun
  | [d] => { results := [.lit (.bool false)], args := [d] }
  | _ => none }
def HealthTillWrongFalsely : Prop := healthTillRow.holds Try.pinned (OpenSpec.ofChange healthTillWrong)

/- THE SECOND FORM. 'bulk': how many values and letters a reading holds, each counted each time it is reached (what is shared counts as often as it is met; a slice's spare places count too). A statement '..UptoSaid' is the law's where the arguments, and the package variables that the reading takes, are together of bulk at most 1048576: NARROWER than '..Said'. Prove '..Said' where nothing that the law and all that it calls make is longer than what came in: it says more and counts as full. Else prove '..UptoSaid'. A law counts once. -/
mutual
def uptoBulk {H : Type} : DataW H → Nat
  | .lit (.string bytes) => bytes.length + 1
  | .lit _ => 1
  | .nil => 1
  | .ptr d => uptoBulk d + 1
  | .slice elems spare => uptoBulkAll elems + uptoBulkAll spare + 1
  | .agg parts => uptoBulkAll parts + 1
  | .iface _ d => uptoBulk d + 1
  | .map entries => uptoBulkEntries entries + 1
  | .held _ => 1
def uptoBulkAll {H : Type} : List (DataW H) → Nat
  | [] => 0
  | d :: r => uptoBulk d + uptoBulkAll r
def uptoBulkEntries {H : Type} : List (Lit × DataW H) → Nat
  | [] => 0
  | x :: r => uptoBulkEntry x + uptoBulkEntries r
def uptoBulkEntry {H : Type} : Lit × DataW H → Nat
  | (.string bytes, d) => bytes.length + uptoBulk d + 1
  | (_, d) => uptoBulk d + 1
 end
def uptoSmall : (H : Type) → List (DataW H) → Bool := fun _ ds => decide (uptoBulkAll ds ≤ 1048576)
def OpenSpec.upto (s : _root_.Go.ChangeSpec) : _root_.Go.OpenSpec := { _root_.Go.OpenSpec.ofChange s with cond := some uptoSmall }

/-- 'omnibuslaw.Names', WHERE WHAT IT READS IS OF BULK AT MOST 1048576: true; the input reads as it did. -/
def namesUptoRow : OpenClaim := { program := "ytodkadlfhlagpaa", sum := "3e61dd1472056d03cc10ec39bdb246b08d7a9ca5fbaa6282c70614ca9faebca2", func := "omnibus/omnibuslaw.Names", spec := "names", apart := false, narrowed := true }
def NamesUptoSaid : Prop := namesUptoRow.holds Try.pinned (OpenSpec.upto namesSpec)

/-- 'omnibuslaw.HealthStep', WHERE WHAT IT READS IS OF BULK AT MOST 1048576: true; the input reads as it did. -/
def healthStepUptoRow : OpenClaim := { program := "ytodkadlfhlagpaa", sum := "3e61dd1472056d03cc10ec39bdb246b08d7a9ca5fbaa6282c70614ca9faebca2", func := "omnibus/omnibuslaw.HealthStep", spec := "healthStep", unfollowed := true, recurses := true, apart := false, narrowed := true }
def HealthStepUptoSaid : Prop := healthStepUptoRow.holds Try.pinned (OpenSpec.upto healthStepSpec)

/-- 'omnibuslaw.HealthRests', WHERE WHAT IT READS IS OF BULK AT MOST 1048576: true; the input reads as it did. -/
def healthRestsUptoRow : OpenClaim := { program := "ytodkadlfhlagpaa", sum := "3e61dd1472056d03cc10ec39bdb246b08d7a9ca5fbaa6282c70614ca9faebca2", func := "omnibus/omnibuslaw.HealthRests", spec := "healthRests", apart := false, narrowed := true }
def HealthRestsUptoSaid : Prop := healthRestsUptoRow.holds Try.pinned (OpenSpec.upto healthRestsSpec)

/-- 'omnibuslaw.HealthTill', WHERE WHAT IT READS IS OF BULK AT MOST 1048576: true; the input reads as it did. -/
def healthTillUptoRow : OpenClaim := { program := "ytodkadlfhlagpaa", sum := "3e61dd1472056d03cc10ec39bdb246b08d7a9ca5fbaa6282c70614ca9faebca2", func := "omnibus/omnibuslaw.HealthTill", spec := "healthTill", unfollowed := true, recurses := true, apart := false, narrowed := true }
def HealthTillUptoSaid : Prop := healthTillUptoRow.holds Try.pinned (OpenSpec.upto healthTillSpec)

end Rows
end Go.Proofs.Ytodkadlfhlagpaa
