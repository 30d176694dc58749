/- What must hold so that each function ends well: pure predicates, made by program. -/
import Derived.Test.YtfafpnacflcgmaaDoorPD
set_option linter.unusedVariables false
set_option linter.unusedSimpArgs false
namespace Go.Proofs.YtfafpnacflcgmaaDoor
open Go.Sy Go.RowKit
def tz64_vc (u0 : Int) (K : Int → Prop) : Prop :=
  (((u0 == 0) = true →
      (K 64)) ∧
    ((u0 == 0) = false →
      ((0 ≤ bShr .u64 (wu64 ((bAnd .u64 u0 (wu64 (0 - u0))) * 285870213051353865)) 58 ∧ bShr .u64 (wu64 ((bAnd .u64 u0 (wu64 (0 - u0))) * 285870213051353865)) 58 < 64) ∧
      (∀ q33, deBruijn64[(bShr .u64 (wu64 ((bAnd .u64 u0 (wu64 (0 - u0))) * 285870213051353865)) 58).toNat]? = some q33 →
      (K (w64 q33))))))

def isp2_vc (u0 : Int) (K : Bool → Prop) : Prop :=
  (K ((bAnd .i64 u0 (w64 (u0 - 1))) == 0))
def isp2 (u0 : Int) : Bool :=
  (bAnd .i64 u0 (w64 (u0 - 1))) == 0
theorem isp2_ok (u0 : Int) : isp2_vc u0 (fun r => r = isp2 u0) := (by rfl)

/-! Pure proofs: no program in sight. -/
def tz64S (u0 : Int) : Int := 1
theorem tz64_ok (u0 : Int) (h : u0 = 2) : tz64_vc u0 (fun r => r = tz64S u0) := by
  subst h
  have e : deBruijn64[(bShr .u64 (wu64 ((bAnd .u64 2 (wu64 (0 - 2))) * 285870213051353865)) 58).toNat]? = some 1 := by decide +kernel
  refine ⟨fun h => absurd h (by decide), fun _ => ⟨by decide +kernel, fun q hq => ?_⟩⟩
  rw [e] at hq
  cases hq
  decide
def srepS (s : List UInt8) (c : Int) : List UInt8 := (List.replicate c.toNat s).flatten

end Go.Proofs.YtfafpnacflcgmaaDoor
