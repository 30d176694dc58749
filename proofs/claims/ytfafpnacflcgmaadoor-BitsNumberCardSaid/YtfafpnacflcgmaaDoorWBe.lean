/- The walks, made by program: each call does what its pure predicate says. -/
import Derived.Test.YtfafpnacflcgmaaDoorPBe
import Derived.Test.YtfafpnacflcgmaaDoorWBd
set_option linter.unusedVariables false
set_option linter.unusedSimpArgs false
namespace Go.Proofs.YtfafpnacflcgmaaDoor
open Go.Sy Go.RowKit
theorem rvalue_fun (u0 : List UInt8) (hpre : isRow u0 = true ∧ u0.length ≤ 1000)  (Z : Fz) (w : World)  (hZ : Z.on w) : Calls Tryd.prog 23 #[str u0] w fun e w' => ∃ (b1001 : Nat) (ao1002 : Option Addr) (cap1003 : Nat) (Z' : Fz), e = .returned (.pointer (some ⟨b1001, 0, none⟩)) ∧ SlR (tyInt .u32) Z' ao1002 cap1003 (rvalueS u0).abs ∧ Mem w.heap.size [] w Z [.row b1001 [.bool (rvalueS u0).neg, .slice ao1002 (rvalueS u0).abs.length cap1003] 71] Z' w' :=
  (rvalue_walk u0  Z w  hZ (rvalue_ok u0 hpre)).mono fun _ _ ⟨r, h0, h1, h2, h3, he, hk, f0, hm⟩ => by subst hk; exact ⟨h0, h1, h2, h3, he, f0, hm⟩

end Go.Proofs.YtfafpnacflcgmaaDoor
