/- The walks, made by program: each call does what its pure predicate says. -/
import Derived.Test.YtfafpnacflcgmaaDoorPBm
import Derived.Test.YtfafpnacflcgmaaDoorWBi
set_option linter.unusedVariables false
set_option linter.unusedSimpArgs false
namespace Go.Proofs.YtfafpnacflcgmaaDoor
open Go.Sy Go.RowKit
theorem rrow_fun (u0 : Int) (u1 : Int) (hpre : u0 ≤ 9223372036854775807 ∧ u1 ≤ 1000000)  (Z : Fz) (w : World) (hg5 : SlR (tyInt .u8) Z (some ⟨5, 0, none⟩) 64 deBruijn64) (hZ : Z.on w) : Calls Tryd.prog 25 #[.int .i64 u0, .int .i64 u1] w fun e w' => e = .returned (.tuple #[str ((rrowS u0 u1).1), .bool ((rrowS u0 u1).2)]) ∧ Below w.heap.size w w' :=
  (rrow_walk u0 u1  Z w hg5 hZ (rrow_ok u0 u1 hpre)).mono fun _ _ ⟨r, he, hk, hb⟩ => ⟨by subst hk; exact he, hb⟩

end Go.Proofs.YtfafpnacflcgmaaDoor
