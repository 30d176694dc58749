/- The walks, made by program: each call does what its pure predicate says. -/
import Derived.Test.YtinegicenfndkaaDoorPBl
import Derived.Test.YtinegicenfndkaaDoorWBj
set_option linter.unusedVariables false
set_option linter.unusedSimpArgs false
namespace Go.Proofs.YtinegicenfndkaaDoor
open Go.Sy Go.RowKit
theorem rsumof_fun (u0 : Int) (u1 : List UInt8) (hpre : (0 ≤ u0 ∧ u0 < 5) ∧ isRow u1 = true ∧ u1.length ≤ 1000)  (Z : Fz) (w : World) (hg5 : SlR (tyInt .u8) Z (some ⟨5, 0, none⟩) 64 deBruijn64) (hZ : Z.on w) : Calls Tryd.prog 19 #[.int .i64 u0, str u1] w fun e w' => e = .returned (str (sumR u0 u1)) ∧ Below w.heap.size w w' :=
  (rsumof_walk u0 u1  Z w hg5 hZ (rsumof_ok u0 u1 hpre)).mono fun _ _ ⟨r, he, hk, hb⟩ => ⟨by subst hk; exact he, hb⟩

end Go.Proofs.YtinegicenfndkaaDoor
