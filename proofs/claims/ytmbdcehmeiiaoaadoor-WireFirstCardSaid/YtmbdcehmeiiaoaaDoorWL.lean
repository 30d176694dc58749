/- The walks, made by program: each call does what its pure predicate says. -/
import Derived.Test.YtmbdcehmeiiaoaaDoorPL
import Derived.Test.YtmbdcehmeiiaoaaDoorWK
set_option linter.unusedVariables false
set_option linter.unusedSimpArgs false
namespace Go.Proofs.YtmbdcehmeiiaoaaDoor
open Go.Sy Go.RowKit
theorem wired_fun   (Z : Fz) (w : World)  (hZ : Z.on w) : Calls Tryd.prog 21 #[] w fun e w' => e = .returned (.bool true) ∧ Below w.heap.size w w' :=
  (wired_walk   Z w  hZ (wired_ok )).mono fun _ _ ⟨r, he, hk, hb⟩ => ⟨by subst hk; exact he, hb⟩

end Go.Proofs.YtmbdcehmeiiaoaaDoor
