/- The walks, made by program: each call does what its pure predicate says. -/
import Derived.Test.YtmbdcehmeiiaoaaGreatDoorPHg
import Derived.Test.YtmbdcehmeiiaoaaGreatDoorWGframed
import Derived.Test.YtmbdcehmeiiaoaaGreatDoorWEflongest
set_option linter.unusedVariables false
set_option linter.unusedSimpArgs false
namespace Go.Proofs.YtmbdcehmeiiaoaaGreatDoor
open Go.Sy Go.RowKit
theorem framed_fun   (Z : Fz) (w : World)  (hZ : Z.on w) : Calls Tryz.prog 10 #[] w fun e w' => e = .returned (.bool true) ∧ Below w.heap.size w w' :=
  (framed_walk   Z w  hZ (framed_ok )).mono fun _ _ ⟨r, he, hk, hb⟩ => ⟨by subst hk; exact he, hb⟩

theorem flongest_fun (u0 : Bool) (u1 : Bool) (u2 : Int)  (Z : Fz) (w : World)  (hZ : Z.on w) : Calls Tryz.prog 22 #[.bool u0, .bool u1, .int .i64 u2] w fun e w' => e = .returned (.tuple #[.int .i64 ((flongestS u0 u1 u2).1), .int .i64 ((flongestS u0 u1 u2).2)]) ∧ Below w.heap.size w w' :=
  (flongest_walk u0 u1 u2  Z w  hZ (flongest_ok u0 u1 u2)).mono fun _ _ ⟨r, he, hk, hb⟩ => ⟨by subst hk; exact he, hb⟩

end Go.Proofs.YtmbdcehmeiiaoaaGreatDoor
