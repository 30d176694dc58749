/- The walks, made by program: each call does what its pure predicate says. -/
import Derived.Test.YtinegicenfndkaaDoorPGf
import Derived.Test.YtinegicenfndkaaDoorWGe
set_option linter.unusedVariables false
set_option linter.unusedSimpArgs false
namespace Go.Proofs.YtinegicenfndkaaDoor
open Go.Sy Go.RowKit
theorem guarded_fun   (Z : Fz) (w : World)  (hZ : Z.on w) : Calls Tryd.prog 40 #[] w fun e w' => e = .returned (.bool true) ∧ Below w.heap.size w w' :=
  (guarded_walk   Z w  hZ (guarded_ok )).mono fun _ _ ⟨r, he, hk, hb⟩ => ⟨by subst hk; exact he, hb⟩

theorem lgsum_fun (u0 : Int) (u1 : List Int) (hpre : (0 ≤ u0 ∧ u0 ≤ 65535) ∧ (∀ x ∈ u1, 0 ≤ x ∧ x ≤ 255) ∧ 1 ≤ u1.length ∧ u1.length ≤ 64) (ao1 : Option Addr) (cap2 : Nat) (Z : Fz) (w : World) (hs3 : SlR (tyInt .u8) Z ao1 cap2 u1) (hg5 : SlR (tyInt .u8) Z (some ⟨5, 0, none⟩) 64 deBruijn64) (hZ : Z.on w) : Calls Tryd.prog 42 #[.int .i64 u0, .slice ao1 u1.length cap2] w fun e w' => e = .returned (.int .u8 (gsumS u0 u1)) ∧ Below w.heap.size w w' :=
  (lgsum_walk u0 u1 ao1 cap2 Z w hs3 hg5 hZ (lgsum_ok u0 u1 hpre)).mono fun _ _ ⟨r, he, hk, hb⟩ => ⟨by subst hk; exact he, hb⟩

end Go.Proofs.YtinegicenfndkaaDoor
