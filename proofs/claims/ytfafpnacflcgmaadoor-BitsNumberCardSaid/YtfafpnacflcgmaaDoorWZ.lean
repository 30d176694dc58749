/- The walks, made by program: each call does what its pure predicate says. -/
import Derived.Test.YtfafpnacflcgmaaDoorRows
import Derived.Test.YtfafpnacflcgmaaDoorPZ
import Derived.Shelf.Lay
import Derived.Ground.NamesProg
import Derived.Shelf.Strings.SlTrimAscii
import Derived.Shelf.Strings.Count
namespace Go.Proofs
open Go.Shelf
shelf_lay Lays.n160 Nm 160 at Tryd as Tryd.lays160
end Go.Proofs
set_option linter.unusedVariables false
set_option linter.unusedSimpArgs false
namespace Go.Proofs.YtfafpnacflcgmaaDoor
open Go.Sy Go.RowKit
theorem mixed : Tryd.prog.follows .mixedOrders = true := by kernel_rfl
theorem trim_fun (u0 : List UInt8) (u1 : List UInt8) (hpre : u0.length ≤ 9223372036854775807 ∧ u1.length < 4294967281 ∧ u1.all (fun b => decide (b.toNat < 128)) = true) (Z : Fz) (w : World) (hZ : Z.on w) : Calls Tryd.prog 43 #[str u0, str u1] w fun e w' => e = .returned (str (trimS u0 u1)) ∧ Below w.heap.size w w' := by
  have h := Any.strings_Trim_laid Tryd.lays160 (by kernel_rfl) ⟨⟨u0⟩⟩ ⟨⟨u1⟩⟩ w (by show u0.length ≤ _; exact hpre.1) (by show u1.length < _; exact hpre.2.1) (ascii_of_all hpre.2.2)
  exact h

end Go.Proofs.YtfafpnacflcgmaaDoor
