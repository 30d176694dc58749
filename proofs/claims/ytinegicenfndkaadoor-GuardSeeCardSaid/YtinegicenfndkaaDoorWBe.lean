/- The walks, made by program: each call does what its pure predicate says. -/
import Derived.Test.YtinegicenfndkaaDoorPBe
import Derived.Test.YtinegicenfndkaaDoorWBd
set_option linter.unusedVariables false
set_option linter.unusedSimpArgs false
namespace Go.Proofs.YtinegicenfndkaaDoor
open Go.Sy Go.RowKit
theorem gxor_fun (u0 : BInt) (u2 : BInt) (hpre : (u0.neg = false ∧ wok u0.abs ∧ u0.abs.length ≤ 1000) ∧ u2.neg = false ∧ wok u2.abs ∧ u2.abs.length ≤ 1000) (b1 : Nat) (ao2 : Option Addr) (cap3 : Nat) (b5 : Nat) (ao6 : Option Addr) (cap7 : Nat) (B : Nat) (w0 : World) (Z0 : Fz) (Rr : List Res) (Z : Fz) (w : World) (hs4 : SlR (tyInt .u32) Z ao2 cap3 u0.abs) (hs8 : SlR (tyInt .u32) Z ao6 cap7 u2.abs) (hM0 : Mem B [] w0 Z0 ((.row b1 [.bool u0.neg, .slice ao2 u0.abs.length cap3] 93) :: (.row b5 [.bool u2.neg, .slice ao6 u2.abs.length cap7] 93) :: Rr) Z w) (hZ : Z.on w) : Calls Tryd.prog 57 #[.pointer (some ⟨b1, 0, none⟩), .pointer (some ⟨b1, 0, none⟩), .pointer (some ⟨b5, 0, none⟩)] w fun e w' => ∃ (ao1001 : Option Addr) (cap1002 : Nat) (ao1004 : Option Addr) (cap1005 : Nat) (Z' : Fz), e = .returned (.pointer (some ⟨b1, 0, none⟩)) ∧ Fz.le Z Z' ∧ SlR (tyInt .u32) Z' ao1001 cap1002 (gxorS u0 u2).1.abs ∧ SlR (tyInt .u32) Z' ao1004 cap1005 (gxorS u0 u2).2.abs ∧ Mem B [] w0 Z0 ((.row b1 [.bool (gxorS u0 u2).1.neg, .slice ao1001 (gxorS u0 u2).1.abs.length cap1002] 93) :: (.row b5 [.bool (gxorS u0 u2).2.neg, .slice ao1004 (gxorS u0 u2).2.abs.length cap1005] 93) :: Rr) Z' w' :=
  (gxor_walk u0 u2 b1 ao2 cap3 b5 ao6 cap7 B w0 Z0 Rr Z w hs4 hs8 hM0 hZ (gxor_ok u0 u2 hpre)).mono fun _ _ ⟨r, h0, h1, h2, h3, h4, he, hk, f0, f1, f2, hm⟩ => by subst hk; exact ⟨h0, h1, h2, h3, h4, he, f0, f1, f2, hm⟩

theorem gsetbit_fun (u0 : BInt) (u2 : Int) (u3 : Int) (hpre : u0.neg = false ∧ u0.abs = ws (wv u0.abs) ∧ wv u0.abs < 2 ^ u2.toNat ∧ 0 ≤ u2 ∧ u2 ≤ 30 ∧ u3 = 1) (b1 : Nat) (ao2 : Option Addr) (cap3 : Nat) (B : Nat) (w0 : World) (Z0 : Fz) (Rr : List Res) (Z : Fz) (w : World) (hs4 : SlR (tyInt .u32) Z ao2 cap3 u0.abs) (hM0 : Mem B [] w0 Z0 ((.row b1 [.bool u0.neg, .slice ao2 u0.abs.length cap3] 93) :: Rr) Z w) (hZ : Z.on w) : Calls Tryd.prog 58 #[.pointer (some ⟨b1, 0, none⟩), .pointer (some ⟨b1, 0, none⟩), .int .i64 u2, .int .u64 u3] w fun e w' => ∃ (ao1001 : Option Addr) (cap1002 : Nat) (Z' : Fz), e = .returned (.pointer (some ⟨b1, 0, none⟩)) ∧ Fz.le Z Z' ∧ SlR (tyInt .u32) Z' ao1001 cap1002 (gsetbitS u0 u2 u3).abs ∧ Mem B [] w0 Z0 ((.row b1 [.bool (gsetbitS u0 u2 u3).neg, .slice ao1001 (gsetbitS u0 u2 u3).abs.length cap1002] 93) :: Rr) Z' w' :=
  (gsetbit_walk u0 u2 u3 b1 ao2 cap3 B w0 Z0 Rr Z w hs4 hM0 hZ (gsetbit_ok u0 u2 u3 hpre)).mono fun _ _ ⟨r, h0, h1, h2, he, hk, f0, f1, hm⟩ => by subst hk; exact ⟨h0, h1, h2, he, f0, f1, hm⟩

end Go.Proofs.YtinegicenfndkaaDoor
