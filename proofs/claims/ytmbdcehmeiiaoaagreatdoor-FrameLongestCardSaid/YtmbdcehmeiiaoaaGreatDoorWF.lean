/- The walks, made by program: each call does what its pure predicate says. -/
import Derived.Test.YtmbdcehmeiiaoaaGreatDoorPF
import Derived.Test.YtmbdcehmeiiaoaaGreatDoorWEb
import Derived.Test.YtmbdcehmeiiaoaaGreatDoorWErnames
set_option linter.unusedVariables false
set_option linter.unusedSimpArgs false
namespace Go.Proofs.YtmbdcehmeiiaoaaGreatDoor
open Go.Sy Go.RowKit
theorem rnames_fun (u0 : FReader) (hpre : Rok u0.Reader) (b1 : Nat) (ao2 : Option Addr) (cap3 : Nat) (B : Nat) (w0 : World) (Z0 : Fz) (Rr : List Res) (Z : Fz) (w : World) (hs4 : SlR (tyInt .u8) Z ao2 cap3 u0.f.Data) (hM0 : Mem B [] w0 Z0 ((.row b1 [str u0.Reader.Row, .int .i64 u0.Reader.At, .int .i64 u0.Reader.Code, .int .u8 u0.Reader.c.last, .int .i64 u0.Reader.c.n, .int .i64 u0.f.ID, .bool u0.f.Long, .bool u0.f.Fast, .bool u0.f.Remote, .int .i64 u0.f.Size, .slice ao2 u0.f.Data.length cap3] 61) :: Rr) Z w) (hZ : Z.on w) : Calls Tryz.prog 32 #[.pointer (some ⟨b1, 0, none⟩)] w fun e w' => ∃ (ao1001 : Option Addr) (cap1002 : Nat) (Z' : Fz), e = .returned (.tuple #[]) ∧ Fz.le Z Z' ∧ SlR (tyInt .u8) Z' ao1001 cap1002 (rnamesS u0).f.Data ∧ Mem B [] w0 Z0 ((.row b1 [str (rnamesS u0).Reader.Row, .int .i64 (rnamesS u0).Reader.At, .int .i64 (rnamesS u0).Reader.Code, .int .u8 (rnamesS u0).Reader.c.last, .int .i64 (rnamesS u0).Reader.c.n, .int .i64 (rnamesS u0).f.ID, .bool (rnamesS u0).f.Long, .bool (rnamesS u0).f.Fast, .bool (rnamesS u0).f.Remote, .int .i64 (rnamesS u0).f.Size, .slice ao1001 (rnamesS u0).f.Data.length cap1002] 61) :: Rr) Z' w' :=
  (rnames_walk u0 b1 ao2 cap3 B w0 Z0 Rr Z w hs4 hM0 hZ (rnames_ok u0 hpre)).mono fun _ _ ⟨r, h0, h1, h2, he, hk, f0, f1, hm⟩ => by subst hk; exact ⟨h0, h1, h2, he, f0, f1, hm⟩

end Go.Proofs.YtmbdcehmeiiaoaaGreatDoor
