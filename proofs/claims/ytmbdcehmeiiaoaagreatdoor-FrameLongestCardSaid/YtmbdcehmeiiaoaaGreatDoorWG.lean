/- The walks, made by program: each call does what its pure predicate says. -/
import Derived.Test.YtmbdcehmeiiaoaaGreatDoorPG
import Derived.Test.YtmbdcehmeiiaoaaGreatDoorWFfRead
set_option linter.unusedVariables false
set_option linter.unusedSimpArgs false
namespace Go.Proofs.YtmbdcehmeiiaoaaGreatDoor
open Go.Sy Go.RowKit
theorem fRead_fun (u0 : List UInt8) (hpre : u0 = litB)  (Z : Fz) (w : World)  (hZ : Z.on w) : Calls Tryz.prog 8 #[str u0] w fun e w' => ∃ (ao1001 : Option Addr) (cap1002 : Nat) (Z' : Fz), e = .returned (.tuple #[.agg #[.int .i64 (readS u0).1.ID, .bool (readS u0).1.Long, .bool (readS u0).1.Fast, .bool (readS u0).1.Remote, .int .i64 (readS u0).1.Size, .slice ao1001 (readS u0).1.Data.length cap1002], .int .i64 (readS u0).2.1, .int .i64 (readS u0).2.2]) ∧ SlR (tyInt .u8) Z' ao1001 cap1002 (readS u0).1.Data ∧ Mem w.heap.size [] w Z [] Z' w' :=
  (fRead_walk u0  Z w  hZ (fRead_ok u0 hpre)).mono fun _ _ ⟨r, h0, h1, h2, he, hk, f0, hm⟩ => by subst hk; exact ⟨h0, h1, h2, he, f0, hm⟩

theorem fSame_fun (u0 : Frame) (u1 : Frame) (ao1 : Option Addr) (cap2 : Nat) (ao4 : Option Addr) (cap5 : Nat) (Z : Fz) (w : World) (hs3 : SlR (tyInt .u8) Z ao1 cap2 u0.Data) (hs6 : SlR (tyInt .u8) Z ao4 cap5 u1.Data) (hZ : Z.on w) : Calls Tryz.prog 19 #[.agg #[.int .i64 u0.ID, .bool u0.Long, .bool u0.Fast, .bool u0.Remote, .int .i64 u0.Size, .slice ao1 u0.Data.length cap2], .agg #[.int .i64 u1.ID, .bool u1.Long, .bool u1.Fast, .bool u1.Remote, .int .i64 u1.Size, .slice ao4 u1.Data.length cap5]] w fun e w' => e = .returned (.bool (sameS u0 u1)) ∧ Below w.heap.size w w' :=
  (fSame_walk u0 u1 ao1 cap2 ao4 cap5 Z w hs3 hs6 hZ (fSame_ok u0 u1)).mono fun _ _ ⟨r, he, hk, hb⟩ => ⟨by subst hk; exact he, hb⟩

theorem rSame_fun (u0 : Frame) (u1 : Frame) (ao1 : Option Addr) (cap2 : Nat) (ao4 : Option Addr) (cap5 : Nat) (Z : Fz) (w : World) (hs3 : SlR (tyInt .u8) Z ao1 cap2 u0.Data) (hs6 : SlR (tyInt .u8) Z ao4 cap5 u1.Data) (hZ : Z.on w) : Calls Tryz.prog 13 #[.agg #[.int .i64 u0.ID, .bool u0.Long, .bool u0.Fast, .bool u0.Remote, .int .i64 u0.Size, .slice ao1 u0.Data.length cap2], .agg #[.int .i64 u1.ID, .bool u1.Long, .bool u1.Fast, .bool u1.Remote, .int .i64 u1.Size, .slice ao4 u1.Data.length cap5]] w fun e w' => e = .returned (.bool (sameS u0 u1)) ∧ Below w.heap.size w w' :=
  (rSame_walk u0 u1 ao1 cap2 ao4 cap5 Z w hs3 hs6 hZ (rSame_ok u0 u1)).mono fun _ _ ⟨r, he, hk, hb⟩ => ⟨by subst hk; exact he, hb⟩

end Go.Proofs.YtmbdcehmeiiaoaaGreatDoor
