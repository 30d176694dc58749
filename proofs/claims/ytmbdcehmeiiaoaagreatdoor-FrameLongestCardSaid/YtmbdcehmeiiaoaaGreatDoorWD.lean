/- The walks, made by program: each call does what its pure predicate says. -/
import Derived.Test.YtmbdcehmeiiaoaaGreatDoorPD
import Derived.Test.YtmbdcehmeiiaoaaGreatDoorWC
set_option linter.unusedVariables false
set_option linter.unusedSimpArgs false
namespace Go.Proofs.YtmbdcehmeiiaoaaGreatDoor
open Go.Sy Go.RowKit
theorem rfail_fun (u0 : FReader) (u1 : Int) (b1 : Nat) (ao2 : Option Addr) (cap3 : Nat) (B : Nat) (w0 : World) (Z0 : Fz) (Rr : List Res) (Z : Fz) (w : World) (hs4 : SlR (tyInt .u8) Z ao2 cap3 u0.f.Data) (hM0 : Mem B [] w0 Z0 ((.row b1 [str u0.Reader.Row, .int .i64 u0.Reader.At, .int .i64 u0.Reader.Code, .int .u8 u0.Reader.c.last, .int .i64 u0.Reader.c.n, .int .i64 u0.f.ID, .bool u0.f.Long, .bool u0.f.Fast, .bool u0.f.Remote, .int .i64 u0.f.Size, .slice ao2 u0.f.Data.length cap3] 61) :: Rr) Z w) (hZ : Z.on w) : Calls Tryz.prog 34 #[.pointer (some ⟨b1, 0, none⟩), .int .i64 u1] w fun e w' => ∃ (ao1001 : Option Addr) (cap1002 : Nat) (Z' : Fz), e = .returned (.tuple #[]) ∧ Fz.le Z Z' ∧ SlR (tyInt .u8) Z' ao1001 cap1002 (rfailS u0 u1).f.Data ∧ Mem B [] w0 Z0 ((.row b1 [str (rfailS u0 u1).Reader.Row, .int .i64 (rfailS u0 u1).Reader.At, .int .i64 (rfailS u0 u1).Reader.Code, .int .u8 (rfailS u0 u1).Reader.c.last, .int .i64 (rfailS u0 u1).Reader.c.n, .int .i64 (rfailS u0 u1).f.ID, .bool (rfailS u0 u1).f.Long, .bool (rfailS u0 u1).f.Fast, .bool (rfailS u0 u1).f.Remote, .int .i64 (rfailS u0 u1).f.Size, .slice ao1001 (rfailS u0 u1).f.Data.length cap1002] 61) :: Rr) Z' w' :=
  (rfail_walk u0 u1 b1 ao2 cap3 B w0 Z0 Rr Z w hs4 hM0 hZ (rfail_ok u0 u1)).mono fun _ _ ⟨r, h0, h1, h2, he, hk, f0, f1, hm⟩ => by subst hk; exact ⟨h0, h1, h2, he, f0, f1, hm⟩
theorem rfail_funK (u0 : FReader) (u1 : Int) (b1 : Nat) (ao2 : Option Addr) (cap3 : Nat) (B : Nat) (w0 : World) (Z0 : Fz) (Rr : List Res) (Z : Fz) (w : World) (hs4 : SlR (tyInt .u8) Z ao2 cap3 u0.f.Data) (hM0 : Mem B [] w0 Z0 ((.row b1 [str u0.Reader.Row, .int .i64 u0.Reader.At, .int .i64 u0.Reader.Code, .int .u8 u0.Reader.c.last, .int .i64 u0.Reader.c.n, .int .i64 u0.f.ID, .bool u0.f.Long, .bool u0.f.Fast, .bool u0.f.Remote, .int .i64 u0.f.Size, .slice ao2 u0.f.Data.length cap3] 61) :: Rr) Z w) (hZ : Z.on w) : Calls Tryz.prog 34 #[.pointer (some ⟨b1, 0, none⟩), .int .i64 u1] w fun e w' => ∃ (ao1001 : Option Addr) (cap1002 : Nat) (Z' : Fz), e = .returned (.tuple #[]) ∧ Fz.le Z Z' ∧ SlR (tyInt .u8) Z' ao1001 cap1002 u0.f.Data ∧ Mem B [] w0 Z0 ((.row b1 [str (rfailS u0 u1).Reader.Row, .int .i64 (rfailS u0 u1).Reader.At, .int .i64 (rfailS u0 u1).Reader.Code, .int .u8 (rfailS u0 u1).Reader.c.last, .int .i64 (rfailS u0 u1).Reader.c.n, .int .i64 u0.f.ID, .bool u0.f.Long, .bool u0.f.Fast, .bool u0.f.Remote, .int .i64 u0.f.Size, .slice ao1001 u0.f.Data.length cap1002] 61) :: Rr) Z' w' :=
  (rfail_walk u0 u1 b1 ao2 cap3 B w0 Z0 Rr Z w hs4 hM0 hZ (rfail_ok u0 u1)).mono fun _ _ ⟨r, h0, h1, h2, he, hk, f0, f1, hm⟩ => by subst hk; have hkp : (rfailS u0 u1).f = u0.f := rfailS_f u0 u1; (try simp only [hkp] at *); exact ⟨h0, h1, h2, he, f0, f1, hm⟩

set_option maxRecDepth 100000 in
set_option maxHeartbeats 0 in
theorem rwant_walk (u0 : FReader) (u1 : List UInt8) (b1 : Nat) (ao2 : Option Addr) (cap3 : Nat) (B : Nat) (w0 : World) (Z0 : Fz) (Rr : List Res) (Z : Fz) (w : World) (hs4 : SlR (tyInt .u8) Z ao2 cap3 u0.f.Data) (hM0 : Mem B [] w0 Z0 ((.row b1 [str u0.Reader.Row, .int .i64 u0.Reader.At, .int .i64 u0.Reader.Code, .int .u8 u0.Reader.c.last, .int .i64 u0.Reader.c.n, .int .i64 u0.f.ID, .bool u0.f.Long, .bool u0.f.Fast, .bool u0.f.Remote, .int .i64 u0.f.Size, .slice ao2 u0.f.Data.length cap3] 61) :: Rr) Z w) (hZ : Z.on w) {K : FReader → Prop} (hp : rwant_vc u0 u1 K) : Calls Tryz.prog 66 #[.pointer (some ⟨b1, 0, none⟩), str u1] w fun e w' => ∃ (r : FReader) (ao1001 : Option Addr) (cap1002 : Nat) (Z' : Fz), e = .returned (.tuple #[]) ∧ K r ∧ Fz.le Z Z' ∧ SlR (tyInt .u8) Z' ao1001 cap1002 r.f.Data ∧ Mem B [] w0 Z0 ((.row b1 [str r.Reader.Row, .int .i64 r.Reader.At, .int .i64 r.Reader.Code, .int .u8 r.Reader.c.last, .int .i64 r.Reader.c.n, .int .i64 r.f.ID, .bool r.f.Long, .bool r.f.Fast, .bool r.f.Remote, .int .i64 r.f.Size, .slice ao1001 r.f.Data.length cap1002] 61) :: Rr) Z' w' := by
 refine enter0 Tryz.func66 rfl rfl (by kernel_rfl) ?_; intro a0 hF0; have hle0 := Fz.le.refl Z
 have hp5 := hp (hs4.small); clear hp
 refine sqH ?_; intro hQ6Q hQ6
 refine s1 hF0 5 (.pointer (some ⟨b1, 0, none⟩)) ?_; intro a7 hF8; clear hF0
 refine s1 hF8 6 (.pointer (some ⟨b1, 0, none⟩)) ?_; intro a9 hF10; clear hF8
 refine s1 hF10 7 (.pointer (some ⟨b1, 0, none⟩)) ?_; intro a11 hF12; clear hF10
 have hc13 := hp5.1; have hp14 := hp5.2; clear hp5
 refine cl hF12 36 #[.pointer (some ⟨b1, 0, none⟩), .int .i64 1] (nog rfl _) rfl (by kernel_rfl) (by kernel_rfl) ?_
 obtain ⟨r19, hr20⟩ : ∃ x, (rtakeFS u0 1) = x := ⟨_, rfl⟩; have hp21 := hp14 r19 hr20; clear hp14
 have h9 := rtakeF_fun u0 1 hc13 b1 ao2 cap3 _ _ _ _ _ _ hs4 hM0 hM0.fz; rw [hr20] at h9; refine h9.mono ?_; clear h9; rintro _ wd15 ⟨ao23, cap24, Z26, rfl, hle27, hs25, hm⟩; refine ⟨_, rfl, ?_⟩; intro a16 hF17; have hM18 := hm; clear hm hM0 hF12
 replace hs4 := hs4.mono hle27
 replace hle0 := Fz.le.trans hle0 hle27
 have hM28 : Mem B [] w0 Z0 ((.row b1 [str r19.2.Reader.Row, .int .i64 r19.2.Reader.At, .int .i64 r19.2.Reader.Code, .int .u8 r19.2.Reader.c.last, .int .i64 r19.2.Reader.c.n, .int .i64 r19.2.f.ID, .bool r19.2.f.Long, .bool r19.2.f.Fast, .bool r19.2.f.Remote, .int .i64 r19.2.f.Size, .slice ao23 r19.2.f.Data.length cap24] 61) :: Rr) Z26 wd15 := hM18; clear hM18
 have hp29 := hp21 (hs25.small); clear hp21
 refine s1 hF17 4 (str r19.1) ?_; intro a30 hF31; clear hF17
 refine nlH (hQ6 _ _ ?_); clear hQ6 hQ6Q
 refine sqH ?_; intro hQ32Q hQ32
 refine s1 hF31 9 (.pointer (some ⟨b1, 0, none⟩)) ?_; intro a33 hF34; clear hF31
 refine s1 hF34 10 (.pointer (some ⟨b1, 0, none⟩)) ?_; intro a35 hF36; clear hF34
 refine s1 hF36 11 (.pointer (some ⟨b1, 0, none⟩)) ?_; intro a37 hF38; clear hF36
 refine s1 hF38 12 (.pointer (some ⟨b1, 2, none⟩)) ?_; intro a39 hF40; clear hF38
 refine l1 hF40 hM28 13 0 2 (.int .i64 r19.2.Reader.Code) rfl rfl ?_; intro a41 hF42; clear hF40
 refine s1 hF42 14 (.bool (r19.2.Reader.Code == 0)) ?_; intro a43 hF44; clear hF42
 refine s1 hF44 15 (.bool (r19.2.Reader.Code == 0)) ?_; intro a45 hF46; clear hF44
 have hF47 := hF46.atom ((r19.2.Reader.Code == 0) == true) (by kernel_rfl); clear hF46
 refine gp hF47 16 0 [] (r19.2.Reader.Code == 0) (str r19.1) rfl rfl ?_; intro a48 hF49; clear hF47
 refine gp hF49 17 0 [] (r19.2.Reader.Code == 0) (str u1) rfl rfl ?_; intro a50 hF51; clear hF49
 refine gd hF51 (.bool (r19.1 != u1)) (m := 0) (cj := []) (bj := r19.2.Reader.Code == 0) rfl rfl (by kernel_rfl) rfl (by kernel_rfl) (by kernel_rfl) (by kernel_rfl) (fun hg => strcmp_run hF51 (g := [0]) (op := .neq) rfl (by kernel_rfl) (by kernel_rfl) (by decide) hg) ?_; intro a52 hF53; clear hF51
 refine st hF53 (.bool ((r19.2.Reader.Code == 0) && (r19.1 != u1))) (nog rfl _) rfl (by kernel_rfl) (pk_and hF53 (g := []) (m := 0) (b := r19.2.Reader.Code == 0) (v := r19.1 != u1) rfl (by kernel_rfl) (by kernel_rfl) (by kernel_rfl) rfl) ?_; intro a54 hF55; clear hF53
 refine nlH (hQ32 _ _ ?_); clear hQ32 hQ32Q
 refine cd hF55 (t := (r19.2.Reader.Code == 0) && (r19.1 != u1)) (by kernel_rfl) (fun hb56 => ?_) (fun hb56 => ?_)
 · -- yes
  have hp57 := hp29.1 hb56; clear hp29
  have hF58 : Fr 22 [] [⟨0, [], .pointer (some ⟨b1, 0, none⟩)⟩] a54 := hF55.region (by kernel_rfl) (by kernel_rfl); clear hF55
  refine rgH ?_; intro hQ59Q hQ59
  refine s1 hF58 20 (.pointer (some ⟨b1, 0, none⟩)) ?_; intro a60 hF61; clear hF58
  refine cl hF61 34 #[.pointer (some ⟨b1, 0, none⟩), .int .i64 4] (nog rfl _) rfl (by kernel_rfl) (by kernel_rfl) ?_
  obtain ⟨r66, hr67⟩ : ∃ x, (rfailS r19.2 4) = x := ⟨_, rfl⟩; have hp68 := hp57 r66 hr67; clear hp57
  have h9 := rfail_fun r19.2 4 b1 ao23 cap24 _ _ _ _ _ _ hs25 hM28 hM28.fz; rw [hr67] at h9; refine h9.mono ?_; clear h9; rintro _ wd62 ⟨ao70, cap71, Z73, rfl, hle74, hs72, hm⟩; refine ⟨_, rfl, ?_⟩; intro a63 hF64; have hM65 := hm; clear hm hM28 hF61
  replace hs4 := hs4.mono hle74
  replace hs25 := hs25.mono hle74
  replace hle0 := Fz.le.trans hle0 hle74
  have hM75 : Mem B [] w0 Z0 ((.row b1 [str r66.Reader.Row, .int .i64 r66.Reader.At, .int .i64 r66.Reader.Code, .int .u8 r66.Reader.c.last, .int .i64 r66.Reader.c.n, .int .i64 r66.f.ID, .bool r66.f.Long, .bool r66.f.Fast, .bool r66.f.Remote, .int .i64 r66.f.Size, .slice ao70 r66.f.Data.length cap71] 61) :: Rr) Z73 wd62 := hM65; clear hM65
  have hp76 := hp68 (hs72.small); clear hp68
  refine nlH (hQ59 _ _ ?_); clear hQ59 hQ59Q
  refine rN (fn := Tryz.f66) (v := .tuple #[]) hF64 (re0 hF64 (fn := Tryz.f66) rfl) ?_
  exact ⟨r66, ao70, cap71, Z73, rfl, hp76, hle0, hs72, hM75.keep (List.Sublist.cons_cons _ (List.Sublist.refl _))⟩
 · -- no
  have hp77 := hp29.2 hb56; clear hp29
  refine wp_skip ?_
  refine rN (fn := Tryz.f66) (v := .tuple #[]) hF55 (re0 hF55 (fn := Tryz.f66) rfl) ?_
  exact ⟨r19.2, ao23, cap24, Z26, rfl, hp77, hle0, hs25, hM28.keep (List.Sublist.cons_cons _ (List.Sublist.refl _))⟩

set_option maxRecDepth 100000 in
set_option maxHeartbeats 0 in
theorem rnumber_walk (u0 : FReader) (u1 : Int) (b1 : Nat) (ao2 : Option Addr) (cap3 : Nat) (B : Nat) (w0 : World) (Z0 : Fz) (Rr : List Res) (Z : Fz) (w : World) (hs4 : SlR (tyInt .u8) Z ao2 cap3 u0.f.Data) (hM0 : Mem B [] w0 Z0 ((.row b1 [str u0.Reader.Row, .int .i64 u0.Reader.At, .int .i64 u0.Reader.Code, .int .u8 u0.Reader.c.last, .int .i64 u0.Reader.c.n, .int .i64 u0.f.ID, .bool u0.f.Long, .bool u0.f.Fast, .bool u0.f.Remote, .int .i64 u0.f.Size, .slice ao2 u0.f.Data.length cap3] 61) :: Rr) Z w) (hZ : Z.on w) {K : (Int × FReader) → Prop} (hp : rnumber_vc u0 u1 K) : Calls Tryz.prog 33 #[.pointer (some ⟨b1, 0, none⟩), .int .i64 u1] w fun e w' => ∃ (r : Int × FReader) (ao1001 : Option Addr) (cap1002 : Nat) (Z' : Fz), e = .returned (.int .i64 r.1) ∧ K r ∧ Fz.le Z Z' ∧ SlR (tyInt .u8) Z' ao1001 cap1002 r.2.f.Data ∧ Mem B [] w0 Z0 ((.row b1 [str r.2.Reader.Row, .int .i64 r.2.Reader.At, .int .i64 r.2.Reader.Code, .int .u8 r.2.Reader.c.last, .int .i64 r.2.Reader.c.n, .int .i64 r.2.f.ID, .bool r.2.f.Long, .bool r.2.f.Fast, .bool r.2.f.Remote, .int .i64 r.2.f.Size, .slice ao1001 r.2.f.Data.length cap1002] 61) :: Rr) Z' w' := by
 refine enter0 Tryz.func33 rfl rfl (by kernel_rfl) ?_; intro a0 hF0; have hle0 := Fz.le.refl Z
 have hp5 := hp (hs4.small); clear hp
 refine sqH ?_; intro hQ6Q hQ6
 refine s1 hF0 4 (.int .i64 0) ?_; intro a7 hF8; clear hF0
 refine nlH (hQ6 _ _ ?_); clear hQ6 hQ6Q
 refine sqH ?_; intro hQ9Q hQ9
 refine s1 hF8 6 (.pointer (some ⟨b1, 0, none⟩)) ?_; intro a10 hF11; clear hF8
 refine s1 hF11 7 (.pointer (some ⟨b1, 0, none⟩)) ?_; intro a12 hF13; clear hF11
 refine s1 hF13 8 (.pointer (some ⟨b1, 0, none⟩)) ?_; intro a14 hF15; clear hF13
 refine s1 hF15 9 (.int .i64 u1) ?_; intro a16 hF17; clear hF15
 have hc18 := hp5.1; have hp19 := hp5.2; clear hp5
 refine cl hF17 36 #[.pointer (some ⟨b1, 0, none⟩), .int .i64 u1] (nog rfl _) rfl (by kernel_rfl) (by kernel_rfl) ?_
 obtain ⟨r24, hr25⟩ : ∃ x, (rtakeFS u0 u1) = x := ⟨_, rfl⟩; have hp26 := hp19 r24 hr25; clear hp19
 have h9 := rtakeF_fun u0 u1 hc18 b1 ao2 cap3 _ _ _ _ _ _ hs4 hM0 hM0.fz; rw [hr25] at h9; refine h9.mono ?_; clear h9; rintro _ wd20 ⟨ao28, cap29, Z31, rfl, hle32, hs30, hm⟩; refine ⟨_, rfl, ?_⟩; intro a21 hF22; have hM23 := hm; clear hm hM0 hF17
 replace hs4 := hs4.mono hle32
 replace hle0 := Fz.le.trans hle0 hle32
 have hM33 : Mem B [] w0 Z0 ((.row b1 [str r24.2.Reader.Row, .int .i64 r24.2.Reader.At, .int .i64 r24.2.Reader.Code, .int .u8 r24.2.Reader.c.last, .int .i64 r24.2.Reader.c.n, .int .i64 r24.2.f.ID, .bool r24.2.f.Long, .bool r24.2.f.Fast, .bool r24.2.f.Remote, .int .i64 r24.2.f.Size, .slice ao28 r24.2.f.Data.length cap29] 61) :: Rr) Z31 wd20 := hM23; clear hM23
 have hp34 := hp26 (hs30.small); clear hp26
 refine s1 hF22 5 (str r24.1) ?_; intro a35 hF36; clear hF22
 refine nlH (hQ9 _ _ ?_); clear hQ9 hQ9Q
 refine wp_seq ?_
 refine sqH ?_; intro hQ37Q hQ37
 refine s1 hF36 11 (.pointer (some ⟨b1, 0, none⟩)) ?_; intro a38 hF39; clear hF36
 refine s1 hF39 12 (.pointer (some ⟨b1, 0, none⟩)) ?_; intro a40 hF41; clear hF39
 refine s1 hF41 13 (.pointer (some ⟨b1, 0, none⟩)) ?_; intro a42 hF43; clear hF41
 refine s1 hF43 14 (.pointer (some ⟨b1, 2, none⟩)) ?_; intro a44 hF45; clear hF43
 refine l1 hF45 hM33 15 0 2 (.int .i64 r24.2.Reader.Code) rfl rfl ?_; intro a46 hF47; clear hF45
 refine s1 hF47 16 (.bool (r24.2.Reader.Code != 0)) ?_; intro a48 hF49; clear hF47
 refine nlH (hQ37 _ _ ?_); clear hQ37 hQ37Q
 refine cd hF49 (t := r24.2.Reader.Code != 0) (by kernel_rfl) (fun hb50 => ?_) (fun hb50 => ?_)
 · -- yes
  have hp51 := hp34.1 hb50; clear hp34
  refine sqH ?_; intro hQ52Q hQ52
  refine s1 hF49 4 (.int .i64 0) ?_; intro a53 hF54; clear hF49
  refine nlH (hQ52 _ _ ?_); clear hQ52 hQ52Q
  refine wp_ret ?_
  refine thr ?_
  refine rt (fn := Tryz.f33) (v := .int .i64 0) hF54 (re1 hF54 (fn := Tryz.f33) rfl (by kernel_rfl)) ?_
  exact ⟨(0, r24.2), ao28, cap29, Z31, rfl, hp51, hle0, hs30, hM33.keep (List.Sublist.cons_cons _ (List.Sublist.refl _))⟩
 · -- no
  have hp55 := hp34.2 hb50; clear hp34
  refine wp_skip ?_
  refine thn ?_
  refine sqH ?_; intro hQ56Q hQ56
  refine s1 hF49 17 (str r24.1) ?_; intro a57 hF58; clear hF49
  have hc59 := hp55.1; have hp60 := hp55.2; clear hp55
  refine fcl hF58 hM33 (.int .u64 (breadS r24.1)) 67 #[str r24.1] (nog rfl _) rfl (by kernel_rfl) (fun _ => by kernel_rfl) (bread_fun r24.1 hc59 _ _ hM33.fz) ?_; intro a61 wd63 hF62 hM64; clear hF58 hM33
  refine s1 hF62 19 (.int .i64 (w64 (breadS r24.1))) ?_; intro a65 hF66; clear hF62
  refine s1 hF66 4 (.int .i64 (w64 (breadS r24.1))) ?_; intro a67 hF68; clear hF66
  refine nlH (hQ56 _ _ ?_); clear hQ56 hQ56Q
  refine wp_ret ?_
  refine rt (fn := Tryz.f33) (v := .int .i64 (w64 (breadS r24.1))) hF68 (re1 hF68 (fn := Tryz.f33) rfl (by kernel_rfl)) ?_
  exact ⟨(w64 (breadS r24.1), r24.2), ao28, cap29, Z31, rfl, hp60, hle0, hs30, hM64.keep (List.Sublist.cons_cons _ (List.Sublist.refl _))⟩

end Go.Proofs.YtmbdcehmeiiaoaaGreatDoor
