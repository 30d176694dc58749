/- The walks, made by program: each call does what its pure predicate says. -/
import Derived.Test.YtmbdcehmeiiaoaaGreatDoorPC
import Derived.Test.YtmbdcehmeiiaoaaGreatDoorWB
set_option linter.unusedVariables false
set_option linter.unusedSimpArgs false
namespace Go.Proofs.YtmbdcehmeiiaoaaGreatDoor
open Go.Sy Go.RowKit
theorem csum_fun (u0 : Int) (u1 : List UInt8)  (Z : Fz) (w : World)  (hZ : Z.on w) : Calls Tryz.prog 39 #[.int .i64 u0, str u1] w fun e w' => e = .returned (.tuple #[str ((csumS u0 u1).1), .int .i64 ((csumS u0 u1).2)]) ∧ Below w.heap.size w w' :=
  (csum_walk u0 u1  Z w  hZ (csum_ok u0 u1)).mono fun _ _ ⟨r, he, hk, hb⟩ => ⟨by subst hk; exact he, hb⟩

theorem bof_fun (u0 : List Int) (hpre : ∀ x ∈ u0, 0 ≤ x ∧ x ≤ 255) (ao1 : Option Addr) (cap2 : Nat) (Z : Fz) (w : World) (hs3 : SlR (tyInt .u8) Z ao1 cap2 u0) (hZ : Z.on w) : Calls Tryz.prog 73 #[.slice ao1 u0.length cap2] w fun e w' => e = .returned (.tuple #[str ((bofS u0).1), .int .i64 ((bofS u0).2)]) ∧ Below w.heap.size w w' :=
  (bof_walk u0 ao1 cap2 Z w hs3 hZ (bof_ok u0 hpre)).mono fun _ _ ⟨r, he, hk, hb⟩ => ⟨by subst hk; exact he, hb⟩


theorem rtakeF_fun (u0 : FReader) (u1 : Int) (hpre : Rok u0.Reader ∧ u1 ≤ 9223372036854775807) (b1 : Nat) (ao2 : Option Addr) (cap3 : Nat) (B : Nat) (w0 : World) (Z0 : Fz) (Rr : List Res) (Z : Fz) (w : World) (hs4 : SlR (tyInt .u8) Z ao2 cap3 u0.f.Data) (hM0 : Mem B [] w0 Z0 ((.row b1 [str u0.Reader.Row, .int .i64 u0.Reader.At, .int .i64 u0.Reader.Code, .int .u8 u0.Reader.c.last, .int .i64 u0.Reader.c.n, .int .i64 u0.f.ID, .bool u0.f.Long, .bool u0.f.Fast, .bool u0.f.Remote, .int .i64 u0.f.Size, .slice ao2 u0.f.Data.length cap3] 61) :: Rr) Z w) (hZ : Z.on w) : Calls Tryz.prog 36 #[.pointer (some ⟨b1, 0, none⟩), .int .i64 u1] w fun e w' => ∃ (ao1001 : Option Addr) (cap1002 : Nat) (Z' : Fz), e = .returned (str (rtakeFS u0 u1).1) ∧ Fz.le Z Z' ∧ SlR (tyInt .u8) Z' ao1001 cap1002 (rtakeFS u0 u1).2.f.Data ∧ Mem B [] w0 Z0 ((.row b1 [str (rtakeFS u0 u1).2.Reader.Row, .int .i64 (rtakeFS u0 u1).2.Reader.At, .int .i64 (rtakeFS u0 u1).2.Reader.Code, .int .u8 (rtakeFS u0 u1).2.Reader.c.last, .int .i64 (rtakeFS u0 u1).2.Reader.c.n, .int .i64 (rtakeFS u0 u1).2.f.ID, .bool (rtakeFS u0 u1).2.f.Long, .bool (rtakeFS u0 u1).2.f.Fast, .bool (rtakeFS u0 u1).2.f.Remote, .int .i64 (rtakeFS u0 u1).2.f.Size, .slice ao1001 (rtakeFS u0 u1).2.f.Data.length cap1002] 61) :: Rr) Z' w' :=
  (rtakeF_walk u0 u1 b1 ao2 cap3 B w0 Z0 Rr Z w hs4 hM0 hZ (rtakeF_ok u0 u1 hpre)).mono fun _ _ ⟨r, h0, h1, h2, he, hk, f0, f1, hm⟩ => by subst hk; exact ⟨h0, h1, h2, he, f0, f1, hm⟩
theorem rtakeF_funK (u0 : FReader) (u1 : Int) (hpre : Rok u0.Reader ∧ u1 ≤ 9223372036854775807) (b1 : Nat) (ao2 : Option Addr) (cap3 : Nat) (B : Nat) (w0 : World) (Z0 : Fz) (Rr : List Res) (Z : Fz) (w : World) (hs4 : SlR (tyInt .u8) Z ao2 cap3 u0.f.Data) (hM0 : Mem B [] w0 Z0 ((.row b1 [str u0.Reader.Row, .int .i64 u0.Reader.At, .int .i64 u0.Reader.Code, .int .u8 u0.Reader.c.last, .int .i64 u0.Reader.c.n, .int .i64 u0.f.ID, .bool u0.f.Long, .bool u0.f.Fast, .bool u0.f.Remote, .int .i64 u0.f.Size, .slice ao2 u0.f.Data.length cap3] 61) :: Rr) Z w) (hZ : Z.on w) : Calls Tryz.prog 36 #[.pointer (some ⟨b1, 0, none⟩), .int .i64 u1] w fun e w' => ∃ (ao1001 : Option Addr) (cap1002 : Nat) (Z' : Fz), e = .returned (str (rtakeFS u0 u1).1) ∧ Fz.le Z Z' ∧ SlR (tyInt .u8) Z' ao1001 cap1002 u0.f.Data ∧ Mem B [] w0 Z0 ((.row b1 [str (rtakeFS u0 u1).2.Reader.Row, .int .i64 (rtakeFS u0 u1).2.Reader.At, .int .i64 (rtakeFS u0 u1).2.Reader.Code, .int .u8 (rtakeFS u0 u1).2.Reader.c.last, .int .i64 (rtakeFS u0 u1).2.Reader.c.n, .int .i64 u0.f.ID, .bool u0.f.Long, .bool u0.f.Fast, .bool u0.f.Remote, .int .i64 u0.f.Size, .slice ao1001 u0.f.Data.length cap1002] 61) :: Rr) Z' w' :=
  (rtakeF_walk u0 u1 b1 ao2 cap3 B w0 Z0 Rr Z w hs4 hM0 hZ (rtakeF_ok u0 u1 hpre)).mono fun _ _ ⟨r, h0, h1, h2, he, hk, f0, f1, hm⟩ => by subst hk; have hkp : (rtakeFS u0 u1).2.f = u0.f := rtakeFS_f u0 u1; (try simp only [hkp] at *); exact ⟨h0, h1, h2, he, f0, f1, hm⟩


theorem rplainF_fun (u0 : FReader) (u1 : Int) (hpre : (0 ≤ u0.Reader.At ∧ u0.Reader.At ≤ (u0.Reader.Row.length : Int) ∧ u0.Reader.Row.length ≤ 1000000) ∧ u1 ≤ 1000000) (b1 : Nat) (ao2 : Option Addr) (cap3 : Nat) (B : Nat) (w0 : World) (Z0 : Fz) (Rr : List Res) (Z : Fz) (w : World) (hs4 : SlR (tyInt .u8) Z ao2 cap3 u0.f.Data) (hM0 : Mem B [] w0 Z0 ((.row b1 [str u0.Reader.Row, .int .i64 u0.Reader.At, .int .i64 u0.Reader.Code, .int .u8 u0.Reader.c.last, .int .i64 u0.Reader.c.n, .int .i64 u0.f.ID, .bool u0.f.Long, .bool u0.f.Fast, .bool u0.f.Remote, .int .i64 u0.f.Size, .slice ao2 u0.f.Data.length cap3] 61) :: Rr) Z w) (hZ : Z.on w) : Calls Tryz.prog 41 #[.pointer (some ⟨b1, 0, none⟩), .int .i64 u1] w fun e w' => ∃ (ao1001 : Option Addr) (cap1002 : Nat) (Z' : Fz), e = .returned (str (rplainFS u0 u1).1) ∧ Fz.le Z Z' ∧ SlR (tyInt .u8) Z' ao1001 cap1002 (rplainFS u0 u1).2.f.Data ∧ Mem B [] w0 Z0 ((.row b1 [str (rplainFS u0 u1).2.Reader.Row, .int .i64 (rplainFS u0 u1).2.Reader.At, .int .i64 (rplainFS u0 u1).2.Reader.Code, .int .u8 (rplainFS u0 u1).2.Reader.c.last, .int .i64 (rplainFS u0 u1).2.Reader.c.n, .int .i64 (rplainFS u0 u1).2.f.ID, .bool (rplainFS u0 u1).2.f.Long, .bool (rplainFS u0 u1).2.f.Fast, .bool (rplainFS u0 u1).2.f.Remote, .int .i64 (rplainFS u0 u1).2.f.Size, .slice ao1001 (rplainFS u0 u1).2.f.Data.length cap1002] 61) :: Rr) Z' w' :=
  (rplainF_walk u0 u1 b1 ao2 cap3 B w0 Z0 Rr Z w hs4 hM0 hZ (rplainF_ok u0 u1 hpre)).mono fun _ _ ⟨r, h0, h1, h2, he, hk, f0, f1, hm⟩ => by subst hk; exact ⟨h0, h1, h2, he, f0, f1, hm⟩
theorem rplainF_funK (u0 : FReader) (u1 : Int) (hpre : (0 ≤ u0.Reader.At ∧ u0.Reader.At ≤ (u0.Reader.Row.length : Int) ∧ u0.Reader.Row.length ≤ 1000000) ∧ u1 ≤ 1000000) (b1 : Nat) (ao2 : Option Addr) (cap3 : Nat) (B : Nat) (w0 : World) (Z0 : Fz) (Rr : List Res) (Z : Fz) (w : World) (hs4 : SlR (tyInt .u8) Z ao2 cap3 u0.f.Data) (hM0 : Mem B [] w0 Z0 ((.row b1 [str u0.Reader.Row, .int .i64 u0.Reader.At, .int .i64 u0.Reader.Code, .int .u8 u0.Reader.c.last, .int .i64 u0.Reader.c.n, .int .i64 u0.f.ID, .bool u0.f.Long, .bool u0.f.Fast, .bool u0.f.Remote, .int .i64 u0.f.Size, .slice ao2 u0.f.Data.length cap3] 61) :: Rr) Z w) (hZ : Z.on w) : Calls Tryz.prog 41 #[.pointer (some ⟨b1, 0, none⟩), .int .i64 u1] w fun e w' => ∃ (ao1001 : Option Addr) (cap1002 : Nat) (Z' : Fz), e = .returned (str (rplainFS u0 u1).1) ∧ Fz.le Z Z' ∧ SlR (tyInt .u8) Z' ao1001 cap1002 u0.f.Data ∧ Mem B [] w0 Z0 ((.row b1 [str (rplainFS u0 u1).2.Reader.Row, .int .i64 (rplainFS u0 u1).2.Reader.At, .int .i64 (rplainFS u0 u1).2.Reader.Code, .int .u8 (rplainFS u0 u1).2.Reader.c.last, .int .i64 (rplainFS u0 u1).2.Reader.c.n, .int .i64 u0.f.ID, .bool u0.f.Long, .bool u0.f.Fast, .bool u0.f.Remote, .int .i64 u0.f.Size, .slice ao1001 u0.f.Data.length cap1002] 61) :: Rr) Z' w' :=
  (rplainF_walk u0 u1 b1 ao2 cap3 B w0 Z0 Rr Z w hs4 hM0 hZ (rplainF_ok u0 u1 hpre)).mono fun _ _ ⟨r, h0, h1, h2, he, hk, f0, f1, hm⟩ => by subst hk; have hkp : (rplainFS u0 u1).2.f = u0.f := rplainFS_f u0 u1; (try simp only [hkp] at *); exact ⟨h0, h1, h2, he, f0, f1, hm⟩

theorem sput_fun (u0 : List UInt8)  (Z : Fz) (w : World)  (hZ : Z.on w) : Calls Tryz.prog 54 #[str u0] w fun e w' => e = .returned (.tuple #[str ((sputS u0).1), .int .i64 ((sputS u0).2)]) ∧ Below w.heap.size w w' :=
  (sput_walk u0  Z w  hZ (sput_ok u0)).mono fun _ _ ⟨r, he, hk, hb⟩ => ⟨by subst hk; exact he, hb⟩

theorem sfixed_fun (u0 : List UInt8) (u1 : Int)  (Z : Fz) (w : World)  (hZ : Z.on w) : Calls Tryz.prog 57 #[str u0, .int .u8 u1] w fun e w' => e = .returned (.tuple #[str ((sfixedS u0 u1).1), .int .i64 ((sfixedS u0 u1).2)]) ∧ Below w.heap.size w w' :=
  (sfixed_walk u0 u1  Z w  hZ (sfixed_ok u0 u1)).mono fun _ _ ⟨r, he, hk, hb⟩ => ⟨by subst hk; exact he, hb⟩

theorem bbytes_fun (u0 : List UInt8)  (Z : Fz) (w : World)  (hZ : Z.on w) : Calls Tryz.prog 37 #[str u0] w fun e w' => ∃ (ao1001 : Option Addr) (cap1002 : Nat) (Z' : Fz), e = .returned (.tuple #[.slice ao1001 (bbytesS u0).1.length cap1002, .int .i64 (bbytesS u0).2]) ∧ Mem w.heap.size [] w Z [.own (tyInt .u8) 5 ao1001 cap1002 (bbytesS u0).1] Z' w' :=
  (bbytes_walk u0  Z w  hZ (bbytes_ok u0)).mono fun _ _ ⟨r, h0, h1, h2, he, hk, hm⟩ => by subst hk; exact ⟨h0, h1, h2, he, hm⟩

theorem beq_fun (u0 : List Int) (u1 : List Int) (ao1 : Option Addr) (cap2 : Nat) (ao4 : Option Addr) (cap5 : Nat) (Z : Fz) (w : World) (hs3 : SlR (tyInt .u8) Z ao1 cap2 u0) (hs6 : SlR (tyInt .u8) Z ao4 cap5 u1) (hZ : Z.on w) : Calls Tryz.prog 52 #[.slice ao1 u0.length cap2, .slice ao4 u1.length cap5] w fun e w' => e = .returned (.bool (beqS u0 u1)) ∧ Below w.heap.size w w' :=
  (beq_walk u0 u1 ao1 cap2 ao4 cap5 Z w hs3 hs6 hZ (beq_ok u0 u1)).mono fun _ _ ⟨r, he, hk, hb⟩ => ⟨by subst hk; exact he, hb⟩

theorem fname_fun (u0 : Frame) (hpre : 0 ≤ u0.ID ∧ u0.ID ≤ 536870911) (ao1 : Option Addr) (cap2 : Nat) (Z : Fz) (w : World) (hs3 : SlR (tyInt .u8) Z ao1 cap2 u0.Data) (hZ : Z.on w) : Calls Tryz.prog 53 #[.agg #[.int .i64 u0.ID, .bool u0.Long, .bool u0.Fast, .bool u0.Remote, .int .i64 u0.Size, .slice ao1 u0.Data.length cap2]] w fun e w' => e = .returned (str (fnameS u0)) ∧ Below w.heap.size w w' :=
  (fname_walk u0 ao1 cap2 Z w hs3 hZ (fname_ok u0 hpre)).mono fun _ _ ⟨r, he, hk, hb⟩ => ⟨by subst hk; exact he, hb⟩

theorem fcount_fun (u0 : Int) (hpre : 0 ≤ u0)  (Z : Fz) (w : World)  (hZ : Z.on w) : Calls Tryz.prog 55 #[.int .i64 u0] w fun e w' => e = .returned (str (fcountS u0)) ∧ Below w.heap.size w w' :=
  (fcount_walk u0  Z w  hZ (fcount_ok u0 hpre)).mono fun _ _ ⟨r, he, hk, hb⟩ => ⟨by subst hk; exact he, hb⟩

set_option maxRecDepth 100000 in
set_option maxHeartbeats 0 in
theorem fhead_walk (u0 : Frame) (ao1 : Option Addr) (cap2 : Nat) (Z : Fz) (w : World) (hs3 : SlR (tyInt .u8) Z ao1 cap2 u0.Data) (hZ : Z.on w) {K : (List UInt8) → Prop} (hp : fhead_vc u0 K) : Calls Tryz.prog 40 #[.agg #[.int .i64 u0.ID, .bool u0.Long, .bool u0.Fast, .bool u0.Remote, .int .i64 u0.Size, .slice ao1 u0.Data.length cap2]] w fun e w' => ∃ r : (List UInt8), e = .returned (str r) ∧ K r ∧ Below w.heap.size w w' := by
 refine enter0 Tryz.func40 rfl rfl (by kernel_rfl) ?_; intro a0 hF0; have hM0 := Mem.start w Z hZ; have hle0 := Fz.le.refl Z
 have hp4 := hp (hs3.small); clear hp
 refine sqH ?_; intro hQ5Q hQ5
 refine sn hF0 hM0 (fun b => .pointer (some ⟨b, 0, none⟩)) [.int .i64 u0.ID, .bool u0.Long, .bool u0.Fast, .bool u0.Remote, .int .i64 u0.Size, .slice ao1 u0.Data.length cap2] 24 (nog rfl _) rfl (by kernel_rfl) (by kernel_rfl) ?_; intro b6 a7 wd9 hF8 hM10; clear hF0 hM0
 refine s1 hF8 2 (str []) ?_; intro a11 hF12; clear hF8
 refine nlH (hQ5 _ _ ?_); clear hQ5 hQ5Q
 refine sqH ?_; intro hQ13Q hQ13
 refine s1 hF12 7 (.pointer (some ⟨b6, 4, none⟩)) ?_; intro a14 hF15; clear hF12
 refine l1 hF15 hM10 8 0 4 (.int .i64 u0.Size) rfl rfl ?_; intro a16 hF17; clear hF15
 refine s1 hF17 3 (.int .i64 u0.Size) ?_; intro a18 hF19; clear hF17
 refine nlH (hQ13 _ _ ?_); clear hQ13 hQ13Q
 refine wp_seq ?_
 refine sqH ?_; intro hQ20Q hQ20
 refine s1 hF19 9 (.pointer (some ⟨b6, 3, none⟩)) ?_; intro a21 hF22; clear hF19
 refine l1 hF22 hM10 10 0 3 (.bool u0.Remote) rfl rfl ?_; intro a23 hF24; clear hF22
 refine s1 hF24 11 (.bool (!u0.Remote)) ?_; intro a25 hF26; clear hF24
 refine nlH (hQ20 _ _ ?_); clear hQ20 hQ20Q
 refine cd hF26 (t := !u0.Remote) (by kernel_rfl) (fun hb27 => ?_) (fun hb27 => ?_)
 ·
  have hp28 := hp4.1 hb27; clear hp4
  have hF29 : Fr 45 [] [⟨1, [], .pointer (some ⟨b6, 0, none⟩)⟩] a25 := hF26.reg; clear hF26
  refine any_invE mixed [[], [], [1], [2], [0, 3], [0, 1, 2, 3, 4]] 6 (fun S a w1 => ∃ (ao34 : Option Addr) (cap35 : Nat) (ud3 : Value) (ud12 : Value) (ud13 : Value) (ud14 : Value) (ud15 : Value) (ud16 : Value) (rh0 : Res) (rh1 : Res) (Z56 : Fz), Fz.le Z Z56 ∧ Fr 45 [] [⟨1, [], .pointer (some ⟨b6, 0, none⟩)⟩, ⟨3, [], ud3⟩, ⟨12, [], ud12⟩, ⟨13, [], ud13⟩, ⟨14, [], ud14⟩, ⟨15, [], ud15⟩, ⟨16, [], ud16⟩] a ∧ Mem w.heap.size [] w Z [rh0, rh1] Z56 w1 ∧ (S 5 = true → ud3 = .int .i64 (sindexS fsizes (u0.Data.length : Int))) ∧ (S 0 = true → ud12 = .slice ao34 fsizes.length cap35) ∧ (S 1 = true → ud13 = .pointer (some ⟨b6, 5, none⟩)) ∧ (S 2 = true → ud14 = .slice ao1 u0.Data.length cap2) ∧ (S 3 = true → ud15 = .int .i64 (u0.Data.length : Int)) ∧ (S 4 = true → ud16 = .int .i64 (sindexS fsizes (u0.Data.length : Int))) ∧ (rh0 = .row b6 [.int .i64 u0.ID, .bool u0.Long, .bool u0.Fast, .bool u0.Remote, .int .i64 u0.Size, .slice ao1 u0.Data.length cap2] 24) ∧ (S 0 = false → rh1 = .nil) ∧ (S 0 = true → S 4 = false → rh1 = .own (tyInt .i64) 3 ao34 cap35 fsizes) ∧ (S 4 = true → rh1 = .nil) ∧ (S 4 = true → SlR (tyInt .i64) Z56 ao34 cap35 fsizes)) ?h0 ?hs ?hE
  case h0 =>
   have hF58 := hF29.any 3
   have hF59 := hF58.any 12
   have hF60 := hF59.any 13
   have hF61 := hF60.any 14
   have hF62 := hF61.any 15
   have hF63 := hF62.any 16
   have hM64 := hM10.nilRes
   have hM65 := (hM64.perm ((pk 1 rfl).trans (lpr.cons _))).drew
   exact ⟨none, 0, a25.tmps.getD 3 undef, a25.tmps.getD 12 undef, a25.tmps.getD 13 undef, a25.tmps.getD 14 undef, a25.tmps.getD 15 undef, a25.tmps.getD 16 undef, .row b6 [.int .i64 u0.ID, .bool u0.Long, .bool u0.Fast, .bool u0.Remote, .int .i64 u0.Size, .slice ao1 u0.Data.length cap2] 24, .nil, Z, Fz.le.refl _, hF63.reg, hM65, ff, ff, ff, ff, ff, ff, rfl, kf, ff, ff, ff⟩
  case hs =>
   intro S hcl i o hil hi hSi hpre a w1 hI; refine Go.Sy.hid ?_; intro G hG; obtain ⟨ao34, cap35, ud3, ud12, ud13, ud14, ud15, ud16, rh0, rh1, Z56, hle57, hFx, hMx, cu3, cu12, cu13, cu14, cu15, cu16, cr0_0, cr1_0, cr1_1, cr1_2, hI⟩ := hI; have cf0 := hI; clear hI
   have hcase : i = 0 ∨ i = 1 ∨ i = 2 ∨ i = 3 ∨ i = 4 ∨ i = 5 := by clear hi; omega
   rcases hcase with rfl | rfl | rfl | rfl | rfl | rfl
   ·
    obtain rfl := oj hi
    have hx0 := hSi
    have hx4 := ngF hcl 4 0 hx0
    have hx5 := ngF hcl 5 0 hx0
    obtain rfl := cr0_0
    obtain rfl := cr1_0 hx0
    refine hG (any_step ?_); clear hG G; intro A J hJ
    have hle0 := Fz.le.trans hle0 hle57
    have hzst := Fz.le.refl Z56
    have hs66 := hs3.mono hle57
    have hM67 := hMx.keep (List.Sublist.cons_cons _ (List.Sublist.cons _ (List.Sublist.slnil))); clear hMx
    refine cl hFx 35 #[] (nog rfl _) rfl (by kernel_rfl) (by kernel_rfl) ?_
    refine (fsizes_fun  _ _ hM67.fz).mono ?_; rintro _ wd68 ⟨ao72, cap73, Z74, rfl, hm⟩; refine ⟨_, rfl, ?_⟩; intro a69 hF70; have hM71 := hM67.callZ hm; have hle75 := hm.ext.le; clear hm hM67 hFx
    replace hzst := hzst.mono hle75
    replace hs66 := hs66.mono hle75
    replace hle0 := Fz.le.trans hle0 hle75
    have hM76 : Mem w.heap.size [] w Z [.own (tyInt .i64) 3 ao72 cap73 fsizes, .row b6 [.int .i64 u0.ID, .bool u0.Long, .bool u0.Fast, .bool u0.Remote, .int .i64 u0.Size, .slice ao1 u0.Data.length cap2] 24] Z74 wd68 := hM71; clear hM71
    refine nl (qnI (hJ _ _ ?_)); clear hJ J
    exact ⟨ao72, cap73, ud3, .slice ao72 fsizes.length cap73, ud13, ud14, ud15, ud16, .row b6 [.int .i64 u0.ID, .bool u0.Long, .bool u0.Fast, .bool u0.Remote, .int .i64 u0.Size, .slice ao1 u0.Data.length cap2] 24, .own (tyInt .i64) 3 ao72 cap73 fsizes, Z74, hle57.trans hzst, hF70.reg, hM76.perm ((pk 1 rfl).trans (lpr.cons _)), (nt hx5), kf, cu13, cu14, cu15, (nt hx4), rfl, nu, kf2, (nt hx4), (nt hx4)⟩
   ·
    obtain rfl := oj hi
    have hx1 := hSi
    have hx2 := ngF hcl 2 1 hx1
    have hx3 := ngF hcl 3 2 hx2
    have hx4 := ngF hcl 4 3 hx3
    have hx5 := ngF hcl 5 1 hx1
    obtain rfl := cr0_0
    refine hG (any_step ?_); clear hG G; intro A J hJ
    have hle0 := Fz.le.trans hle0 hle57
    have hzst := Fz.le.refl Z56
    have hs78 := hs3.mono hle57
    refine s1 hFx 13 (.pointer (some ⟨b6, 5, none⟩)) ?_; intro a79 hF80; clear hFx
    refine nl (qnI (hJ _ _ ?_)); clear hJ J
    exact ⟨ao34, cap35, ud3, ud12, .pointer (some ⟨b6, 5, none⟩), ud14, ud15, ud16, .row b6 [.int .i64 u0.ID, .bool u0.Long, .bool u0.Fast, .bool u0.Remote, .int .i64 u0.Size, .slice ao1 u0.Data.length cap2] 24, rh1, Z56, hle57, hF80.reg, hMx.perm lpr, (nt hx5), cu12, kf, (nt hx2), (nt hx3), (nt hx4), rfl, cr1_0, cr1_1, (nt hx4), (nt hx4)⟩
   ·
    obtain rfl := oj hi
    have hx1 := hpre 1 (by kernel_rfl)
    have hx2 := hSi
    have hx3 := ngF hcl 3 2 hx2
    have hx4 := ngF hcl 4 3 hx3
    have hx5 := ngF hcl 5 2 hx2
    obtain rfl := cu13 hx1
    obtain rfl := cr0_0
    refine hG (any_step ?_); clear hG G; intro A J hJ
    have hle0 := Fz.le.trans hle0 hle57
    have hzst := Fz.le.refl Z56
    have hs82 := hs3.mono hle57
    refine l1 hFx hMx 14 0 5 (.slice ao1 u0.Data.length cap2) rfl rfl ?_; intro a83 hF84; clear hFx
    refine nl (qnI (hJ _ _ ?_)); clear hJ J
    exact ⟨ao34, cap35, ud3, ud12, .pointer (some ⟨b6, 5, none⟩), .slice ao1 u0.Data.length cap2, ud15, ud16, .row b6 [.int .i64 u0.ID, .bool u0.Long, .bool u0.Fast, .bool u0.Remote, .int .i64 u0.Size, .slice ao1 u0.Data.length cap2] 24, rh1, Z56, hle57, hF84.reg, hMx.perm lpr, (nt hx5), cu12, kf, kf, (nt hx3), (nt hx4), rfl, cr1_0, cr1_1, (nt hx4), (nt hx4)⟩
   ·
    obtain rfl := oj hi
    have hx2 := hpre 2 (by kernel_rfl)
    have hx1 := hcl 2 1 (by kernel_rfl) hx2
    have hx3 := hSi
    have hx4 := ngF hcl 4 3 hx3
    have hx5 := ngF hcl 5 3 hx3
    obtain rfl := cu13 hx1
    obtain rfl := cu14 hx2
    obtain rfl := cr0_0
    refine hG (any_step ?_); clear hG G; intro A J hJ
    have hle0 := Fz.le.trans hle0 hle57
    have hzst := Fz.le.refl Z56
    have hs86 := hs3.mono hle57
    refine s1 hFx 15 (.int .i64 (u0.Data.length : Int)) ?_; intro a87 hF88; clear hFx
    refine nl (qnI (hJ _ _ ?_)); clear hJ J
    exact ⟨ao34, cap35, ud3, ud12, .pointer (some ⟨b6, 5, none⟩), .slice ao1 u0.Data.length cap2, .int .i64 (u0.Data.length : Int), ud16, .row b6 [.int .i64 u0.ID, .bool u0.Long, .bool u0.Fast, .bool u0.Remote, .int .i64 u0.Size, .slice ao1 u0.Data.length cap2] 24, rh1, Z56, hle57, hF88.reg, hMx.perm lpr, (nt hx5), cu12, kf, kf, kf, (nt hx4), rfl, cr1_0, cr1_1, (nt hx4), (nt hx4)⟩
   ·
    obtain rfl := oj hi
    have hx3 := hpre 3 (by kernel_rfl)
    have hx0 := hpre 0 (by kernel_rfl)
    have hx2 := hcl 3 2 (by kernel_rfl) hx3
    have hx1 := hcl 2 1 (by kernel_rfl) hx2
    have hx4 := hSi
    have hx5 := ngF hcl 5 4 hx4
    obtain rfl := cu12 hx0
    obtain rfl := cu13 hx1
    obtain rfl := cu14 hx2
    obtain rfl := cu15 hx3
    obtain rfl := cr0_0
    obtain rfl := cr1_1 hx0 hx4
    refine hG (any_step ?_); clear hG G; intro A J hJ
    have hle0 := Fz.le.trans hle0 hle57
    have hzst := Fz.le.refl Z56
    have hs90 := hs3.mono hle57
    obtain ⟨Z91, hle92, hM93, hs94⟩ := hMx.freeze 1 rfl
    replace hzst := hzst.mono hle92
    replace hs90 := hs90.mono hle92
    replace hle0 := Fz.le.trans hle0 hle92
    have hM95 : Mem w.heap.size [] w Z [.row b6 [.int .i64 u0.ID, .bool u0.Long, .bool u0.Fast, .bool u0.Remote, .int .i64 u0.Size, .slice ao1 u0.Data.length cap2] 24] Z91 w1 := hM93; clear hM93
    refine fcl hFx hM95 (.int .i64 (sindexS fsizes (u0.Data.length : Int))) 27 #[.slice ao34 fsizes.length cap35, .int .i64 (u0.Data.length : Int)] (nog rfl _) rfl (by kernel_rfl) (fun _ => by kernel_rfl) (sindex_fun fsizes (u0.Data.length : Int) ao34 cap35 _ _ hs94 hM95.fz) ?_; intro a96 wd98 hF97 hM99; clear hFx hM95
    refine nl (qnI (hJ _ _ ?_)); clear hJ J
    have hM100 := hM99.nilRes
    exact ⟨ao34, cap35, ud3, .slice ao34 fsizes.length cap35, .pointer (some ⟨b6, 5, none⟩), .slice ao1 u0.Data.length cap2, .int .i64 (u0.Data.length : Int), .int .i64 (sindexS fsizes (u0.Data.length : Int)), .row b6 [.int .i64 u0.ID, .bool u0.Long, .bool u0.Fast, .bool u0.Remote, .int .i64 u0.Size, .slice ao1 u0.Data.length cap2] 24, .nil, Z91, hle57.trans hzst, hF97.reg, hM100.perm ((pk 1 rfl).trans (lpr.cons _)), (nt hx5), kf, kf, kf, kf, kf, rfl, (tn hx0), (fun _ => nu), kf, (fun _ => hs94)⟩
   ·
    obtain rfl := oj hi
    have hx4 := hpre 4 (by kernel_rfl)
    have hx3 := hpre 3 (by kernel_rfl)
    have hx2 := hpre 2 (by kernel_rfl)
    have hx1 := hpre 1 (by kernel_rfl)
    have hx0 := hpre 0 (by kernel_rfl)
    have hx5 := hSi
    obtain rfl := cu12 hx0
    obtain rfl := cu13 hx1
    obtain rfl := cu14 hx2
    obtain rfl := cu15 hx3
    obtain rfl := cu16 hx4
    obtain rfl := cr0_0
    obtain rfl := cr1_2 hx4
    refine hG (any_step ?_); clear hG G; intro A J hJ
    have hle0 := Fz.le.trans hle0 hle57
    have hzst := Fz.le.refl Z56
    have hs102 := hs3.mono hle57
    have hs103 := cf0 hx4
    have hM104 := hMx.keep (List.Sublist.cons_cons _ (List.Sublist.cons _ (List.Sublist.slnil))); clear hMx
    refine s1 hFx 3 (.int .i64 (sindexS fsizes (u0.Data.length : Int))) ?_; intro a105 hF106; clear hFx
    refine nl (qnI (hJ _ _ ?_)); clear hJ J
    have hM107 := hM104.nilRes
    exact ⟨ao34, cap35, .int .i64 (sindexS fsizes (u0.Data.length : Int)), .slice ao34 fsizes.length cap35, .pointer (some ⟨b6, 5, none⟩), .slice ao1 u0.Data.length cap2, .int .i64 (u0.Data.length : Int), .int .i64 (sindexS fsizes (u0.Data.length : Int)), .row b6 [.int .i64 u0.ID, .bool u0.Long, .bool u0.Fast, .bool u0.Remote, .int .i64 u0.Size, .slice ao1 u0.Data.length cap2] 24, .nil, Z56, hle57, hF106.reg, hM107.perm ((pk 1 rfl).trans (lpr.cons _)), kf, kf, kf, kf, kf, kf, rfl, (tn hx0), (fun _ => tn hx4), kf, (fun _ => hs103)⟩
  case hE =>
   intro S hS a109 wd110 hI; refine Go.Sy.hid ?_; intro G hG; obtain ⟨ao34, cap35, ud3, ud12, ud13, ud14, ud15, ud16, rh0, rh1, Z56, hle57, hFx, hMx, cu3, cu12, cu13, cu14, cu15, cu16, cr0_0, cr1_0, cr1_1, cr1_2, hI⟩ := hI; have cf0 := hI; clear hI; refine hG ?_; clear hG G
   obtain rfl := cu3 (hS 5 (by decide))
   obtain rfl := cu12 (hS 0 (by decide))
   obtain rfl := cu13 (hS 1 (by decide))
   obtain rfl := cu14 (hS 2 (by decide))
   obtain rfl := cu15 (hS 3 (by decide))
   obtain rfl := cu16 (hS 4 (by decide))
   obtain rfl := cr0_0
   obtain rfl := cr1_2 (hS 4 (by decide))
   have hle0 := Fz.le.trans hle0 hle57
   have hs111 := hs3.mono hle57
   have hs112 := cf0 (hS 4 (by decide))
   have hMx := hMx.keep (List.Sublist.cons_cons _ (List.Sublist.cons _ (List.Sublist.slnil)))
   refine thn ?_
   have hF113 : Fr 45 [] [⟨1, [], .pointer (some ⟨b6, 0, none⟩)⟩, ⟨3, [], .int .i64 (sindexS fsizes (u0.Data.length : Int))⟩] a109 := hFx.reg; clear hFx
   refine sqH ?_; intro hQ114Q hQ114
   refine l2 hF113 hMx 17 0 0 6 [.int .i64 u0.ID, .bool u0.Long, .bool u0.Fast, .bool u0.Remote, .int .i64 u0.Size, .slice ao1 u0.Data.length cap2] rfl rfl ?_; intro a115 hF116; clear hF113
   have hc117 := hp28.1; have hp118 := hp28.2; clear hp28
   refine fcl hF116 hMx (str (fnameS u0)) 53 #[.agg #[.int .i64 u0.ID, .bool u0.Long, .bool u0.Fast, .bool u0.Remote, .int .i64 u0.Size, .slice ao1 u0.Data.length cap2]] (nog rfl _) rfl (by kernel_rfl) (fun _ => by kernel_rfl) (fname_fun u0 hc117 ao1 cap2 _ _ hs111 hMx.fz) ?_; intro a119 wd121 hF120 hM122; clear hF116 hMx
   have hc123 := hp118.1; have hp124 := hp118.2; clear hp118
   refine st hF120 (str (([48] : List UInt8) ++ (fnameS u0))) (nog rfl _) rfl (by kernel_rfl) (stradd_run hF120 (g := []) rfl (by kernel_rfl) (by kernel_rfl) hc123 rfl) ?_; intro a125 hF126; clear hF120
   refine s1 hF126 4 (str (([48] : List UInt8) ++ (fnameS u0))) ?_; intro a127 hF128; clear hF126
   refine nlH (hQ114 _ _ ?_); clear hQ114 hQ114Q
   refine wp_seq ?_
   refine wp_block ?_
   refine sqH ?_; intro hQ129Q hQ129
   refine s1 hF128 23 (.pointer (some ⟨b6, 2, none⟩)) ?_; intro a130 hF131; clear hF128
   refine l1 hF131 hM122 24 0 2 (.bool u0.Fast) rfl rfl ?_; intro a132 hF133; clear hF131
   refine s1 hF133 22 (.bool u0.Fast) ?_; intro a134 hF135; clear hF133
   refine nlH (hQ129 _ _ ?_); clear hQ129 hQ129Q
   refine cd hF135 (t := u0.Fast) (by kernel_rfl) (fun hb136 => ?_) (fun hb136 => ?_)
   ·
    have hp137 := hp124.1 hb136; clear hp124
    refine rgH ?_; intro hQ138Q hQ138
    refine s1 hF135 25 (str (([48] : List UInt8) ++ (fnameS u0))) ?_; intro a139 hF140; clear hF135
    have hc141 := hp137.1; have hp142 := hp137.2; clear hp137
    refine st hF140 (str ((([48] : List UInt8) ++ (fnameS u0)) ++ ([49, 48, 49, 48] : List UInt8))) (nog rfl _) rfl (by kernel_rfl) (stradd_run hF140 (g := []) rfl (by kernel_rfl) (by kernel_rfl) hc141 rfl) ?_; intro a143 hF144; clear hF140
    refine s1 hF144 4 (str ((([48] : List UInt8) ++ (fnameS u0)) ++ ([49, 48, 49, 48] : List UInt8))) ?_; intro a145 hF146; clear hF144
    refine nlH (hQ138 _ _ ?_); clear hQ138 hQ138Q
    refine ibn ?_
    refine thn ?_
    refine sqH ?_; intro hQ147Q hQ147
    refine s1 hF146 33 (.pointer (some ⟨b6, 5, none⟩)) ?_; intro a148 hF149; clear hF146
    refine l1 hF149 hM122 34 0 5 (.slice ao1 u0.Data.length cap2) rfl rfl ?_; intro a150 hF151; clear hF149
    have hc152 := hp142.1; have hp153 := hp142.2; clear hp142
    refine fcl hF151 hM122 (.tuple #[str ((bofS u0.Data).1), .int .i64 ((bofS u0.Data).2)]) 73 #[.slice ao1 u0.Data.length cap2] (nog rfl _) rfl (by kernel_rfl) (fun _ => by kernel_rfl) (bof_fun u0.Data hc152 ao1 cap2 _ _ hs111 hM122.fz) ?_; intro a154 wd156 hF155 hM157; clear hF151 hM122
    refine s1 hF155 32 (.tuple #[str ((bofS u0.Data).1), .int .i64 ((bofS u0.Data).2)]) ?_; intro a158 hF159; clear hF155
    refine s1 hF159 36 (str ((bofS u0.Data).1)) ?_; intro a160 hF161; clear hF159
    refine s1 hF161 37 (.int .i64 ((bofS u0.Data).2)) ?_; intro a162 hF163; clear hF161
    refine s1 hF163 5 (str ((bofS u0.Data).1)) ?_; intro a164 hF165; clear hF163
    refine s1 hF165 6 (.int .i64 ((bofS u0.Data).2)) ?_; intro a166 hF167; clear hF165
    refine nlH (hQ147 _ _ ?_); clear hQ147 hQ147Q
    have hF168 : Fr 45 [] [⟨3, [], .int .i64 (sindexS fsizes (u0.Data.length : Int))⟩, ⟨4, [], str ((([48] : List UInt8) ++ (fnameS u0)) ++ ([49, 48, 49, 48] : List UInt8))⟩, ⟨5, [], str ((bofS u0.Data).1)⟩] a166 := hF167.reg; clear hF167
    refine sqH ?_; intro hQ169Q hQ169
    refine s1 hF168 38 (str ((([48] : List UInt8) ++ (fnameS u0)) ++ ([49, 48, 49, 48] : List UInt8))) ?_; intro a170 hF171; clear hF168
    refine s1 hF171 39 (.int .i64 (sindexS fsizes (u0.Data.length : Int))) ?_; intro a172 hF173; clear hF171
    refine s1 hF173 40 (.int .u64 (wu64 (sindexS fsizes (u0.Data.length : Int)))) ?_; intro a174 hF175; clear hF173
    have hc176 := hp153.1; have hp177 := hp153.2; clear hp153
    refine fcl hF175 hM157 (str (bwriteS (wu64 (sindexS fsizes (u0.Data.length : Int))) 4)) 71 #[.int .u64 (wu64 (sindexS fsizes (u0.Data.length : Int))), .int .i64 4] (nog rfl _) rfl (by kernel_rfl) (fun _ => by kernel_rfl) (bwrite_fun (wu64 (sindexS fsizes (u0.Data.length : Int))) 4 hc176 _ _ hM157.fz) ?_; intro a178 wd180 hF179 hM181; clear hF175 hM157
    have hc182 := hp177.1; have hp183 := hp177.2; clear hp177
    refine st hF179 (str (((([48] : List UInt8) ++ (fnameS u0)) ++ ([49, 48, 49, 48] : List UInt8)) ++ (bwriteS (wu64 (sindexS fsizes (u0.Data.length : Int))) 4))) (nog rfl _) rfl (by kernel_rfl) (stradd_run hF179 (g := []) rfl (by kernel_rfl) (by kernel_rfl) hc182 rfl) ?_; intro a184 hF185; clear hF179
    refine s1 hF185 43 (str ((bofS u0.Data).1)) ?_; intro a186 hF187; clear hF185
    have hc188 := hp183.1; have hp189 := hp183.2; clear hp183
    refine st hF187 (str ((((([48] : List UInt8) ++ (fnameS u0)) ++ ([49, 48, 49, 48] : List UInt8)) ++ (bwriteS (wu64 (sindexS fsizes (u0.Data.length : Int))) 4)) ++ ((bofS u0.Data).1))) (nog rfl _) rfl (by kernel_rfl) (stradd_run hF187 (g := []) rfl (by kernel_rfl) (by kernel_rfl) hc188 rfl) ?_; intro a190 hF191; clear hF187
    refine s1 hF191 2 (str ((((([48] : List UInt8) ++ (fnameS u0)) ++ ([49, 48, 49, 48] : List UInt8)) ++ (bwriteS (wu64 (sindexS fsizes (u0.Data.length : Int))) 4)) ++ ((bofS u0.Data).1))) ?_; intro a192 hF193; clear hF191
    refine nlH (hQ169 _ _ ?_); clear hQ169 hQ169Q
    refine wp_ret ?_
    refine rt (fn := Tryz.f40) (v := str ((((([48] : List UInt8) ++ (fnameS u0)) ++ ([49, 48, 49, 48] : List UInt8)) ++ (bwriteS (wu64 (sindexS fsizes (u0.Data.length : Int))) 4)) ++ ((bofS u0.Data).1))) hF193 (re1 hF193 (fn := Tryz.f40) rfl (by kernel_rfl)) ?_
    exact ⟨(((([48] : List UInt8) ++ (fnameS u0)) ++ ([49, 48, 49, 48] : List UInt8)) ++ (bwriteS (wu64 (sindexS fsizes (u0.Data.length : Int))) 4)) ++ ((bofS u0.Data).1), rfl, hp189, hM181.below⟩
   ·
    have hp194 := hp124.2 hb136; clear hp124
    refine sqH ?_; intro hQ195Q hQ195
    refine s1 hF135 28 (.pointer (some ⟨b6, 1, none⟩)) ?_; intro a196 hF197; clear hF135
    refine l1 hF197 hM122 29 0 1 (.bool u0.Long) rfl rfl ?_; intro a198 hF199; clear hF197
    refine s1 hF199 27 (.bool u0.Long) ?_; intro a200 hF201; clear hF199
    refine nlH (hQ195 _ _ ?_); clear hQ195 hQ195Q
    refine cd hF201 (t := u0.Long) (by kernel_rfl) (fun hb202 => ?_) (fun hb202 => ?_)
    ·
     have hp203 := hp194.1 hb202; clear hp194
     refine rgH ?_; intro hQ204Q hQ204
     refine s1 hF201 30 (str (([48] : List UInt8) ++ (fnameS u0))) ?_; intro a205 hF206; clear hF201
     have hc207 := hp203.1; have hp208 := hp203.2; clear hp203
     refine st hF206 (str ((([48] : List UInt8) ++ (fnameS u0)) ++ ([48, 48] : List UInt8))) (nog rfl _) rfl (by kernel_rfl) (stradd_run hF206 (g := []) rfl (by kernel_rfl) (by kernel_rfl) hc207 rfl) ?_; intro a209 hF210; clear hF206
     refine s1 hF210 4 (str ((([48] : List UInt8) ++ (fnameS u0)) ++ ([48, 48] : List UInt8))) ?_; intro a211 hF212; clear hF210
     refine nlH (hQ204 _ _ ?_); clear hQ204 hQ204Q
     refine ibn ?_
     refine thn ?_
     refine sqH ?_; intro hQ213Q hQ213
     refine s1 hF212 33 (.pointer (some ⟨b6, 5, none⟩)) ?_; intro a214 hF215; clear hF212
     refine l1 hF215 hM122 34 0 5 (.slice ao1 u0.Data.length cap2) rfl rfl ?_; intro a216 hF217; clear hF215
     have hc218 := hp208.1; have hp219 := hp208.2; clear hp208
     refine fcl hF217 hM122 (.tuple #[str ((bofS u0.Data).1), .int .i64 ((bofS u0.Data).2)]) 73 #[.slice ao1 u0.Data.length cap2] (nog rfl _) rfl (by kernel_rfl) (fun _ => by kernel_rfl) (bof_fun u0.Data hc218 ao1 cap2 _ _ hs111 hM122.fz) ?_; intro a220 wd222 hF221 hM223; clear hF217 hM122
     refine s1 hF221 32 (.tuple #[str ((bofS u0.Data).1), .int .i64 ((bofS u0.Data).2)]) ?_; intro a224 hF225; clear hF221
     refine s1 hF225 36 (str ((bofS u0.Data).1)) ?_; intro a226 hF227; clear hF225
     refine s1 hF227 37 (.int .i64 ((bofS u0.Data).2)) ?_; intro a228 hF229; clear hF227
     refine s1 hF229 5 (str ((bofS u0.Data).1)) ?_; intro a230 hF231; clear hF229
     refine s1 hF231 6 (.int .i64 ((bofS u0.Data).2)) ?_; intro a232 hF233; clear hF231
     refine nlH (hQ213 _ _ ?_); clear hQ213 hQ213Q
     have hF234 : Fr 45 [] [⟨3, [], .int .i64 (sindexS fsizes (u0.Data.length : Int))⟩, ⟨4, [], str ((([48] : List UInt8) ++ (fnameS u0)) ++ ([48, 48] : List UInt8))⟩, ⟨5, [], str ((bofS u0.Data).1)⟩] a232 := hF233.reg; clear hF233
     refine sqH ?_; intro hQ235Q hQ235
     refine s1 hF234 38 (str ((([48] : List UInt8) ++ (fnameS u0)) ++ ([48, 48] : List UInt8))) ?_; intro a236 hF237; clear hF234
     refine s1 hF237 39 (.int .i64 (sindexS fsizes (u0.Data.length : Int))) ?_; intro a238 hF239; clear hF237
     refine s1 hF239 40 (.int .u64 (wu64 (sindexS fsizes (u0.Data.length : Int)))) ?_; intro a240 hF241; clear hF239
     have hc242 := hp219.1; have hp243 := hp219.2; clear hp219
     refine fcl hF241 hM223 (str (bwriteS (wu64 (sindexS fsizes (u0.Data.length : Int))) 4)) 71 #[.int .u64 (wu64 (sindexS fsizes (u0.Data.length : Int))), .int .i64 4] (nog rfl _) rfl (by kernel_rfl) (fun _ => by kernel_rfl) (bwrite_fun (wu64 (sindexS fsizes (u0.Data.length : Int))) 4 hc242 _ _ hM223.fz) ?_; intro a244 wd246 hF245 hM247; clear hF241 hM223
     have hc248 := hp243.1; have hp249 := hp243.2; clear hp243
     refine st hF245 (str (((([48] : List UInt8) ++ (fnameS u0)) ++ ([48, 48] : List UInt8)) ++ (bwriteS (wu64 (sindexS fsizes (u0.Data.length : Int))) 4))) (nog rfl _) rfl (by kernel_rfl) (stradd_run hF245 (g := []) rfl (by kernel_rfl) (by kernel_rfl) hc248 rfl) ?_; intro a250 hF251; clear hF245
     refine s1 hF251 43 (str ((bofS u0.Data).1)) ?_; intro a252 hF253; clear hF251
     have hc254 := hp249.1; have hp255 := hp249.2; clear hp249
     refine st hF253 (str ((((([48] : List UInt8) ++ (fnameS u0)) ++ ([48, 48] : List UInt8)) ++ (bwriteS (wu64 (sindexS fsizes (u0.Data.length : Int))) 4)) ++ ((bofS u0.Data).1))) (nog rfl _) rfl (by kernel_rfl) (stradd_run hF253 (g := []) rfl (by kernel_rfl) (by kernel_rfl) hc254 rfl) ?_; intro a256 hF257; clear hF253
     refine s1 hF257 2 (str ((((([48] : List UInt8) ++ (fnameS u0)) ++ ([48, 48] : List UInt8)) ++ (bwriteS (wu64 (sindexS fsizes (u0.Data.length : Int))) 4)) ++ ((bofS u0.Data).1))) ?_; intro a258 hF259; clear hF257
     refine nlH (hQ235 _ _ ?_); clear hQ235 hQ235Q
     refine wp_ret ?_
     refine rt (fn := Tryz.f40) (v := str ((((([48] : List UInt8) ++ (fnameS u0)) ++ ([48, 48] : List UInt8)) ++ (bwriteS (wu64 (sindexS fsizes (u0.Data.length : Int))) 4)) ++ ((bofS u0.Data).1))) hF259 (re1 hF259 (fn := Tryz.f40) rfl (by kernel_rfl)) ?_
     exact ⟨(((([48] : List UInt8) ++ (fnameS u0)) ++ ([48, 48] : List UInt8)) ++ (bwriteS (wu64 (sindexS fsizes (u0.Data.length : Int))) 4)) ++ ((bofS u0.Data).1), rfl, hp255, hM247.below⟩
    ·
     have hp260 := hp194.2 hb202; clear hp194
     refine rgH ?_; intro hQ261Q hQ261
     refine s1 hF201 20 (str (([48] : List UInt8) ++ (fnameS u0))) ?_; intro a262 hF263; clear hF201
     have hc264 := hp260.1; have hp265 := hp260.2; clear hp260
     refine st hF263 (str ((([48] : List UInt8) ++ (fnameS u0)) ++ ([48] : List UInt8))) (nog rfl _) rfl (by kernel_rfl) (stradd_run hF263 (g := []) rfl (by kernel_rfl) (by kernel_rfl) hc264 rfl) ?_; intro a266 hF267; clear hF263
     refine s1 hF267 4 (str ((([48] : List UInt8) ++ (fnameS u0)) ++ ([48] : List UInt8))) ?_; intro a268 hF269; clear hF267
     refine nlH (hQ261 _ _ ?_); clear hQ261 hQ261Q
     refine ibn ?_
     refine thn ?_
     refine sqH ?_; intro hQ270Q hQ270
     refine s1 hF269 33 (.pointer (some ⟨b6, 5, none⟩)) ?_; intro a271 hF272; clear hF269
     refine l1 hF272 hM122 34 0 5 (.slice ao1 u0.Data.length cap2) rfl rfl ?_; intro a273 hF274; clear hF272
     have hc275 := hp265.1; have hp276 := hp265.2; clear hp265
     refine fcl hF274 hM122 (.tuple #[str ((bofS u0.Data).1), .int .i64 ((bofS u0.Data).2)]) 73 #[.slice ao1 u0.Data.length cap2] (nog rfl _) rfl (by kernel_rfl) (fun _ => by kernel_rfl) (bof_fun u0.Data hc275 ao1 cap2 _ _ hs111 hM122.fz) ?_; intro a277 wd279 hF278 hM280; clear hF274 hM122
     refine s1 hF278 32 (.tuple #[str ((bofS u0.Data).1), .int .i64 ((bofS u0.Data).2)]) ?_; intro a281 hF282; clear hF278
     refine s1 hF282 36 (str ((bofS u0.Data).1)) ?_; intro a283 hF284; clear hF282
     refine s1 hF284 37 (.int .i64 ((bofS u0.Data).2)) ?_; intro a285 hF286; clear hF284
     refine s1 hF286 5 (str ((bofS u0.Data).1)) ?_; intro a287 hF288; clear hF286
     refine s1 hF288 6 (.int .i64 ((bofS u0.Data).2)) ?_; intro a289 hF290; clear hF288
     refine nlH (hQ270 _ _ ?_); clear hQ270 hQ270Q
     have hF291 : Fr 45 [] [⟨3, [], .int .i64 (sindexS fsizes (u0.Data.length : Int))⟩, ⟨4, [], str ((([48] : List UInt8) ++ (fnameS u0)) ++ ([48] : List UInt8))⟩, ⟨5, [], str ((bofS u0.Data).1)⟩] a289 := hF290.reg; clear hF290
     refine sqH ?_; intro hQ292Q hQ292
     refine s1 hF291 38 (str ((([48] : List UInt8) ++ (fnameS u0)) ++ ([48] : List UInt8))) ?_; intro a293 hF294; clear hF291
     refine s1 hF294 39 (.int .i64 (sindexS fsizes (u0.Data.length : Int))) ?_; intro a295 hF296; clear hF294
     refine s1 hF296 40 (.int .u64 (wu64 (sindexS fsizes (u0.Data.length : Int)))) ?_; intro a297 hF298; clear hF296
     have hc299 := hp276.1; have hp300 := hp276.2; clear hp276
     refine fcl hF298 hM280 (str (bwriteS (wu64 (sindexS fsizes (u0.Data.length : Int))) 4)) 71 #[.int .u64 (wu64 (sindexS fsizes (u0.Data.length : Int))), .int .i64 4] (nog rfl _) rfl (by kernel_rfl) (fun _ => by kernel_rfl) (bwrite_fun (wu64 (sindexS fsizes (u0.Data.length : Int))) 4 hc299 _ _ hM280.fz) ?_; intro a301 wd303 hF302 hM304; clear hF298 hM280
     have hc305 := hp300.1; have hp306 := hp300.2; clear hp300
     refine st hF302 (str (((([48] : List UInt8) ++ (fnameS u0)) ++ ([48] : List UInt8)) ++ (bwriteS (wu64 (sindexS fsizes (u0.Data.length : Int))) 4))) (nog rfl _) rfl (by kernel_rfl) (stradd_run hF302 (g := []) rfl (by kernel_rfl) (by kernel_rfl) hc305 rfl) ?_; intro a307 hF308; clear hF302
     refine s1 hF308 43 (str ((bofS u0.Data).1)) ?_; intro a309 hF310; clear hF308
     have hc311 := hp306.1; have hp312 := hp306.2; clear hp306
     refine st hF310 (str ((((([48] : List UInt8) ++ (fnameS u0)) ++ ([48] : List UInt8)) ++ (bwriteS (wu64 (sindexS fsizes (u0.Data.length : Int))) 4)) ++ ((bofS u0.Data).1))) (nog rfl _) rfl (by kernel_rfl) (stradd_run hF310 (g := []) rfl (by kernel_rfl) (by kernel_rfl) hc311 rfl) ?_; intro a313 hF314; clear hF310
     refine s1 hF314 2 (str ((((([48] : List UInt8) ++ (fnameS u0)) ++ ([48] : List UInt8)) ++ (bwriteS (wu64 (sindexS fsizes (u0.Data.length : Int))) 4)) ++ ((bofS u0.Data).1))) ?_; intro a315 hF316; clear hF314
     refine nlH (hQ292 _ _ ?_); clear hQ292 hQ292Q
     refine wp_ret ?_
     refine rt (fn := Tryz.f40) (v := str ((((([48] : List UInt8) ++ (fnameS u0)) ++ ([48] : List UInt8)) ++ (bwriteS (wu64 (sindexS fsizes (u0.Data.length : Int))) 4)) ++ ((bofS u0.Data).1))) hF316 (re1 hF316 (fn := Tryz.f40) rfl (by kernel_rfl)) ?_
     exact ⟨(((([48] : List UInt8) ++ (fnameS u0)) ++ ([48] : List UInt8)) ++ (bwriteS (wu64 (sindexS fsizes (u0.Data.length : Int))) 4)) ++ ((bofS u0.Data).1), rfl, hp312, hM304.below⟩
 ·
  have hp317 := hp4.2 hb27; clear hp4
  refine wp_skip ?_
  refine thn ?_
  refine sqH ?_; intro hQ318Q hQ318
  refine l2 hF26 hM10 17 0 0 6 [.int .i64 u0.ID, .bool u0.Long, .bool u0.Fast, .bool u0.Remote, .int .i64 u0.Size, .slice ao1 u0.Data.length cap2] rfl rfl ?_; intro a319 hF320; clear hF26
  have hc321 := hp317.1; have hp322 := hp317.2; clear hp317
  refine fcl hF320 hM10 (str (fnameS u0)) 53 #[.agg #[.int .i64 u0.ID, .bool u0.Long, .bool u0.Fast, .bool u0.Remote, .int .i64 u0.Size, .slice ao1 u0.Data.length cap2]] (nog rfl _) rfl (by kernel_rfl) (fun _ => by kernel_rfl) (fname_fun u0 hc321 ao1 cap2 _ _ hs3 hM10.fz) ?_; intro a323 wd325 hF324 hM326; clear hF320 hM10
  have hc327 := hp322.1; have hp328 := hp322.2; clear hp322
  refine st hF324 (str (([48] : List UInt8) ++ (fnameS u0))) (nog rfl _) rfl (by kernel_rfl) (stradd_run hF324 (g := []) rfl (by kernel_rfl) (by kernel_rfl) hc327 rfl) ?_; intro a329 hF330; clear hF324
  refine s1 hF330 4 (str (([48] : List UInt8) ++ (fnameS u0))) ?_; intro a331 hF332; clear hF330
  refine nlH (hQ318 _ _ ?_); clear hQ318 hQ318Q
  refine wp_seq ?_
  refine wp_block ?_
  refine sqH ?_; intro hQ333Q hQ333
  refine s1 hF332 23 (.pointer (some ⟨b6, 2, none⟩)) ?_; intro a334 hF335; clear hF332
  refine l1 hF335 hM326 24 0 2 (.bool u0.Fast) rfl rfl ?_; intro a336 hF337; clear hF335
  refine s1 hF337 22 (.bool u0.Fast) ?_; intro a338 hF339; clear hF337
  refine nlH (hQ333 _ _ ?_); clear hQ333 hQ333Q
  refine cd hF339 (t := u0.Fast) (by kernel_rfl) (fun hb340 => ?_) (fun hb340 => ?_)
  ·
   have hp341 := hp328.1 hb340; clear hp328
   have hF342 : Fr 45 [] [⟨1, [], .pointer (some ⟨b6, 0, none⟩)⟩, ⟨3, [], .int .i64 u0.Size⟩, ⟨4, [], str (([48] : List UInt8) ++ (fnameS u0))⟩] a338 := hF339.reg; clear hF339
   refine rgH ?_; intro hQ343Q hQ343
   refine s1 hF342 25 (str (([48] : List UInt8) ++ (fnameS u0))) ?_; intro a344 hF345; clear hF342
   have hc346 := hp341.1; have hp347 := hp341.2; clear hp341
   refine st hF345 (str ((([48] : List UInt8) ++ (fnameS u0)) ++ ([49, 48, 49, 48] : List UInt8))) (nog rfl _) rfl (by kernel_rfl) (stradd_run hF345 (g := []) rfl (by kernel_rfl) (by kernel_rfl) hc346 rfl) ?_; intro a348 hF349; clear hF345
   refine s1 hF349 4 (str ((([48] : List UInt8) ++ (fnameS u0)) ++ ([49, 48, 49, 48] : List UInt8))) ?_; intro a350 hF351; clear hF349
   refine nlH (hQ343 _ _ ?_); clear hQ343 hQ343Q
   refine ibn ?_
   refine thn ?_
   refine sqH ?_; intro hQ352Q hQ352
   refine s1 hF351 33 (.pointer (some ⟨b6, 5, none⟩)) ?_; intro a353 hF354; clear hF351
   refine l1 hF354 hM326 34 0 5 (.slice ao1 u0.Data.length cap2) rfl rfl ?_; intro a355 hF356; clear hF354
   have hc357 := hp347.1; have hp358 := hp347.2; clear hp347
   refine fcl hF356 hM326 (.tuple #[str ((bofS u0.Data).1), .int .i64 ((bofS u0.Data).2)]) 73 #[.slice ao1 u0.Data.length cap2] (nog rfl _) rfl (by kernel_rfl) (fun _ => by kernel_rfl) (bof_fun u0.Data hc357 ao1 cap2 _ _ hs3 hM326.fz) ?_; intro a359 wd361 hF360 hM362; clear hF356 hM326
   refine s1 hF360 32 (.tuple #[str ((bofS u0.Data).1), .int .i64 ((bofS u0.Data).2)]) ?_; intro a363 hF364; clear hF360
   refine s1 hF364 36 (str ((bofS u0.Data).1)) ?_; intro a365 hF366; clear hF364
   refine s1 hF366 37 (.int .i64 ((bofS u0.Data).2)) ?_; intro a367 hF368; clear hF366
   refine s1 hF368 5 (str ((bofS u0.Data).1)) ?_; intro a369 hF370; clear hF368
   refine s1 hF370 6 (.int .i64 ((bofS u0.Data).2)) ?_; intro a371 hF372; clear hF370
   refine nlH (hQ352 _ _ ?_); clear hQ352 hQ352Q
   refine sqH ?_; intro hQ373Q hQ373
   refine s1 hF372 38 (str ((([48] : List UInt8) ++ (fnameS u0)) ++ ([49, 48, 49, 48] : List UInt8))) ?_; intro a374 hF375; clear hF372
   refine s1 hF375 39 (.int .i64 u0.Size) ?_; intro a376 hF377; clear hF375
   refine s1 hF377 40 (.int .u64 (wu64 u0.Size)) ?_; intro a378 hF379; clear hF377
   have hc380 := hp358.1; have hp381 := hp358.2; clear hp358
   refine fcl hF379 hM362 (str (bwriteS (wu64 u0.Size) 4)) 71 #[.int .u64 (wu64 u0.Size), .int .i64 4] (nog rfl _) rfl (by kernel_rfl) (fun _ => by kernel_rfl) (bwrite_fun (wu64 u0.Size) 4 hc380 _ _ hM362.fz) ?_; intro a382 wd384 hF383 hM385; clear hF379 hM362
   have hc386 := hp381.1; have hp387 := hp381.2; clear hp381
   refine st hF383 (str (((([48] : List UInt8) ++ (fnameS u0)) ++ ([49, 48, 49, 48] : List UInt8)) ++ (bwriteS (wu64 u0.Size) 4))) (nog rfl _) rfl (by kernel_rfl) (stradd_run hF383 (g := []) rfl (by kernel_rfl) (by kernel_rfl) hc386 rfl) ?_; intro a388 hF389; clear hF383
   refine s1 hF389 43 (str ((bofS u0.Data).1)) ?_; intro a390 hF391; clear hF389
   have hc392 := hp387.1; have hp393 := hp387.2; clear hp387
   refine st hF391 (str ((((([48] : List UInt8) ++ (fnameS u0)) ++ ([49, 48, 49, 48] : List UInt8)) ++ (bwriteS (wu64 u0.Size) 4)) ++ ((bofS u0.Data).1))) (nog rfl _) rfl (by kernel_rfl) (stradd_run hF391 (g := []) rfl (by kernel_rfl) (by kernel_rfl) hc392 rfl) ?_; intro a394 hF395; clear hF391
   refine s1 hF395 2 (str ((((([48] : List UInt8) ++ (fnameS u0)) ++ ([49, 48, 49, 48] : List UInt8)) ++ (bwriteS (wu64 u0.Size) 4)) ++ ((bofS u0.Data).1))) ?_; intro a396 hF397; clear hF395
   refine nlH (hQ373 _ _ ?_); clear hQ373 hQ373Q
   refine wp_ret ?_
   refine rt (fn := Tryz.f40) (v := str ((((([48] : List UInt8) ++ (fnameS u0)) ++ ([49, 48, 49, 48] : List UInt8)) ++ (bwriteS (wu64 u0.Size) 4)) ++ ((bofS u0.Data).1))) hF397 (re1 hF397 (fn := Tryz.f40) rfl (by kernel_rfl)) ?_
   exact ⟨(((([48] : List UInt8) ++ (fnameS u0)) ++ ([49, 48, 49, 48] : List UInt8)) ++ (bwriteS (wu64 u0.Size) 4)) ++ ((bofS u0.Data).1), rfl, hp393, hM385.below⟩
  ·
   have hp398 := hp328.2 hb340; clear hp328
   have hF399 : Fr 45 [] [⟨1, [], .pointer (some ⟨b6, 0, none⟩)⟩, ⟨3, [], .int .i64 u0.Size⟩, ⟨4, [], str (([48] : List UInt8) ++ (fnameS u0))⟩] a338 := hF339.reg; clear hF339
   refine sqH ?_; intro hQ400Q hQ400
   refine s1 hF399 28 (.pointer (some ⟨b6, 1, none⟩)) ?_; intro a401 hF402; clear hF399
   refine l1 hF402 hM326 29 0 1 (.bool u0.Long) rfl rfl ?_; intro a403 hF404; clear hF402
   refine s1 hF404 27 (.bool u0.Long) ?_; intro a405 hF406; clear hF404
   refine nlH (hQ400 _ _ ?_); clear hQ400 hQ400Q
   refine cd hF406 (t := u0.Long) (by kernel_rfl) (fun hb407 => ?_) (fun hb407 => ?_)
   ·
    have hp408 := hp398.1 hb407; clear hp398
    refine rgH ?_; intro hQ409Q hQ409
    refine s1 hF406 30 (str (([48] : List UInt8) ++ (fnameS u0))) ?_; intro a410 hF411; clear hF406
    have hc412 := hp408.1; have hp413 := hp408.2; clear hp408
    refine st hF411 (str ((([48] : List UInt8) ++ (fnameS u0)) ++ ([48, 48] : List UInt8))) (nog rfl _) rfl (by kernel_rfl) (stradd_run hF411 (g := []) rfl (by kernel_rfl) (by kernel_rfl) hc412 rfl) ?_; intro a414 hF415; clear hF411
    refine s1 hF415 4 (str ((([48] : List UInt8) ++ (fnameS u0)) ++ ([48, 48] : List UInt8))) ?_; intro a416 hF417; clear hF415
    refine nlH (hQ409 _ _ ?_); clear hQ409 hQ409Q
    refine ibn ?_
    refine thn ?_
    refine sqH ?_; intro hQ418Q hQ418
    refine s1 hF417 33 (.pointer (some ⟨b6, 5, none⟩)) ?_; intro a419 hF420; clear hF417
    refine l1 hF420 hM326 34 0 5 (.slice ao1 u0.Data.length cap2) rfl rfl ?_; intro a421 hF422; clear hF420
    have hc423 := hp413.1; have hp424 := hp413.2; clear hp413
    refine fcl hF422 hM326 (.tuple #[str ((bofS u0.Data).1), .int .i64 ((bofS u0.Data).2)]) 73 #[.slice ao1 u0.Data.length cap2] (nog rfl _) rfl (by kernel_rfl) (fun _ => by kernel_rfl) (bof_fun u0.Data hc423 ao1 cap2 _ _ hs3 hM326.fz) ?_; intro a425 wd427 hF426 hM428; clear hF422 hM326
    refine s1 hF426 32 (.tuple #[str ((bofS u0.Data).1), .int .i64 ((bofS u0.Data).2)]) ?_; intro a429 hF430; clear hF426
    refine s1 hF430 36 (str ((bofS u0.Data).1)) ?_; intro a431 hF432; clear hF430
    refine s1 hF432 37 (.int .i64 ((bofS u0.Data).2)) ?_; intro a433 hF434; clear hF432
    refine s1 hF434 5 (str ((bofS u0.Data).1)) ?_; intro a435 hF436; clear hF434
    refine s1 hF436 6 (.int .i64 ((bofS u0.Data).2)) ?_; intro a437 hF438; clear hF436
    refine nlH (hQ418 _ _ ?_); clear hQ418 hQ418Q
    have hF439 : Fr 45 [] [⟨3, [], .int .i64 u0.Size⟩, ⟨4, [], str ((([48] : List UInt8) ++ (fnameS u0)) ++ ([48, 48] : List UInt8))⟩, ⟨5, [], str ((bofS u0.Data).1)⟩] a437 := hF438.reg; clear hF438
    refine sqH ?_; intro hQ440Q hQ440
    refine s1 hF439 38 (str ((([48] : List UInt8) ++ (fnameS u0)) ++ ([48, 48] : List UInt8))) ?_; intro a441 hF442; clear hF439
    refine s1 hF442 39 (.int .i64 u0.Size) ?_; intro a443 hF444; clear hF442
    refine s1 hF444 40 (.int .u64 (wu64 u0.Size)) ?_; intro a445 hF446; clear hF444
    have hc447 := hp424.1; have hp448 := hp424.2; clear hp424
    refine fcl hF446 hM428 (str (bwriteS (wu64 u0.Size) 4)) 71 #[.int .u64 (wu64 u0.Size), .int .i64 4] (nog rfl _) rfl (by kernel_rfl) (fun _ => by kernel_rfl) (bwrite_fun (wu64 u0.Size) 4 hc447 _ _ hM428.fz) ?_; intro a449 wd451 hF450 hM452; clear hF446 hM428
    have hc453 := hp448.1; have hp454 := hp448.2; clear hp448
    refine st hF450 (str (((([48] : List UInt8) ++ (fnameS u0)) ++ ([48, 48] : List UInt8)) ++ (bwriteS (wu64 u0.Size) 4))) (nog rfl _) rfl (by kernel_rfl) (stradd_run hF450 (g := []) rfl (by kernel_rfl) (by kernel_rfl) hc453 rfl) ?_; intro a455 hF456; clear hF450
    refine s1 hF456 43 (str ((bofS u0.Data).1)) ?_; intro a457 hF458; clear hF456
    have hc459 := hp454.1; have hp460 := hp454.2; clear hp454
    refine st hF458 (str ((((([48] : List UInt8) ++ (fnameS u0)) ++ ([48, 48] : List UInt8)) ++ (bwriteS (wu64 u0.Size) 4)) ++ ((bofS u0.Data).1))) (nog rfl _) rfl (by kernel_rfl) (stradd_run hF458 (g := []) rfl (by kernel_rfl) (by kernel_rfl) hc459 rfl) ?_; intro a461 hF462; clear hF458
    refine s1 hF462 2 (str ((((([48] : List UInt8) ++ (fnameS u0)) ++ ([48, 48] : List UInt8)) ++ (bwriteS (wu64 u0.Size) 4)) ++ ((bofS u0.Data).1))) ?_; intro a463 hF464; clear hF462
    refine nlH (hQ440 _ _ ?_); clear hQ440 hQ440Q
    refine wp_ret ?_
    refine rt (fn := Tryz.f40) (v := str ((((([48] : List UInt8) ++ (fnameS u0)) ++ ([48, 48] : List UInt8)) ++ (bwriteS (wu64 u0.Size) 4)) ++ ((bofS u0.Data).1))) hF464 (re1 hF464 (fn := Tryz.f40) rfl (by kernel_rfl)) ?_
    exact ⟨(((([48] : List UInt8) ++ (fnameS u0)) ++ ([48, 48] : List UInt8)) ++ (bwriteS (wu64 u0.Size) 4)) ++ ((bofS u0.Data).1), rfl, hp460, hM452.below⟩
   ·
    have hp465 := hp398.2 hb407; clear hp398
    refine rgH ?_; intro hQ466Q hQ466
    refine s1 hF406 20 (str (([48] : List UInt8) ++ (fnameS u0))) ?_; intro a467 hF468; clear hF406
    have hc469 := hp465.1; have hp470 := hp465.2; clear hp465
    refine st hF468 (str ((([48] : List UInt8) ++ (fnameS u0)) ++ ([48] : List UInt8))) (nog rfl _) rfl (by kernel_rfl) (stradd_run hF468 (g := []) rfl (by kernel_rfl) (by kernel_rfl) hc469 rfl) ?_; intro a471 hF472; clear hF468
    refine s1 hF472 4 (str ((([48] : List UInt8) ++ (fnameS u0)) ++ ([48] : List UInt8))) ?_; intro a473 hF474; clear hF472
    refine nlH (hQ466 _ _ ?_); clear hQ466 hQ466Q
    refine ibn ?_
    refine thn ?_
    refine sqH ?_; intro hQ475Q hQ475
    refine s1 hF474 33 (.pointer (some ⟨b6, 5, none⟩)) ?_; intro a476 hF477; clear hF474
    refine l1 hF477 hM326 34 0 5 (.slice ao1 u0.Data.length cap2) rfl rfl ?_; intro a478 hF479; clear hF477
    have hc480 := hp470.1; have hp481 := hp470.2; clear hp470
    refine fcl hF479 hM326 (.tuple #[str ((bofS u0.Data).1), .int .i64 ((bofS u0.Data).2)]) 73 #[.slice ao1 u0.Data.length cap2] (nog rfl _) rfl (by kernel_rfl) (fun _ => by kernel_rfl) (bof_fun u0.Data hc480 ao1 cap2 _ _ hs3 hM326.fz) ?_; intro a482 wd484 hF483 hM485; clear hF479 hM326
    refine s1 hF483 32 (.tuple #[str ((bofS u0.Data).1), .int .i64 ((bofS u0.Data).2)]) ?_; intro a486 hF487; clear hF483
    refine s1 hF487 36 (str ((bofS u0.Data).1)) ?_; intro a488 hF489; clear hF487
    refine s1 hF489 37 (.int .i64 ((bofS u0.Data).2)) ?_; intro a490 hF491; clear hF489
    refine s1 hF491 5 (str ((bofS u0.Data).1)) ?_; intro a492 hF493; clear hF491
    refine s1 hF493 6 (.int .i64 ((bofS u0.Data).2)) ?_; intro a494 hF495; clear hF493
    refine nlH (hQ475 _ _ ?_); clear hQ475 hQ475Q
    have hF496 : Fr 45 [] [⟨3, [], .int .i64 u0.Size⟩, ⟨4, [], str ((([48] : List UInt8) ++ (fnameS u0)) ++ ([48] : List UInt8))⟩, ⟨5, [], str ((bofS u0.Data).1)⟩] a494 := hF495.reg; clear hF495
    refine sqH ?_; intro hQ497Q hQ497
    refine s1 hF496 38 (str ((([48] : List UInt8) ++ (fnameS u0)) ++ ([48] : List UInt8))) ?_; intro a498 hF499; clear hF496
    refine s1 hF499 39 (.int .i64 u0.Size) ?_; intro a500 hF501; clear hF499
    refine s1 hF501 40 (.int .u64 (wu64 u0.Size)) ?_; intro a502 hF503; clear hF501
    have hc504 := hp481.1; have hp505 := hp481.2; clear hp481
    refine fcl hF503 hM485 (str (bwriteS (wu64 u0.Size) 4)) 71 #[.int .u64 (wu64 u0.Size), .int .i64 4] (nog rfl _) rfl (by kernel_rfl) (fun _ => by kernel_rfl) (bwrite_fun (wu64 u0.Size) 4 hc504 _ _ hM485.fz) ?_; intro a506 wd508 hF507 hM509; clear hF503 hM485
    have hc510 := hp505.1; have hp511 := hp505.2; clear hp505
    refine st hF507 (str (((([48] : List UInt8) ++ (fnameS u0)) ++ ([48] : List UInt8)) ++ (bwriteS (wu64 u0.Size) 4))) (nog rfl _) rfl (by kernel_rfl) (stradd_run hF507 (g := []) rfl (by kernel_rfl) (by kernel_rfl) hc510 rfl) ?_; intro a512 hF513; clear hF507
    refine s1 hF513 43 (str ((bofS u0.Data).1)) ?_; intro a514 hF515; clear hF513
    have hc516 := hp511.1; have hp517 := hp511.2; clear hp511
    refine st hF515 (str ((((([48] : List UInt8) ++ (fnameS u0)) ++ ([48] : List UInt8)) ++ (bwriteS (wu64 u0.Size) 4)) ++ ((bofS u0.Data).1))) (nog rfl _) rfl (by kernel_rfl) (stradd_run hF515 (g := []) rfl (by kernel_rfl) (by kernel_rfl) hc516 rfl) ?_; intro a518 hF519; clear hF515
    refine s1 hF519 2 (str ((((([48] : List UInt8) ++ (fnameS u0)) ++ ([48] : List UInt8)) ++ (bwriteS (wu64 u0.Size) 4)) ++ ((bofS u0.Data).1))) ?_; intro a520 hF521; clear hF519
    refine nlH (hQ497 _ _ ?_); clear hQ497 hQ497Q
    refine wp_ret ?_
    refine rt (fn := Tryz.f40) (v := str ((((([48] : List UInt8) ++ (fnameS u0)) ++ ([48] : List UInt8)) ++ (bwriteS (wu64 u0.Size) 4)) ++ ((bofS u0.Data).1))) hF521 (re1 hF521 (fn := Tryz.f40) rfl (by kernel_rfl)) ?_
    exact ⟨(((([48] : List UInt8) ++ (fnameS u0)) ++ ([48] : List UInt8)) ++ (bwriteS (wu64 u0.Size) 4)) ++ ((bofS u0.Data).1), rfl, hp517, hM509.below⟩

set_option maxRecDepth 100000 in
set_option maxHeartbeats 0 in
theorem fName_walk (u0 : Frame) (ao1 : Option Addr) (cap2 : Nat) (Z : Fz) (w : World) (hs3 : SlR (tyInt .u8) Z ao1 cap2 u0.Data) (hZ : Z.on w) {K : ((List UInt8) × Int) → Prop} (hp : fName_vc u0 K) : Calls Tryz.prog 15 #[.agg #[.int .i64 u0.ID, .bool u0.Long, .bool u0.Fast, .bool u0.Remote, .int .i64 u0.Size, .slice ao1 u0.Data.length cap2]] w fun e w' => ∃ r : (List UInt8) × Int, e = .returned (.tuple #[str r.1, .int .i64 r.2]) ∧ K r ∧ Below w.heap.size w w' := by
 refine enter0 Tryz.func15 rfl rfl (by kernel_rfl) ?_; intro a0 hF0; have hM0 := Mem.start w Z hZ; have hle0 := Fz.le.refl Z
 have hp4 := hp (hs3.small); clear hp
 refine sqH ?_; intro hQ5Q hQ5
 refine sn hF0 hM0 (fun b => .pointer (some ⟨b, 0, none⟩)) [.int .i64 u0.ID, .bool u0.Long, .bool u0.Fast, .bool u0.Remote, .int .i64 u0.Size, .slice ao1 u0.Data.length cap2] 24 (nog rfl _) rfl (by kernel_rfl) (by kernel_rfl) ?_; intro b6 a7 wd9 hF8 hM10; clear hF0 hM0
 refine s1 hF8 2 (str []) ?_; intro a11 hF12; clear hF8
 refine s1 hF12 3 (.int .i64 0) ?_; intro a13 hF14; clear hF12
 refine nlH (hQ5 _ _ ?_); clear hQ5 hQ5Q
 refine wp_seq ?_
 refine sqH ?_; intro hQ15Q hQ15
 refine l2 hF14 hM10 5 0 0 6 [.int .i64 u0.ID, .bool u0.Long, .bool u0.Fast, .bool u0.Remote, .int .i64 u0.Size, .slice ao1 u0.Data.length cap2] rfl rfl ?_; intro a16 hF17; clear hF14
 refine fcl hF17 hM10 (.int .i64 (fcheckfr u0)) 18 #[.agg #[.int .i64 u0.ID, .bool u0.Long, .bool u0.Fast, .bool u0.Remote, .int .i64 u0.Size, .slice ao1 u0.Data.length cap2]] (nog rfl _) rfl (by kernel_rfl) (fun _ => by kernel_rfl) (fcheckfr_fun u0 ao1 cap2 _ _ hs3 hM10.fz) ?_; intro a18 wd20 hF19 hM21; clear hF17 hM10
 refine s1 hF19 4 (.int .i64 (fcheckfr u0)) ?_; intro a22 hF23; clear hF19
 refine nlH (hQ15 _ _ ?_); clear hQ15 hQ15Q
 refine sqH ?_; intro hQ24Q hQ24
 refine s1 hF23 7 (.int .i64 (fcheckfr u0)) ?_; intro a25 hF26; clear hF23
 refine s1 hF26 8 (.bool ((fcheckfr u0) != 0)) ?_; intro a27 hF28; clear hF26
 refine nlH (hQ24 _ _ ?_); clear hQ24 hQ24Q
 refine cd hF28 (t := (fcheckfr u0) != 0) (by kernel_rfl) (fun hb29 => ?_) (fun hb29 => ?_)
 ·
  have hp30 := hp4.1 hb29; clear hp4
  refine sqH ?_; intro hQ31Q hQ31
  refine s1 hF28 9 (.int .i64 (fcheckfr u0)) ?_; intro a32 hF33; clear hF28
  refine s1 hF33 2 (str []) ?_; intro a34 hF35; clear hF33
  refine s1 hF35 3 (.int .i64 (fcheckfr u0)) ?_; intro a36 hF37; clear hF35
  refine nlH (hQ31 _ _ ?_); clear hQ31 hQ31Q
  refine wp_ret ?_
  refine thr ?_
  refine rt (fn := Tryz.f15) (v := .tuple #[str [], .int .i64 (fcheckfr u0)]) hF37 (re2 hF37 (fn := Tryz.f15) rfl (by kernel_rfl) (by kernel_rfl)) ?_
  exact ⟨([], (fcheckfr u0)), rfl, hp30, hM21.below⟩
 ·
  have hp38 := hp4.2 hb29; clear hp4
  refine wp_skip ?_
  refine thn ?_
  refine sqH ?_; intro hQ39Q hQ39
  refine l2 hF28 hM21 10 0 0 6 [.int .i64 u0.ID, .bool u0.Long, .bool u0.Fast, .bool u0.Remote, .int .i64 u0.Size, .slice ao1 u0.Data.length cap2] rfl rfl ?_; intro a40 hF41; clear hF28
  have hc42 := hp38.1; have hp43 := hp38.2; clear hp38
  refine fcl hF41 hM21 (str (fnameS u0)) 53 #[.agg #[.int .i64 u0.ID, .bool u0.Long, .bool u0.Fast, .bool u0.Remote, .int .i64 u0.Size, .slice ao1 u0.Data.length cap2]] (nog rfl _) rfl (by kernel_rfl) (fun _ => by kernel_rfl) (fname_fun u0 hc42 ao1 cap2 _ _ hs3 hM21.fz) ?_; intro a44 wd46 hF45 hM47; clear hF41 hM21
  refine s1 hF45 2 (str (fnameS u0)) ?_; intro a48 hF49; clear hF45
  refine s1 hF49 3 (.int .i64 0) ?_; intro a50 hF51; clear hF49
  refine nlH (hQ39 _ _ ?_); clear hQ39 hQ39Q
  refine wp_ret ?_
  refine rt (fn := Tryz.f15) (v := .tuple #[str (fnameS u0), .int .i64 0]) hF51 (re2 hF51 (fn := Tryz.f15) rfl (by kernel_rfl) (by kernel_rfl)) ?_
  exact ⟨((fnameS u0), 0), rfl, hp43, hM47.below⟩

set_option maxRecDepth 100000 in
set_option maxHeartbeats 0 in
theorem fSame_walk (u0 : Frame) (u1 : Frame) (ao1 : Option Addr) (cap2 : Nat) (ao4 : Option Addr) (cap5 : Nat) (Z : Fz) (w : World) (hs3 : SlR (tyInt .u8) Z ao1 cap2 u0.Data) (hs6 : SlR (tyInt .u8) Z ao4 cap5 u1.Data) (hZ : Z.on w) {K : Bool → Prop} (hp : fSame_vc u0 u1 K) : Calls Tryz.prog 19 #[.agg #[.int .i64 u0.ID, .bool u0.Long, .bool u0.Fast, .bool u0.Remote, .int .i64 u0.Size, .slice ao1 u0.Data.length cap2], .agg #[.int .i64 u1.ID, .bool u1.Long, .bool u1.Fast, .bool u1.Remote, .int .i64 u1.Size, .slice ao4 u1.Data.length cap5]] w fun e w' => ∃ r : Bool, e = .returned (.bool r) ∧ K r ∧ Below w.heap.size w w' := by
 refine enter0 Tryz.func19 rfl rfl (by kernel_rfl) ?_; intro a0 hF0; have hM0 := Mem.start w Z hZ; have hle0 := Fz.le.refl Z
 have hp7 := hp (hs3.small); clear hp
 have hp8 := hp7 (hs6.small); clear hp7
 refine sqH ?_; intro hQ9Q hQ9
 refine sn hF0 hM0 (fun b => .pointer (some ⟨b, 0, none⟩)) [.int .i64 u0.ID, .bool u0.Long, .bool u0.Fast, .bool u0.Remote, .int .i64 u0.Size, .slice ao1 u0.Data.length cap2] 24 (nog rfl _) rfl (by kernel_rfl) (by kernel_rfl) ?_; intro b10 a11 wd13 hF12 hM14; clear hF0 hM0
 refine sn hF12 hM14 (fun b => .pointer (some ⟨b, 0, none⟩)) [.int .i64 u1.ID, .bool u1.Long, .bool u1.Fast, .bool u1.Remote, .int .i64 u1.Size, .slice ao4 u1.Data.length cap5] 24 (nog rfl _) rfl (by kernel_rfl) (by kernel_rfl) ?_; intro b15 a16 wd18 hF17 hM19; clear hF12 hM14
 refine s1 hF17 4 (.bool false) ?_; intro a20 hF21; clear hF17
 refine nlH (hQ9 _ _ ?_); clear hQ9 hQ9Q
 refine sqH ?_; intro hQ22Q hQ22
 refine s1 hF21 5 (.pointer (some ⟨b10, 0, none⟩)) ?_; intro a23 hF24; clear hF21
 refine l1 hF24 hM19 6 1 0 (.int .i64 u0.ID) rfl rfl ?_; intro a25 hF26; clear hF24
 refine s1 hF26 7 (.pointer (some ⟨b15, 0, none⟩)) ?_; intro a27 hF28; clear hF26
 refine l1 hF28 hM19 8 0 0 (.int .i64 u1.ID) rfl rfl ?_; intro a29 hF30; clear hF28
 refine s1 hF30 9 (.bool (u0.ID == u1.ID)) ?_; intro a31 hF32; clear hF30
 refine s1 hF32 10 (.bool (u0.ID == u1.ID)) ?_; intro a33 hF34; clear hF32
 have hF35 := hF34.atom ((u0.ID == u1.ID) == true) (by kernel_rfl); clear hF34
 refine gp hF35 11 0 [] (u0.ID == u1.ID) (.pointer (some ⟨b10, 1, none⟩)) rfl rfl ?_; intro a36 hF37; clear hF35
 refine gd hF37 (.bool u0.Long) (m := 0) (cj := []) (bj := u0.ID == u1.ID) rfl rfl (by kernel_rfl) rfl (by kernel_rfl) (by kernel_rfl) (by kernel_rfl) (fun hg => ld hF37 hM19 1 (g := [0]) (b := b10) (off := 1) (cs := [.int .i64 u0.ID, .bool u0.Long, .bool u0.Fast, .bool u0.Remote, .int .i64 u0.Size, .slice ao1 u0.Data.length cap2]) (ty := 24) rfl (by kernel_rfl) (by kernel_rfl) (by kernel_rfl) (by kernel_rfl) hg) ?_; intro a38 hF39; clear hF37
 refine gp hF39 13 0 [] (u0.ID == u1.ID) (.pointer (some ⟨b15, 1, none⟩)) rfl rfl ?_; intro a40 hF41; clear hF39
 refine gd hF41 (.bool u1.Long) (m := 0) (cj := []) (bj := u0.ID == u1.ID) rfl rfl (by kernel_rfl) rfl (by kernel_rfl) (by kernel_rfl) (by kernel_rfl) (fun hg => ld hF41 hM19 0 (g := [0]) (b := b15) (off := 1) (cs := [.int .i64 u1.ID, .bool u1.Long, .bool u1.Fast, .bool u1.Remote, .int .i64 u1.Size, .slice ao4 u1.Data.length cap5]) (ty := 24) rfl (by kernel_rfl) (by kernel_rfl) (by kernel_rfl) (by kernel_rfl) hg) ?_; intro a42 hF43; clear hF41
 refine gp hF43 15 0 [] (u0.ID == u1.ID) (.bool (u0.Long == u1.Long)) rfl rfl ?_; intro a44 hF45; clear hF43
 refine st hF45 (.bool ((u0.ID == u1.ID) && (u0.Long == u1.Long))) (nog rfl _) rfl (by kernel_rfl) (pk_and hF45 (g := []) (m := 0) (b := u0.ID == u1.ID) (v := u0.Long == u1.Long) rfl (by kernel_rfl) (by kernel_rfl) (by kernel_rfl) rfl) ?_; intro a46 hF47; clear hF45
 refine s1 hF47 17 (.bool ((u0.ID == u1.ID) && (u0.Long == u1.Long))) ?_; intro a48 hF49; clear hF47
 have hF50 := hF49.atom (((u0.ID == u1.ID) && (u0.Long == u1.Long)) == true) (by kernel_rfl); clear hF49
 refine gp hF50 18 1 [] ((u0.ID == u1.ID) && (u0.Long == u1.Long)) (.pointer (some ⟨b10, 2, none⟩)) rfl rfl ?_; intro a51 hF52; clear hF50
 refine gd hF52 (.bool u0.Fast) (m := 1) (cj := []) (bj := (u0.ID == u1.ID) && (u0.Long == u1.Long)) rfl rfl (by kernel_rfl) rfl (by kernel_rfl) (by kernel_rfl) (by kernel_rfl) (fun hg => ld hF52 hM19 1 (g := [1]) (b := b10) (off := 2) (cs := [.int .i64 u0.ID, .bool u0.Long, .bool u0.Fast, .bool u0.Remote, .int .i64 u0.Size, .slice ao1 u0.Data.length cap2]) (ty := 24) rfl (by kernel_rfl) (by kernel_rfl) (by kernel_rfl) (by kernel_rfl) hg) ?_; intro a53 hF54; clear hF52
 refine gp hF54 20 1 [] ((u0.ID == u1.ID) && (u0.Long == u1.Long)) (.pointer (some ⟨b15, 2, none⟩)) rfl rfl ?_; intro a55 hF56; clear hF54
 refine gd hF56 (.bool u1.Fast) (m := 1) (cj := []) (bj := (u0.ID == u1.ID) && (u0.Long == u1.Long)) rfl rfl (by kernel_rfl) rfl (by kernel_rfl) (by kernel_rfl) (by kernel_rfl) (fun hg => ld hF56 hM19 0 (g := [1]) (b := b15) (off := 2) (cs := [.int .i64 u1.ID, .bool u1.Long, .bool u1.Fast, .bool u1.Remote, .int .i64 u1.Size, .slice ao4 u1.Data.length cap5]) (ty := 24) rfl (by kernel_rfl) (by kernel_rfl) (by kernel_rfl) (by kernel_rfl) hg) ?_; intro a57 hF58; clear hF56
 refine gp hF58 22 1 [] ((u0.ID == u1.ID) && (u0.Long == u1.Long)) (.bool (u0.Fast == u1.Fast)) rfl rfl ?_; intro a59 hF60; clear hF58
 refine st hF60 (.bool (((u0.ID == u1.ID) && (u0.Long == u1.Long)) && (u0.Fast == u1.Fast))) (nog rfl _) rfl (by kernel_rfl) (pk_and hF60 (g := []) (m := 1) (b := (u0.ID == u1.ID) && (u0.Long == u1.Long)) (v := u0.Fast == u1.Fast) rfl (by kernel_rfl) (by kernel_rfl) (by kernel_rfl) rfl) ?_; intro a61 hF62; clear hF60
 refine s1 hF62 24 (.bool (((u0.ID == u1.ID) && (u0.Long == u1.Long)) && (u0.Fast == u1.Fast))) ?_; intro a63 hF64; clear hF62
 have hF65 := hF64.atom ((((u0.ID == u1.ID) && (u0.Long == u1.Long)) && (u0.Fast == u1.Fast)) == true) (by kernel_rfl); clear hF64
 refine gp hF65 25 2 [] (((u0.ID == u1.ID) && (u0.Long == u1.Long)) && (u0.Fast == u1.Fast)) (.pointer (some ⟨b10, 3, none⟩)) rfl rfl ?_; intro a66 hF67; clear hF65
 refine gd hF67 (.bool u0.Remote) (m := 2) (cj := []) (bj := ((u0.ID == u1.ID) && (u0.Long == u1.Long)) && (u0.Fast == u1.Fast)) rfl rfl (by kernel_rfl) rfl (by kernel_rfl) (by kernel_rfl) (by kernel_rfl) (fun hg => ld hF67 hM19 1 (g := [2]) (b := b10) (off := 3) (cs := [.int .i64 u0.ID, .bool u0.Long, .bool u0.Fast, .bool u0.Remote, .int .i64 u0.Size, .slice ao1 u0.Data.length cap2]) (ty := 24) rfl (by kernel_rfl) (by kernel_rfl) (by kernel_rfl) (by kernel_rfl) hg) ?_; intro a68 hF69; clear hF67
 refine gp hF69 27 2 [] (((u0.ID == u1.ID) && (u0.Long == u1.Long)) && (u0.Fast == u1.Fast)) (.pointer (some ⟨b15, 3, none⟩)) rfl rfl ?_; intro a70 hF71; clear hF69
 refine gd hF71 (.bool u1.Remote) (m := 2) (cj := []) (bj := ((u0.ID == u1.ID) && (u0.Long == u1.Long)) && (u0.Fast == u1.Fast)) rfl rfl (by kernel_rfl) rfl (by kernel_rfl) (by kernel_rfl) (by kernel_rfl) (fun hg => ld hF71 hM19 0 (g := [2]) (b := b15) (off := 3) (cs := [.int .i64 u1.ID, .bool u1.Long, .bool u1.Fast, .bool u1.Remote, .int .i64 u1.Size, .slice ao4 u1.Data.length cap5]) (ty := 24) rfl (by kernel_rfl) (by kernel_rfl) (by kernel_rfl) (by kernel_rfl) hg) ?_; intro a72 hF73; clear hF71
 refine gp hF73 29 2 [] (((u0.ID == u1.ID) && (u0.Long == u1.Long)) && (u0.Fast == u1.Fast)) (.bool (u0.Remote == u1.Remote)) rfl rfl ?_; intro a74 hF75; clear hF73
 refine st hF75 (.bool ((((u0.ID == u1.ID) && (u0.Long == u1.Long)) && (u0.Fast == u1.Fast)) && (u0.Remote == u1.Remote))) (nog rfl _) rfl (by kernel_rfl) (pk_and hF75 (g := []) (m := 2) (b := ((u0.ID == u1.ID) && (u0.Long == u1.Long)) && (u0.Fast == u1.Fast)) (v := u0.Remote == u1.Remote) rfl (by kernel_rfl) (by kernel_rfl) (by kernel_rfl) rfl) ?_; intro a76 hF77; clear hF75
 refine s1 hF77 31 (.bool ((((u0.ID == u1.ID) && (u0.Long == u1.Long)) && (u0.Fast == u1.Fast)) && (u0.Remote == u1.Remote))) ?_; intro a78 hF79; clear hF77
 have hF80 := hF79.atom (((((u0.ID == u1.ID) && (u0.Long == u1.Long)) && (u0.Fast == u1.Fast)) && (u0.Remote == u1.Remote)) == true) (by kernel_rfl); clear hF79
 refine gp hF80 32 3 [] ((((u0.ID == u1.ID) && (u0.Long == u1.Long)) && (u0.Fast == u1.Fast)) && (u0.Remote == u1.Remote)) (.pointer (some ⟨b10, 4, none⟩)) rfl rfl ?_; intro a81 hF82; clear hF80
 refine gd hF82 (.int .i64 u0.Size) (m := 3) (cj := []) (bj := (((u0.ID == u1.ID) && (u0.Long == u1.Long)) && (u0.Fast == u1.Fast)) && (u0.Remote == u1.Remote)) rfl rfl (by kernel_rfl) rfl (by kernel_rfl) (by kernel_rfl) (by kernel_rfl) (fun hg => ld hF82 hM19 1 (g := [3]) (b := b10) (off := 4) (cs := [.int .i64 u0.ID, .bool u0.Long, .bool u0.Fast, .bool u0.Remote, .int .i64 u0.Size, .slice ao1 u0.Data.length cap2]) (ty := 24) rfl (by kernel_rfl) (by kernel_rfl) (by kernel_rfl) (by kernel_rfl) hg) ?_; intro a83 hF84; clear hF82
 refine gp hF84 34 3 [] ((((u0.ID == u1.ID) && (u0.Long == u1.Long)) && (u0.Fast == u1.Fast)) && (u0.Remote == u1.Remote)) (.pointer (some ⟨b15, 4, none⟩)) rfl rfl ?_; intro a85 hF86; clear hF84
 refine gd hF86 (.int .i64 u1.Size) (m := 3) (cj := []) (bj := (((u0.ID == u1.ID) && (u0.Long == u1.Long)) && (u0.Fast == u1.Fast)) && (u0.Remote == u1.Remote)) rfl rfl (by kernel_rfl) rfl (by kernel_rfl) (by kernel_rfl) (by kernel_rfl) (fun hg => ld hF86 hM19 0 (g := [3]) (b := b15) (off := 4) (cs := [.int .i64 u1.ID, .bool u1.Long, .bool u1.Fast, .bool u1.Remote, .int .i64 u1.Size, .slice ao4 u1.Data.length cap5]) (ty := 24) rfl (by kernel_rfl) (by kernel_rfl) (by kernel_rfl) (by kernel_rfl) hg) ?_; intro a87 hF88; clear hF86
 refine gp hF88 36 3 [] ((((u0.ID == u1.ID) && (u0.Long == u1.Long)) && (u0.Fast == u1.Fast)) && (u0.Remote == u1.Remote)) (.bool (u0.Size == u1.Size)) rfl rfl ?_; intro a89 hF90; clear hF88
 refine st hF90 (.bool (((((u0.ID == u1.ID) && (u0.Long == u1.Long)) && (u0.Fast == u1.Fast)) && (u0.Remote == u1.Remote)) && (u0.Size == u1.Size))) (nog rfl _) rfl (by kernel_rfl) (pk_and hF90 (g := []) (m := 3) (b := (((u0.ID == u1.ID) && (u0.Long == u1.Long)) && (u0.Fast == u1.Fast)) && (u0.Remote == u1.Remote)) (v := u0.Size == u1.Size) rfl (by kernel_rfl) (by kernel_rfl) (by kernel_rfl) rfl) ?_; intro a91 hF92; clear hF90
 refine s1 hF92 38 (.bool (((((u0.ID == u1.ID) && (u0.Long == u1.Long)) && (u0.Fast == u1.Fast)) && (u0.Remote == u1.Remote)) && (u0.Size == u1.Size))) ?_; intro a93 hF94; clear hF92
 have hF95 := hF94.atom ((((((u0.ID == u1.ID) && (u0.Long == u1.Long)) && (u0.Fast == u1.Fast)) && (u0.Remote == u1.Remote)) && (u0.Size == u1.Size)) == true) (by kernel_rfl); clear hF94
 refine gp hF95 39 4 [] (((((u0.ID == u1.ID) && (u0.Long == u1.Long)) && (u0.Fast == u1.Fast)) && (u0.Remote == u1.Remote)) && (u0.Size == u1.Size)) (.pointer (some ⟨b10, 5, none⟩)) rfl rfl ?_; intro a96 hF97; clear hF95
 refine gd hF97 (.slice ao1 u0.Data.length cap2) (m := 4) (cj := []) (bj := ((((u0.ID == u1.ID) && (u0.Long == u1.Long)) && (u0.Fast == u1.Fast)) && (u0.Remote == u1.Remote)) && (u0.Size == u1.Size)) rfl rfl (by kernel_rfl) rfl (by kernel_rfl) (by kernel_rfl) (by kernel_rfl) (fun hg => ld hF97 hM19 1 (g := [4]) (b := b10) (off := 5) (cs := [.int .i64 u0.ID, .bool u0.Long, .bool u0.Fast, .bool u0.Remote, .int .i64 u0.Size, .slice ao1 u0.Data.length cap2]) (ty := 24) rfl (by kernel_rfl) (by kernel_rfl) (by kernel_rfl) (by kernel_rfl) hg) ?_; intro a98 hF99; clear hF97
 refine gp hF99 41 4 [] (((((u0.ID == u1.ID) && (u0.Long == u1.Long)) && (u0.Fast == u1.Fast)) && (u0.Remote == u1.Remote)) && (u0.Size == u1.Size)) (.pointer (some ⟨b15, 5, none⟩)) rfl rfl ?_; intro a100 hF101; clear hF99
 refine gd hF101 (.slice ao4 u1.Data.length cap5) (m := 4) (cj := []) (bj := ((((u0.ID == u1.ID) && (u0.Long == u1.Long)) && (u0.Fast == u1.Fast)) && (u0.Remote == u1.Remote)) && (u0.Size == u1.Size)) rfl rfl (by kernel_rfl) rfl (by kernel_rfl) (by kernel_rfl) (by kernel_rfl) (fun hg => ld hF101 hM19 0 (g := [4]) (b := b15) (off := 5) (cs := [.int .i64 u1.ID, .bool u1.Long, .bool u1.Fast, .bool u1.Remote, .int .i64 u1.Size, .slice ao4 u1.Data.length cap5]) (ty := 24) rfl (by kernel_rfl) (by kernel_rfl) (by kernel_rfl) (by kernel_rfl) hg) ?_; intro a102 hF103; clear hF101
 refine gcl hF103 hM19 (.bool (beqS u0.Data u1.Data)) 52 #[.slice ao1 u0.Data.length cap2, .slice ao4 u1.Data.length cap5] (m := 4) (cj := []) (bj := ((((u0.ID == u1.ID) && (u0.Long == u1.Long)) && (u0.Fast == u1.Fast)) && (u0.Remote == u1.Remote)) && (u0.Size == u1.Size)) rfl rfl (by kernel_rfl) rfl (by kernel_rfl) (by kernel_rfl) (by kernel_rfl) (fun _ => by kernel_rfl) (fun hg => beq_fun u0.Data u1.Data ao1 cap2 ao4 cap5 _ _ hs3 hs6 hM19.fz) ?_; intro a104 wd106 hF105 hM107; clear hF103 hM19
 refine st hF105 (.bool ((((((u0.ID == u1.ID) && (u0.Long == u1.Long)) && (u0.Fast == u1.Fast)) && (u0.Remote == u1.Remote)) && (u0.Size == u1.Size)) && (beqS u0.Data u1.Data))) (nog rfl _) rfl (by kernel_rfl) (pk_and hF105 (g := []) (m := 4) (b := ((((u0.ID == u1.ID) && (u0.Long == u1.Long)) && (u0.Fast == u1.Fast)) && (u0.Remote == u1.Remote)) && (u0.Size == u1.Size)) (v := (beqS u0.Data u1.Data)) rfl (by kernel_rfl) (by kernel_rfl) (by kernel_rfl) rfl) ?_; intro a108 hF109; clear hF105
 refine s1 hF109 4 (.bool ((((((u0.ID == u1.ID) && (u0.Long == u1.Long)) && (u0.Fast == u1.Fast)) && (u0.Remote == u1.Remote)) && (u0.Size == u1.Size)) && (beqS u0.Data u1.Data))) ?_; intro a110 hF111; clear hF109
 refine nlH (hQ22 _ _ ?_); clear hQ22 hQ22Q
 refine wp_ret ?_
 refine rt (fn := Tryz.f19) (v := .bool ((((((u0.ID == u1.ID) && (u0.Long == u1.Long)) && (u0.Fast == u1.Fast)) && (u0.Remote == u1.Remote)) && (u0.Size == u1.Size)) && (beqS u0.Data u1.Data))) hF111 (re1 hF111 (fn := Tryz.f19) rfl (by kernel_rfl)) ?_
 exact ⟨(((((u0.ID == u1.ID) && (u0.Long == u1.Long)) && (u0.Fast == u1.Fast)) && (u0.Remote == u1.Remote)) && (u0.Size == u1.Size)) && (beqS u0.Data u1.Data), rfl, hp8, hM107.below⟩

set_option maxRecDepth 100000 in
set_option maxHeartbeats 0 in
theorem rSame_walk (u0 : Frame) (u1 : Frame) (ao1 : Option Addr) (cap2 : Nat) (ao4 : Option Addr) (cap5 : Nat) (Z : Fz) (w : World) (hs3 : SlR (tyInt .u8) Z ao1 cap2 u0.Data) (hs6 : SlR (tyInt .u8) Z ao4 cap5 u1.Data) (hZ : Z.on w) {K : Bool → Prop} (hp : rSame_vc u0 u1 K) : Calls Tryz.prog 13 #[.agg #[.int .i64 u0.ID, .bool u0.Long, .bool u0.Fast, .bool u0.Remote, .int .i64 u0.Size, .slice ao1 u0.Data.length cap2], .agg #[.int .i64 u1.ID, .bool u1.Long, .bool u1.Fast, .bool u1.Remote, .int .i64 u1.Size, .slice ao4 u1.Data.length cap5]] w fun e w' => ∃ r : Bool, e = .returned (.bool r) ∧ K r ∧ Below w.heap.size w w' := by
 refine enter0 Tryz.func13 rfl rfl (by kernel_rfl) ?_; intro a0 hF0; have hM0 := Mem.start w Z hZ; have hle0 := Fz.le.refl Z
 have hp7 := hp (hs3.small); clear hp
 have hp8 := hp7 (hs6.small); clear hp7
 refine sqH ?_; intro hQ9Q hQ9
 refine sn hF0 hM0 (fun b => .pointer (some ⟨b, 0, none⟩)) [.int .i64 u0.ID, .bool u0.Long, .bool u0.Fast, .bool u0.Remote, .int .i64 u0.Size, .slice ao1 u0.Data.length cap2] 24 (nog rfl _) rfl (by kernel_rfl) (by kernel_rfl) ?_; intro b10 a11 wd13 hF12 hM14; clear hF0 hM0
 refine sn hF12 hM14 (fun b => .pointer (some ⟨b, 0, none⟩)) [.int .i64 u1.ID, .bool u1.Long, .bool u1.Fast, .bool u1.Remote, .int .i64 u1.Size, .slice ao4 u1.Data.length cap5] 24 (nog rfl _) rfl (by kernel_rfl) (by kernel_rfl) ?_; intro b15 a16 wd18 hF17 hM19; clear hF12 hM14
 refine s1 hF17 4 (.bool false) ?_; intro a20 hF21; clear hF17
 refine nlH (hQ9 _ _ ?_); clear hQ9 hQ9Q
 refine sqH ?_; intro hQ22Q hQ22
 refine s1 hF21 5 (.pointer (some ⟨b10, 0, none⟩)) ?_; intro a23 hF24; clear hF21
 refine l1 hF24 hM19 6 1 0 (.int .i64 u0.ID) rfl rfl ?_; intro a25 hF26; clear hF24
 refine s1 hF26 7 (.pointer (some ⟨b15, 0, none⟩)) ?_; intro a27 hF28; clear hF26
 refine l1 hF28 hM19 8 0 0 (.int .i64 u1.ID) rfl rfl ?_; intro a29 hF30; clear hF28
 refine s1 hF30 9 (.bool (u0.ID == u1.ID)) ?_; intro a31 hF32; clear hF30
 refine s1 hF32 10 (.bool (u0.ID == u1.ID)) ?_; intro a33 hF34; clear hF32
 have hF35 := hF34.atom ((u0.ID == u1.ID) == true) (by kernel_rfl); clear hF34
 refine gp hF35 11 0 [] (u0.ID == u1.ID) (.pointer (some ⟨b10, 1, none⟩)) rfl rfl ?_; intro a36 hF37; clear hF35
 refine gd hF37 (.bool u0.Long) (m := 0) (cj := []) (bj := u0.ID == u1.ID) rfl rfl (by kernel_rfl) rfl (by kernel_rfl) (by kernel_rfl) (by kernel_rfl) (fun hg => ld hF37 hM19 1 (g := [0]) (b := b10) (off := 1) (cs := [.int .i64 u0.ID, .bool u0.Long, .bool u0.Fast, .bool u0.Remote, .int .i64 u0.Size, .slice ao1 u0.Data.length cap2]) (ty := 24) rfl (by kernel_rfl) (by kernel_rfl) (by kernel_rfl) (by kernel_rfl) hg) ?_; intro a38 hF39; clear hF37
 refine gp hF39 13 0 [] (u0.ID == u1.ID) (.pointer (some ⟨b15, 1, none⟩)) rfl rfl ?_; intro a40 hF41; clear hF39
 refine gd hF41 (.bool u1.Long) (m := 0) (cj := []) (bj := u0.ID == u1.ID) rfl rfl (by kernel_rfl) rfl (by kernel_rfl) (by kernel_rfl) (by kernel_rfl) (fun hg => ld hF41 hM19 0 (g := [0]) (b := b15) (off := 1) (cs := [.int .i64 u1.ID, .bool u1.Long, .bool u1.Fast, .bool u1.Remote, .int .i64 u1.Size, .slice ao4 u1.Data.length cap5]) (ty := 24) rfl (by kernel_rfl) (by kernel_rfl) (by kernel_rfl) (by kernel_rfl) hg) ?_; intro a42 hF43; clear hF41
 refine gp hF43 15 0 [] (u0.ID == u1.ID) (.bool (u0.Long == u1.Long)) rfl rfl ?_; intro a44 hF45; clear hF43
 refine st hF45 (.bool ((u0.ID == u1.ID) && (u0.Long == u1.Long))) (nog rfl _) rfl (by kernel_rfl) (pk_and hF45 (g := []) (m := 0) (b := u0.ID == u1.ID) (v := u0.Long == u1.Long) rfl (by kernel_rfl) (by kernel_rfl) (by kernel_rfl) rfl) ?_; intro a46 hF47; clear hF45
 refine s1 hF47 17 (.bool ((u0.ID == u1.ID) && (u0.Long == u1.Long))) ?_; intro a48 hF49; clear hF47
 have hF50 := hF49.atom (((u0.ID == u1.ID) && (u0.Long == u1.Long)) == true) (by kernel_rfl); clear hF49
 refine gp hF50 18 1 [] ((u0.ID == u1.ID) && (u0.Long == u1.Long)) (.pointer (some ⟨b10, 2, none⟩)) rfl rfl ?_; intro a51 hF52; clear hF50
 refine gd hF52 (.bool u0.Fast) (m := 1) (cj := []) (bj := (u0.ID == u1.ID) && (u0.Long == u1.Long)) rfl rfl (by kernel_rfl) rfl (by kernel_rfl) (by kernel_rfl) (by kernel_rfl) (fun hg => ld hF52 hM19 1 (g := [1]) (b := b10) (off := 2) (cs := [.int .i64 u0.ID, .bool u0.Long, .bool u0.Fast, .bool u0.Remote, .int .i64 u0.Size, .slice ao1 u0.Data.length cap2]) (ty := 24) rfl (by kernel_rfl) (by kernel_rfl) (by kernel_rfl) (by kernel_rfl) hg) ?_; intro a53 hF54; clear hF52
 refine gp hF54 20 1 [] ((u0.ID == u1.ID) && (u0.Long == u1.Long)) (.pointer (some ⟨b15, 2, none⟩)) rfl rfl ?_; intro a55 hF56; clear hF54
 refine gd hF56 (.bool u1.Fast) (m := 1) (cj := []) (bj := (u0.ID == u1.ID) && (u0.Long == u1.Long)) rfl rfl (by kernel_rfl) rfl (by kernel_rfl) (by kernel_rfl) (by kernel_rfl) (fun hg => ld hF56 hM19 0 (g := [1]) (b := b15) (off := 2) (cs := [.int .i64 u1.ID, .bool u1.Long, .bool u1.Fast, .bool u1.Remote, .int .i64 u1.Size, .slice ao4 u1.Data.length cap5]) (ty := 24) rfl (by kernel_rfl) (by kernel_rfl) (by kernel_rfl) (by kernel_rfl) hg) ?_; intro a57 hF58; clear hF56
 refine gp hF58 22 1 [] ((u0.ID == u1.ID) && (u0.Long == u1.Long)) (.bool (u0.Fast == u1.Fast)) rfl rfl ?_; intro a59 hF60; clear hF58
 refine st hF60 (.bool (((u0.ID == u1.ID) && (u0.Long == u1.Long)) && (u0.Fast == u1.Fast))) (nog rfl _) rfl (by kernel_rfl) (pk_and hF60 (g := []) (m := 1) (b := (u0.ID == u1.ID) && (u0.Long == u1.Long)) (v := u0.Fast == u1.Fast) rfl (by kernel_rfl) (by kernel_rfl) (by kernel_rfl) rfl) ?_; intro a61 hF62; clear hF60
 refine s1 hF62 24 (.bool (((u0.ID == u1.ID) && (u0.Long == u1.Long)) && (u0.Fast == u1.Fast))) ?_; intro a63 hF64; clear hF62
 have hF65 := hF64.atom ((((u0.ID == u1.ID) && (u0.Long == u1.Long)) && (u0.Fast == u1.Fast)) == true) (by kernel_rfl); clear hF64
 refine gp hF65 25 2 [] (((u0.ID == u1.ID) && (u0.Long == u1.Long)) && (u0.Fast == u1.Fast)) (.pointer (some ⟨b10, 3, none⟩)) rfl rfl ?_; intro a66 hF67; clear hF65
 refine gd hF67 (.bool u0.Remote) (m := 2) (cj := []) (bj := ((u0.ID == u1.ID) && (u0.Long == u1.Long)) && (u0.Fast == u1.Fast)) rfl rfl (by kernel_rfl) rfl (by kernel_rfl) (by kernel_rfl) (by kernel_rfl) (fun hg => ld hF67 hM19 1 (g := [2]) (b := b10) (off := 3) (cs := [.int .i64 u0.ID, .bool u0.Long, .bool u0.Fast, .bool u0.Remote, .int .i64 u0.Size, .slice ao1 u0.Data.length cap2]) (ty := 24) rfl (by kernel_rfl) (by kernel_rfl) (by kernel_rfl) (by kernel_rfl) hg) ?_; intro a68 hF69; clear hF67
 refine gp hF69 27 2 [] (((u0.ID == u1.ID) && (u0.Long == u1.Long)) && (u0.Fast == u1.Fast)) (.pointer (some ⟨b15, 3, none⟩)) rfl rfl ?_; intro a70 hF71; clear hF69
 refine gd hF71 (.bool u1.Remote) (m := 2) (cj := []) (bj := ((u0.ID == u1.ID) && (u0.Long == u1.Long)) && (u0.Fast == u1.Fast)) rfl rfl (by kernel_rfl) rfl (by kernel_rfl) (by kernel_rfl) (by kernel_rfl) (fun hg => ld hF71 hM19 0 (g := [2]) (b := b15) (off := 3) (cs := [.int .i64 u1.ID, .bool u1.Long, .bool u1.Fast, .bool u1.Remote, .int .i64 u1.Size, .slice ao4 u1.Data.length cap5]) (ty := 24) rfl (by kernel_rfl) (by kernel_rfl) (by kernel_rfl) (by kernel_rfl) hg) ?_; intro a72 hF73; clear hF71
 refine gp hF73 29 2 [] (((u0.ID == u1.ID) && (u0.Long == u1.Long)) && (u0.Fast == u1.Fast)) (.bool (u0.Remote == u1.Remote)) rfl rfl ?_; intro a74 hF75; clear hF73
 refine st hF75 (.bool ((((u0.ID == u1.ID) && (u0.Long == u1.Long)) && (u0.Fast == u1.Fast)) && (u0.Remote == u1.Remote))) (nog rfl _) rfl (by kernel_rfl) (pk_and hF75 (g := []) (m := 2) (b := ((u0.ID == u1.ID) && (u0.Long == u1.Long)) && (u0.Fast == u1.Fast)) (v := u0.Remote == u1.Remote) rfl (by kernel_rfl) (by kernel_rfl) (by kernel_rfl) rfl) ?_; intro a76 hF77; clear hF75
 refine s1 hF77 31 (.bool ((((u0.ID == u1.ID) && (u0.Long == u1.Long)) && (u0.Fast == u1.Fast)) && (u0.Remote == u1.Remote))) ?_; intro a78 hF79; clear hF77
 have hF80 := hF79.atom (((((u0.ID == u1.ID) && (u0.Long == u1.Long)) && (u0.Fast == u1.Fast)) && (u0.Remote == u1.Remote)) == true) (by kernel_rfl); clear hF79
 refine gp hF80 32 3 [] ((((u0.ID == u1.ID) && (u0.Long == u1.Long)) && (u0.Fast == u1.Fast)) && (u0.Remote == u1.Remote)) (.pointer (some ⟨b10, 4, none⟩)) rfl rfl ?_; intro a81 hF82; clear hF80
 refine gd hF82 (.int .i64 u0.Size) (m := 3) (cj := []) (bj := (((u0.ID == u1.ID) && (u0.Long == u1.Long)) && (u0.Fast == u1.Fast)) && (u0.Remote == u1.Remote)) rfl rfl (by kernel_rfl) rfl (by kernel_rfl) (by kernel_rfl) (by kernel_rfl) (fun hg => ld hF82 hM19 1 (g := [3]) (b := b10) (off := 4) (cs := [.int .i64 u0.ID, .bool u0.Long, .bool u0.Fast, .bool u0.Remote, .int .i64 u0.Size, .slice ao1 u0.Data.length cap2]) (ty := 24) rfl (by kernel_rfl) (by kernel_rfl) (by kernel_rfl) (by kernel_rfl) hg) ?_; intro a83 hF84; clear hF82
 refine gp hF84 34 3 [] ((((u0.ID == u1.ID) && (u0.Long == u1.Long)) && (u0.Fast == u1.Fast)) && (u0.Remote == u1.Remote)) (.pointer (some ⟨b15, 4, none⟩)) rfl rfl ?_; intro a85 hF86; clear hF84
 refine gd hF86 (.int .i64 u1.Size) (m := 3) (cj := []) (bj := (((u0.ID == u1.ID) && (u0.Long == u1.Long)) && (u0.Fast == u1.Fast)) && (u0.Remote == u1.Remote)) rfl rfl (by kernel_rfl) rfl (by kernel_rfl) (by kernel_rfl) (by kernel_rfl) (fun hg => ld hF86 hM19 0 (g := [3]) (b := b15) (off := 4) (cs := [.int .i64 u1.ID, .bool u1.Long, .bool u1.Fast, .bool u1.Remote, .int .i64 u1.Size, .slice ao4 u1.Data.length cap5]) (ty := 24) rfl (by kernel_rfl) (by kernel_rfl) (by kernel_rfl) (by kernel_rfl) hg) ?_; intro a87 hF88; clear hF86
 refine gp hF88 36 3 [] ((((u0.ID == u1.ID) && (u0.Long == u1.Long)) && (u0.Fast == u1.Fast)) && (u0.Remote == u1.Remote)) (.bool (u0.Size == u1.Size)) rfl rfl ?_; intro a89 hF90; clear hF88
 refine st hF90 (.bool (((((u0.ID == u1.ID) && (u0.Long == u1.Long)) && (u0.Fast == u1.Fast)) && (u0.Remote == u1.Remote)) && (u0.Size == u1.Size))) (nog rfl _) rfl (by kernel_rfl) (pk_and hF90 (g := []) (m := 3) (b := (((u0.ID == u1.ID) && (u0.Long == u1.Long)) && (u0.Fast == u1.Fast)) && (u0.Remote == u1.Remote)) (v := u0.Size == u1.Size) rfl (by kernel_rfl) (by kernel_rfl) (by kernel_rfl) rfl) ?_; intro a91 hF92; clear hF90
 refine s1 hF92 38 (.bool (((((u0.ID == u1.ID) && (u0.Long == u1.Long)) && (u0.Fast == u1.Fast)) && (u0.Remote == u1.Remote)) && (u0.Size == u1.Size))) ?_; intro a93 hF94; clear hF92
 have hF95 := hF94.atom ((((((u0.ID == u1.ID) && (u0.Long == u1.Long)) && (u0.Fast == u1.Fast)) && (u0.Remote == u1.Remote)) && (u0.Size == u1.Size)) == true) (by kernel_rfl); clear hF94
 refine gp hF95 39 4 [] (((((u0.ID == u1.ID) && (u0.Long == u1.Long)) && (u0.Fast == u1.Fast)) && (u0.Remote == u1.Remote)) && (u0.Size == u1.Size)) (.pointer (some ⟨b10, 5, none⟩)) rfl rfl ?_; intro a96 hF97; clear hF95
 refine gd hF97 (.slice ao1 u0.Data.length cap2) (m := 4) (cj := []) (bj := ((((u0.ID == u1.ID) && (u0.Long == u1.Long)) && (u0.Fast == u1.Fast)) && (u0.Remote == u1.Remote)) && (u0.Size == u1.Size)) rfl rfl (by kernel_rfl) rfl (by kernel_rfl) (by kernel_rfl) (by kernel_rfl) (fun hg => ld hF97 hM19 1 (g := [4]) (b := b10) (off := 5) (cs := [.int .i64 u0.ID, .bool u0.Long, .bool u0.Fast, .bool u0.Remote, .int .i64 u0.Size, .slice ao1 u0.Data.length cap2]) (ty := 24) rfl (by kernel_rfl) (by kernel_rfl) (by kernel_rfl) (by kernel_rfl) hg) ?_; intro a98 hF99; clear hF97
 refine gp hF99 41 4 [] (((((u0.ID == u1.ID) && (u0.Long == u1.Long)) && (u0.Fast == u1.Fast)) && (u0.Remote == u1.Remote)) && (u0.Size == u1.Size)) (.pointer (some ⟨b15, 5, none⟩)) rfl rfl ?_; intro a100 hF101; clear hF99
 refine gd hF101 (.slice ao4 u1.Data.length cap5) (m := 4) (cj := []) (bj := ((((u0.ID == u1.ID) && (u0.Long == u1.Long)) && (u0.Fast == u1.Fast)) && (u0.Remote == u1.Remote)) && (u0.Size == u1.Size)) rfl rfl (by kernel_rfl) rfl (by kernel_rfl) (by kernel_rfl) (by kernel_rfl) (fun hg => ld hF101 hM19 0 (g := [4]) (b := b15) (off := 5) (cs := [.int .i64 u1.ID, .bool u1.Long, .bool u1.Fast, .bool u1.Remote, .int .i64 u1.Size, .slice ao4 u1.Data.length cap5]) (ty := 24) rfl (by kernel_rfl) (by kernel_rfl) (by kernel_rfl) (by kernel_rfl) hg) ?_; intro a102 hF103; clear hF101
 refine gcl hF103 hM19 (.bool (beqS u0.Data u1.Data)) 52 #[.slice ao1 u0.Data.length cap2, .slice ao4 u1.Data.length cap5] (m := 4) (cj := []) (bj := ((((u0.ID == u1.ID) && (u0.Long == u1.Long)) && (u0.Fast == u1.Fast)) && (u0.Remote == u1.Remote)) && (u0.Size == u1.Size)) rfl rfl (by kernel_rfl) rfl (by kernel_rfl) (by kernel_rfl) (by kernel_rfl) (fun _ => by kernel_rfl) (fun hg => beq_fun u0.Data u1.Data ao1 cap2 ao4 cap5 _ _ hs3 hs6 hM19.fz) ?_; intro a104 wd106 hF105 hM107; clear hF103 hM19
 refine st hF105 (.bool ((((((u0.ID == u1.ID) && (u0.Long == u1.Long)) && (u0.Fast == u1.Fast)) && (u0.Remote == u1.Remote)) && (u0.Size == u1.Size)) && (beqS u0.Data u1.Data))) (nog rfl _) rfl (by kernel_rfl) (pk_and hF105 (g := []) (m := 4) (b := ((((u0.ID == u1.ID) && (u0.Long == u1.Long)) && (u0.Fast == u1.Fast)) && (u0.Remote == u1.Remote)) && (u0.Size == u1.Size)) (v := (beqS u0.Data u1.Data)) rfl (by kernel_rfl) (by kernel_rfl) (by kernel_rfl) rfl) ?_; intro a108 hF109; clear hF105
 refine s1 hF109 4 (.bool ((((((u0.ID == u1.ID) && (u0.Long == u1.Long)) && (u0.Fast == u1.Fast)) && (u0.Remote == u1.Remote)) && (u0.Size == u1.Size)) && (beqS u0.Data u1.Data))) ?_; intro a110 hF111; clear hF109
 refine nlH (hQ22 _ _ ?_); clear hQ22 hQ22Q
 refine wp_ret ?_
 refine rt (fn := Tryz.f13) (v := .bool ((((((u0.ID == u1.ID) && (u0.Long == u1.Long)) && (u0.Fast == u1.Fast)) && (u0.Remote == u1.Remote)) && (u0.Size == u1.Size)) && (beqS u0.Data u1.Data))) hF111 (re1 hF111 (fn := Tryz.f13) rfl (by kernel_rfl)) ?_
 exact ⟨(((((u0.ID == u1.ID) && (u0.Long == u1.Long)) && (u0.Fast == u1.Fast)) && (u0.Remote == u1.Remote)) && (u0.Size == u1.Size)) && (beqS u0.Data u1.Data), rfl, hp8, hM107.below⟩

set_option maxRecDepth 100000 in
set_option maxHeartbeats 0 in
theorem rfail_walk (u0 : FReader) (u1 : Int) (b1 : Nat) (ao2 : Option Addr) (cap3 : Nat) (B : Nat) (w0 : World) (Z0 : Fz) (Rr : List Res) (Z : Fz) (w : World) (hs4 : SlR (tyInt .u8) Z ao2 cap3 u0.f.Data) (hM0 : Mem B [] w0 Z0 ((.row b1 [str u0.Reader.Row, .int .i64 u0.Reader.At, .int .i64 u0.Reader.Code, .int .u8 u0.Reader.c.last, .int .i64 u0.Reader.c.n, .int .i64 u0.f.ID, .bool u0.f.Long, .bool u0.f.Fast, .bool u0.f.Remote, .int .i64 u0.f.Size, .slice ao2 u0.f.Data.length cap3] 61) :: Rr) Z w) (hZ : Z.on w) {K : FReader → Prop} (hp : rfail_vc u0 u1 K) : Calls Tryz.prog 34 #[.pointer (some ⟨b1, 0, none⟩), .int .i64 u1] w fun e w' => ∃ (r : FReader) (ao1001 : Option Addr) (cap1002 : Nat) (Z' : Fz), e = .returned (.tuple #[]) ∧ K r ∧ Fz.le Z Z' ∧ SlR (tyInt .u8) Z' ao1001 cap1002 r.f.Data ∧ Mem B [] w0 Z0 ((.row b1 [str r.Reader.Row, .int .i64 r.Reader.At, .int .i64 r.Reader.Code, .int .u8 r.Reader.c.last, .int .i64 r.Reader.c.n, .int .i64 r.f.ID, .bool r.f.Long, .bool r.f.Fast, .bool r.f.Remote, .int .i64 r.f.Size, .slice ao1001 r.f.Data.length cap1002] 61) :: Rr) Z' w' := by
 refine enter0 Tryz.func34 rfl rfl (by kernel_rfl) ?_; intro a0 hF0; have hle0 := Fz.le.refl Z
 have hp5 := hp (hs4.small); clear hp
 refine sqH ?_; intro hQ6Q hQ6
 refine s1 hF0 4 (.pointer (some ⟨b1, 0, none⟩)) ?_; intro a7 hF8; clear hF0
 refine s1 hF8 5 (.pointer (some ⟨b1, 0, none⟩)) ?_; intro a9 hF10; clear hF8
 refine s1 hF10 6 (.pointer (some ⟨b1, 0, none⟩)) ?_; intro a11 hF12; clear hF10
 refine s1 hF12 7 (.pointer (some ⟨b1, 2, none⟩)) ?_; intro a13 hF14; clear hF12
 refine l1 hF14 hM0 8 0 2 (.int .i64 u0.Reader.Code) rfl rfl ?_; intro a15 hF16; clear hF14
 refine s1 hF16 9 (.bool (u0.Reader.Code == 0)) ?_; intro a17 hF18; clear hF16
 refine nlH (hQ6 _ _ ?_); clear hQ6 hQ6Q
 refine cd hF18 (t := u0.Reader.Code == 0) (by kernel_rfl) (fun hb19 => ?_) (fun hb19 => ?_)
 ·
  have hp20 := hp5.1 hb19; clear hp5
  refine rgH ?_; intro hQ21Q hQ21
  refine s1 hF18 10 (.pointer (some ⟨b1, 0, none⟩)) ?_; intro a22 hF23; clear hF18
  refine s1 hF23 11 (.int .i64 u1) ?_; intro a24 hF25; clear hF23
  refine s1 hF25 12 (.pointer (some ⟨b1, 0, none⟩)) ?_; intro a26 hF27; clear hF25
  refine s1 hF27 13 (.pointer (some ⟨b1, 0, none⟩)) ?_; intro a28 hF29; clear hF27
  refine s1 hF29 14 (.pointer (some ⟨b1, 2, none⟩)) ?_; intro a30 hF31; clear hF29
  refine sr hF31 hM0 0 [str u0.Reader.Row, .int .i64 u0.Reader.At, .int .i64 u1, .int .u8 u0.Reader.c.last, .int .i64 u0.Reader.c.n, .int .i64 u0.f.ID, .bool u0.f.Long, .bool u0.f.Fast, .bool u0.f.Remote, .int .i64 u0.f.Size, .slice ao2 u0.f.Data.length cap3] (b := b1) (off := 2) (cs := [str u0.Reader.Row, .int .i64 u0.Reader.At, .int .i64 u0.Reader.Code, .int .u8 u0.Reader.c.last, .int .i64 u0.Reader.c.n, .int .i64 u0.f.ID, .bool u0.f.Long, .bool u0.f.Fast, .bool u0.f.Remote, .int .i64 u0.f.Size, .slice ao2 u0.f.Data.length cap3]) (ty := 61) (u := .int .i64 u1) (nog rfl _) rfl rfl (by kernel_rfl) (by kernel_rfl) (by kernel_rfl) (by kernel_rfl) (by kernel_rfl) (by kernel_rfl) (by kernel_rfl) ?_; intro wd32 hM33; clear hM0
  have hM34 : Mem B [] w0 Z0 ((.row b1 [str u0.Reader.Row, .int .i64 u0.Reader.At, .int .i64 u1, .int .u8 u0.Reader.c.last, .int .i64 u0.Reader.c.n, .int .i64 u0.f.ID, .bool u0.f.Long, .bool u0.f.Fast, .bool u0.f.Remote, .int .i64 u0.f.Size, .slice ao2 u0.f.Data.length cap3] 61) :: Rr) Z wd32 := hM33; clear hM33
  refine nlH (hQ21 _ _ ?_); clear hQ21 hQ21Q
  refine rN (fn := Tryz.f34) (v := .tuple #[]) hF31 (re0 hF31 (fn := Tryz.f34) rfl) ?_
  exact ⟨(⟨(⟨u0.Reader.Row, u0.Reader.At, u1, u0.Reader.c⟩ : Reader), u0.f⟩ : FReader), ao2, cap3, Z, rfl, hp20, hle0, hs4, hM34.keep (List.Sublist.cons_cons _ (List.Sublist.refl _))⟩
 ·
  have hp35 := hp5.2 hb19; clear hp5
  refine wp_skip ?_
  refine rN (fn := Tryz.f34) (v := .tuple #[]) hF18 (re0 hF18 (fn := Tryz.f34) rfl) ?_
  exact ⟨u0, ao2, cap3, Z, rfl, hp35, hle0, hs4, hM0.keep (List.Sublist.cons_cons _ (List.Sublist.refl _))⟩

end Go.Proofs.YtmbdcehmeiiaoaaGreatDoor
