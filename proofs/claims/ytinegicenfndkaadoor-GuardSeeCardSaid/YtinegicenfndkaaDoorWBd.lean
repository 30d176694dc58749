/- The walks, made by program: each call does what its pure predicate says. -/
import Derived.Test.YtinegicenfndkaaDoorPBd
import Derived.Test.YtinegicenfndkaaDoorWBc
set_option linter.unusedVariables false
set_option linter.unusedSimpArgs false
namespace Go.Proofs.YtinegicenfndkaaDoor
open Go.Sy Go.RowKit
theorem gof_fun (u0 : BInt) (u1 : List Int) (hpre : wok u1 ∧ u1.length ≤ 1000000 ∧ ∀ q, u1[u1.length - 1]? = some q → q < 2147483648) (b1 : Nat) (ao2 : Option Addr) (cap3 : Nat) (ao5 : Option Addr) (cap6 : Nat) (B : Nat) (w0 : World) (Z0 : Fz) (Rr : List Res) (Z : Fz) (w : World) (hs4 : SlR (tyInt .u32) Z ao2 cap3 u0.abs) (hM0 : Mem B [] w0 Z0 ((.row b1 [.bool u0.neg, .slice ao2 u0.abs.length cap3] 93) :: (.own (tyInt .u32) 130 ao5 cap6 u1) :: Rr) Z w) (hZ : Z.on w) : Calls Tryd.prog 95 #[.pointer (some ⟨b1, 0, none⟩), .slice ao5 u1.length cap6] w fun e w' => ∃ (ao1001 : Option Addr) (cap1002 : Nat) (Z' : Fz), e = .returned (.pointer (some ⟨b1, 0, none⟩)) ∧ Fz.le Z Z' ∧ SlR (tyInt .u32) Z' ao1001 cap1002 (gofS u0 u1).abs ∧ Mem B [] w0 Z0 ((.row b1 [.bool (gofS u0 u1).neg, .slice ao1001 (gofS u0 u1).abs.length cap1002] 93) :: Rr) Z' w' :=
  (gof_walk u0 u1 b1 ao2 cap3 ao5 cap6 B w0 Z0 Rr Z w hs4 hM0 hZ (gof_ok u0 u1 hpre)).mono fun _ _ ⟨r, h0, h1, h2, he, hk, f0, f1, hm⟩ => by subst hk; exact ⟨h0, h1, h2, he, f0, f1, hm⟩

theorem gseti_fun (u0 : BInt) (u1 : Int) (hpre : 0 ≤ u1 ∧ u1 ≤ 9223372036854775807) (b1 : Nat) (ao2 : Option Addr) (cap3 : Nat) (B : Nat) (w0 : World) (Z0 : Fz) (Rr : List Res) (Z : Fz) (w : World) (hs4 : SlR (tyInt .u32) Z ao2 cap3 u0.abs) (hM0 : Mem B [] w0 Z0 ((.row b1 [.bool u0.neg, .slice ao2 u0.abs.length cap3] 93) :: Rr) Z w) (hZ : Z.on w) : Calls Tryd.prog 93 #[.pointer (some ⟨b1, 0, none⟩), .int .i64 u1] w fun e w' => ∃ (ao1001 : Option Addr) (cap1002 : Nat) (Z' : Fz), e = .returned (.pointer (some ⟨b1, 0, none⟩)) ∧ Fz.le Z Z' ∧ SlR (tyInt .u32) Z' ao1001 cap1002 (gsetiS u0 u1).abs ∧ Mem B [] w0 Z0 ((.row b1 [.bool (gsetiS u0 u1).neg, .slice ao1001 (gsetiS u0 u1).abs.length cap1002] 93) :: Rr) Z' w' :=
  (gseti_walk u0 u1 b1 ao2 cap3 B w0 Z0 Rr Z w hs4 hM0 hZ (gseti_ok u0 u1 hpre)).mono fun _ _ ⟨r, h0, h1, h2, he, hk, f0, f1, hm⟩ => by subst hk; exact ⟨h0, h1, h2, he, f0, f1, hm⟩

theorem glsh_fun (u0 : BInt) (u1 : BInt) (u2 : Int) (hpre : u1.neg = false ∧ wok u1.abs ∧ u1.abs.length ≤ 1000 ∧ 0 ≤ u2 ∧ u2 ≤ 100000) (b1 : Nat) (ao2 : Option Addr) (cap3 : Nat) (b5 : Nat) (ao6 : Option Addr) (cap7 : Nat) (B : Nat) (w0 : World) (Z0 : Fz) (Rr : List Res) (Z : Fz) (w : World) (hs4 : SlR (tyInt .u32) Z ao2 cap3 u0.abs) (hs8 : SlR (tyInt .u32) Z ao6 cap7 u1.abs) (hM0 : Mem B [] w0 Z0 ((.row b1 [.bool u0.neg, .slice ao2 u0.abs.length cap3] 93) :: (.row b5 [.bool u1.neg, .slice ao6 u1.abs.length cap7] 93) :: Rr) Z w) (hZ : Z.on w) : Calls Tryd.prog 55 #[.pointer (some ⟨b1, 0, none⟩), .pointer (some ⟨b5, 0, none⟩), .int .u64 u2] w fun e w' => ∃ (ao1001 : Option Addr) (cap1002 : Nat) (ao1004 : Option Addr) (cap1005 : Nat) (Z' : Fz), e = .returned (.pointer (some ⟨b1, 0, none⟩)) ∧ Fz.le Z Z' ∧ SlR (tyInt .u32) Z' ao1001 cap1002 (glshS u0 u1 u2).1.abs ∧ SlR (tyInt .u32) Z' ao1004 cap1005 (glshS u0 u1 u2).2.abs ∧ Mem B [] w0 Z0 ((.row b1 [.bool (glshS u0 u1 u2).1.neg, .slice ao1001 (glshS u0 u1 u2).1.abs.length cap1002] 93) :: (.row b5 [.bool (glshS u0 u1 u2).2.neg, .slice ao1004 (glshS u0 u1 u2).2.abs.length cap1005] 93) :: Rr) Z' w' :=
  (glsh_walk u0 u1 u2 b1 ao2 cap3 b5 ao6 cap7 B w0 Z0 Rr Z w hs4 hs8 hM0 hZ (glsh_ok u0 u1 u2 hpre)).mono fun _ _ ⟨r, h0, h1, h2, h3, h4, he, hk, f0, f1, f2, hm⟩ => by subst hk; exact ⟨h0, h1, h2, h3, h4, he, f0, f1, f2, hm⟩

theorem glshA_fun (u0 : BInt) (u2 : Int) (hpre : u0.neg = false ∧ wok u0.abs ∧ u0.abs.length ≤ 1000 ∧ 0 ≤ u2 ∧ u2 ≤ 100000) (b1 : Nat) (ao2 : Option Addr) (cap3 : Nat) (B : Nat) (w0 : World) (Z0 : Fz) (Rr : List Res) (Z : Fz) (w : World) (hs4 : SlR (tyInt .u32) Z ao2 cap3 u0.abs) (hM0 : Mem B [] w0 Z0 ((.row b1 [.bool u0.neg, .slice ao2 u0.abs.length cap3] 93) :: Rr) Z w) (hZ : Z.on w) : Calls Tryd.prog 55 #[.pointer (some ⟨b1, 0, none⟩), .pointer (some ⟨b1, 0, none⟩), .int .u64 u2] w fun e w' => ∃ (ao1001 : Option Addr) (cap1002 : Nat) (Z' : Fz), e = .returned (.pointer (some ⟨b1, 0, none⟩)) ∧ Fz.le Z Z' ∧ SlR (tyInt .u32) Z' ao1001 cap1002 (glshAS u0 u2).abs ∧ Mem B [] w0 Z0 ((.row b1 [.bool (glshAS u0 u2).neg, .slice ao1001 (glshAS u0 u2).abs.length cap1002] 93) :: Rr) Z' w' :=
  (glshA_walk u0 u2 b1 ao2 cap3 B w0 Z0 Rr Z w hs4 hM0 hZ (glshA_ok u0 u2 hpre)).mono fun _ _ ⟨r, h0, h1, h2, he, hk, f0, f1, hm⟩ => by subst hk; exact ⟨h0, h1, h2, he, f0, f1, hm⟩

theorem gblen_fun (u0 : BInt) (hpre : u0.abs = ws (wv u0.abs) ∧ u0.abs.length ≤ 1000000) (b1 : Nat) (ao2 : Option Addr) (cap3 : Nat) (B : Nat) (w0 : World) (Z0 : Fz) (Rr : List Res) (Z : Fz) (w : World) (hs4 : SlR (tyInt .u32) Z ao2 cap3 u0.abs) (hM0 : Mem B [] w0 Z0 ((.row b1 [.bool u0.neg, .slice ao2 u0.abs.length cap3] 93) :: Rr) Z w) (hZ : Z.on w) : Calls Tryd.prog 59 #[.pointer (some ⟨b1, 0, none⟩)] w fun e w' => ∃ (ao1001 : Option Addr) (cap1002 : Nat) (Z' : Fz), e = .returned (.int .i64 (gblenS u0).1) ∧ Fz.le Z Z' ∧ SlR (tyInt .u32) Z' ao1001 cap1002 (gblenS u0).2.abs ∧ Mem B [] w0 Z0 ((.row b1 [.bool (gblenS u0).2.neg, .slice ao1001 (gblenS u0).2.abs.length cap1002] 93) :: Rr) Z' w' :=
  (gblen_walk u0 b1 ao2 cap3 B w0 Z0 Rr Z w hs4 hM0 hZ (gblen_ok u0 hpre)).mono fun _ _ ⟨r, h0, h1, h2, he, hk, f0, f1, hm⟩ => by subst hk; exact ⟨h0, h1, h2, he, f0, f1, hm⟩

theorem gint64_fun (u0 : BInt) (hpre : u0.neg = false ∧ wok u0.abs ∧ wv u0.abs < 9223372036854775808) (b1 : Nat) (ao2 : Option Addr) (cap3 : Nat) (B : Nat) (w0 : World) (Z0 : Fz) (Rr : List Res) (Z : Fz) (w : World) (hs4 : SlR (tyInt .u32) Z ao2 cap3 u0.abs) (hM0 : Mem B [] w0 Z0 ((.row b1 [.bool u0.neg, .slice ao2 u0.abs.length cap3] 93) :: Rr) Z w) (hZ : Z.on w) : Calls Tryd.prog 61 #[.pointer (some ⟨b1, 0, none⟩)] w fun e w' => ∃ (ao1001 : Option Addr) (cap1002 : Nat) (Z' : Fz), e = .returned (.int .i64 (gint64S u0).1) ∧ Fz.le Z Z' ∧ SlR (tyInt .u32) Z' ao1001 cap1002 (gint64S u0).2.abs ∧ Mem B [] w0 Z0 ((.row b1 [.bool (gint64S u0).2.neg, .slice ao1001 (gint64S u0).2.abs.length cap1002] 93) :: Rr) Z' w' :=
  (gint64_walk u0 b1 ao2 cap3 B w0 Z0 Rr Z w hs4 hM0 hZ (gint64_ok u0 hpre)).mono fun _ _ ⟨r, h0, h1, h2, he, hk, f0, f1, hm⟩ => by subst hk; exact ⟨h0, h1, h2, he, f0, f1, hm⟩

theorem gsetstr_fun (u0 : BInt) (u1 : List UInt8) (hpre : isRow u1 = true ∧ u1 ≠ [] ∧ u1.length ≤ 1000) (b1 : Nat) (ao2 : Option Addr) (cap3 : Nat) (B : Nat) (w0 : World) (Z0 : Fz) (Rr : List Res) (Z : Fz) (w : World) (hs4 : SlR (tyInt .u32) Z ao2 cap3 u0.abs) (hM0 : Mem B [] w0 Z0 ((.row b1 [.bool u0.neg, .slice ao2 u0.abs.length cap3] 93) :: Rr) Z w) (hZ : Z.on w) : Calls Tryd.prog 90 #[.pointer (some ⟨b1, 0, none⟩), str u1, .int .i64 2] w fun e w' => ∃ (ao1001 : Option Addr) (cap1002 : Nat) (Z' : Fz), e = .returned (.tuple #[.pointer (if (gsetstrS u0 u1).1 = true then some ⟨b1, 0, none⟩ else none), .bool (gsetstrS u0 u1).2.1]) ∧ Fz.le Z Z' ∧ SlR (tyInt .u32) Z' ao1001 cap1002 (gsetstrS u0 u1).2.2.abs ∧ Mem B [] w0 Z0 ((.row b1 [.bool (gsetstrS u0 u1).2.2.neg, .slice ao1001 (gsetstrS u0 u1).2.2.abs.length cap1002] 93) :: Rr) Z' w' :=
  (gsetstr_walk u0 u1 b1 ao2 cap3 B w0 Z0 Rr Z w hs4 hM0 hZ (gsetstr_ok u0 u1 hpre)).mono fun _ _ ⟨r, h0, h1, h2, he, hk, f0, f1, hm⟩ => by subst hk; exact ⟨h0, h1, h2, he, f0, f1, hm⟩

theorem gset_fun (u0 : BInt) (hpre : u0.neg = false ∧ u0.abs.length ≤ 1000000) (b1 : Nat) (ao2 : Option Addr) (cap3 : Nat) (B : Nat) (w0 : World) (Z0 : Fz) (Rr : List Res) (Z : Fz) (w : World) (hs4 : SlR (tyInt .u32) Z ao2 cap3 u0.abs) (hM0 : Mem B [] w0 Z0 ((.row b1 [.bool u0.neg, .slice ao2 u0.abs.length cap3] 93) :: Rr) Z w) (hZ : Z.on w) : Calls Tryd.prog 96 #[.pointer (some ⟨b1, 0, none⟩), .pointer (some ⟨b1, 0, none⟩)] w fun e w' => ∃ (ao1001 : Option Addr) (cap1002 : Nat) (Z' : Fz), e = .returned (.pointer (some ⟨b1, 0, none⟩)) ∧ Fz.le Z Z' ∧ SlR (tyInt .u32) Z' ao1001 cap1002 (gsetS u0).abs ∧ Mem B [] w0 Z0 ((.row b1 [.bool (gsetS u0).neg, .slice ao1001 (gsetS u0).abs.length cap1002] 93) :: Rr) Z' w' :=
  (gset_walk u0 b1 ao2 cap3 B w0 Z0 Rr Z w hs4 hM0 hZ (gset_ok u0 hpre)).mono fun _ _ ⟨r, h0, h1, h2, he, hk, f0, f1, hm⟩ => by subst hk; exact ⟨h0, h1, h2, he, f0, f1, hm⟩

set_option maxRecDepth 100000 in
set_option maxHeartbeats 0 in
theorem gxor_walk (u0 : BInt) (u2 : BInt) (b1 : Nat) (ao2 : Option Addr) (cap3 : Nat) (b5 : Nat) (ao6 : Option Addr) (cap7 : Nat) (B : Nat) (w0 : World) (Z0 : Fz) (Rr : List Res) (Z : Fz) (w : World) (hs4 : SlR (tyInt .u32) Z ao2 cap3 u0.abs) (hs8 : SlR (tyInt .u32) Z ao6 cap7 u2.abs) (hM0 : Mem B [] w0 Z0 ((.row b1 [.bool u0.neg, .slice ao2 u0.abs.length cap3] 93) :: (.row b5 [.bool u2.neg, .slice ao6 u2.abs.length cap7] 93) :: Rr) Z w) (hZ : Z.on w) {K : (BInt × BInt) → Prop} (hp : gxor_vc u0 u2 K) : Calls Tryd.prog 57 #[.pointer (some ⟨b1, 0, none⟩), .pointer (some ⟨b1, 0, none⟩), .pointer (some ⟨b5, 0, none⟩)] w fun e w' => ∃ (r : BInt × BInt) (ao1001 : Option Addr) (cap1002 : Nat) (ao1004 : Option Addr) (cap1005 : Nat) (Z' : Fz), e = .returned (.pointer (some ⟨b1, 0, none⟩)) ∧ K r ∧ Fz.le Z Z' ∧ SlR (tyInt .u32) Z' ao1001 cap1002 r.1.abs ∧ SlR (tyInt .u32) Z' ao1004 cap1005 r.2.abs ∧ Mem B [] w0 Z0 ((.row b1 [.bool r.1.neg, .slice ao1001 r.1.abs.length cap1002] 93) :: (.row b5 [.bool r.2.neg, .slice ao1004 r.2.abs.length cap1005] 93) :: Rr) Z' w' := by
 refine enter0 Tryd.func57 rfl rfl (by kernel_rfl) ?_; intro a0 hF0; have hle0 := Fz.le.refl Z
 have hp9 := hp (hs4.small); clear hp
 have hp10 := hp9 (hs8.small); clear hp9
 refine sqH ?_; intro hQ11Q hQ11
 refine s1 hF0 6 (.pointer none) ?_; intro a12 hF13; clear hF0
 refine nlH (hQ11 _ _ ?_); clear hQ11 hQ11Q
 have hF14 : Fr 47 [] [⟨0, [], .pointer (some ⟨b1, 0, none⟩)⟩, ⟨1, [], .pointer (some ⟨b1, 0, none⟩)⟩, ⟨2, [], .pointer (some ⟨b5, 0, none⟩)⟩] a12 := hF13.reg; clear hF13
 refine sqQH mixed (by kernel_rfl) hM0 ?_; intro hQ15Q hQ15
 refine q1 hF14 11 (.pointer (some ⟨b1, 0, none⟩)) ?_; intro a17 hF18; clear hF14
 refine q1 hF18 12 (.pointer (some ⟨b1, 0, none⟩)) ?_; intro a20 hF21; clear hF18
 refine q1 hF21 13 (.pointer (some ⟨b1, 1, none⟩)) ?_; intro a23 hF24; clear hF21
 refine qst hF24 (.slice ao2 u0.abs.length cap3) (nog rfl _) rfl (by kernel_rfl) (fun v25 hC => ld hF24 hC 0 (g := []) (b := b1) (off := 1) (cs := [.bool u0.neg, .slice ao2 u0.abs.length cap3]) (ty := 93) rfl (by kernel_rfl) (by kernel_rfl) (by kernel_rfl) (by kernel_rfl) rfl) ?_; intro a26 hF27; clear hF24
 refine q1 hF27 15 (.int .i64 (u0.abs.length : Int)) ?_; intro a29 hF30; clear hF27
 refine q1 hF30 16 (.pointer (some ⟨b5, 0, none⟩)) ?_; intro a32 hF33; clear hF30
 refine q1 hF33 17 (.pointer (some ⟨b5, 0, none⟩)) ?_; intro a35 hF36; clear hF33
 refine q1 hF36 18 (.pointer (some ⟨b5, 1, none⟩)) ?_; intro a38 hF39; clear hF36
 refine qst hF39 (.slice ao6 u2.abs.length cap7) (nog rfl _) rfl (by kernel_rfl) (fun v40 hC => ld hF39 hC 1 (g := []) (b := b5) (off := 1) (cs := [.bool u2.neg, .slice ao6 u2.abs.length cap7]) (ty := 93) rfl (by kernel_rfl) (by kernel_rfl) (by kernel_rfl) (by kernel_rfl) rfl) ?_; intro a41 hF42; clear hF39
 refine q1 hF42 20 (.int .i64 (u2.abs.length : Int)) ?_; intro a44 hF45; clear hF42
 refine qst hF45 (.int .i64 (max (u0.abs.length : Int) (u2.abs.length : Int))) (nog rfl _) rfl (by kernel_rfl) (fun v46 hC => re_ (p0 hF45 (r := .ok (.value (.int .i64 (if (u0.abs.length : Int) < (u2.abs.length : Int) then (u2.abs.length : Int) else (u0.abs.length : Int)))) v46) (by kernel_rfl)) (by rw [imax])) ?_; intro a47 hF48; clear hF45
 refine q1 hF48 22 (.int .i64 (w64 ((max (u0.abs.length : Int) (u2.abs.length : Int)) + 1))) ?_; intro a50 hF51; clear hF48
 refine q1 hF51 7 (.int .i64 (w64 ((max (u0.abs.length : Int) (u2.abs.length : Int)) + 1))) ?_; intro a53 hF54; clear hF51
 refine qnl (hQ15 _ ?_); clear hQ15 hQ15Q; intro wd55 hM56; clear hM0
 refine sqH ?_; intro hQ57Q hQ57
 refine s1 hF54 23 (.pointer (some ⟨b1, 0, none⟩)) ?_; intro a58 hF59; clear hF54
 refine s1 hF59 24 (.int .i64 (w64 ((max (u0.abs.length : Int) (u2.abs.length : Int)) + 1))) ?_; intro a60 hF61; clear hF59
 have hc62 := hp10.1; have hp63 := hp10.2; clear hp10
 refine cl hF61 94 #[.pointer (some ⟨b1, 0, none⟩), .int .i64 (w64 ((max (u0.abs.length : Int) (u2.abs.length : Int)) + 1))] (nog rfl _) rfl (by kernel_rfl) (by kernel_rfl) ?_
 obtain ⟨r68, hr69⟩ : ∃ x, (glowS u0 (w64 ((max (u0.abs.length : Int) (u2.abs.length : Int)) + 1))) = x := ⟨_, rfl⟩; have hp70 := hp63 r68 hr69; clear hp63
 have h9 := glow_fun u0 (w64 ((max (u0.abs.length : Int) (u2.abs.length : Int)) + 1)) hc62 b1 ao2 cap3 _ _ _ _ _ _ hs4 hM56 hM56.fz; rw [hr69] at h9; refine h9.mono ?_; clear h9; rintro _ wd64 ⟨ao72, cap73, ao74, cap75, Z77, rfl, hle78, hs76, hm⟩; refine ⟨_, rfl, ?_⟩; intro a65 hF66; have hM67 := hm; clear hm hM56 hF61
 replace hs4 := hs4.mono hle78
 replace hs8 := hs8.mono hle78
 replace hle0 := Fz.le.trans hle0 hle78
 have hM79 : Mem B [] w0 Z0 ((.own (tyInt .u32) 130 ao72 cap73 r68.1) :: (.row b1 [.bool r68.2.neg, .slice ao74 r68.2.abs.length cap75] 93) :: (.row b5 [.bool u2.neg, .slice ao6 u2.abs.length cap7] 93) :: Rr) Z77 wd64 := hM67; clear hM67
 have hp80 := hp70 (hM79.ownSmall 0 rfl); clear hp70
 have hp81 := hp80 (hs76.small); clear hp80
 refine s1 hF66 26 (.pointer (some ⟨b5, 0, none⟩)) ?_; intro a82 hF83; clear hF66
 refine s1 hF83 27 (.int .i64 (w64 ((max (u0.abs.length : Int) (u2.abs.length : Int)) + 1))) ?_; intro a84 hF85; clear hF83
 have hc86 := hp81.1; have hp87 := hp81.2; clear hp81
 refine cl hF85 94 #[.pointer (some ⟨b5, 0, none⟩), .int .i64 (w64 ((max (u0.abs.length : Int) (u2.abs.length : Int)) + 1))] (nog rfl _) rfl (by kernel_rfl) (by kernel_rfl) ?_
 obtain ⟨r92, hr93⟩ : ∃ x, (glowS u2 (w64 ((max (u0.abs.length : Int) (u2.abs.length : Int)) + 1))) = x := ⟨_, rfl⟩; have hp94 := hp87 r92 hr93; clear hp87
 have h9 := glow_fun u2 (w64 ((max (u0.abs.length : Int) (u2.abs.length : Int)) + 1)) hc86 b5 ao6 cap7 _ _ _ _ _ _ hs8 (hM79.perm (pk 2 rfl)) hM79.fz; rw [hr93] at h9; refine h9.mono ?_; clear h9; rintro _ wd88 ⟨ao96, cap97, ao98, cap99, Z101, rfl, hle102, hs100, hm⟩; refine ⟨_, rfl, ?_⟩; intro a89 hF90; have hM91 := hm; clear hm hM79 hF85
 replace hs4 := hs4.mono hle102
 replace hs8 := hs8.mono hle102
 replace hs76 := hs76.mono hle102
 replace hle0 := Fz.le.trans hle0 hle102
 have hM103 : Mem B [] w0 Z0 ((.own (tyInt .u32) 130 ao96 cap97 r92.1) :: (.row b5 [.bool r92.2.neg, .slice ao98 r92.2.abs.length cap99] 93) :: (.own (tyInt .u32) 130 ao72 cap73 r68.1) :: (.row b1 [.bool r68.2.neg, .slice ao74 r68.2.abs.length cap75] 93) :: Rr) Z101 wd88 := hM91; clear hM91
 have hp104 := hp94 (hM103.ownSmall 0 rfl); clear hp94
 have hp105 := hp104 (hs100.small); clear hp104
 refine s1 hF90 8 (.slice ao72 r68.1.length cap73) ?_; intro a106 hF107; clear hF90
 refine s1 hF107 9 (.slice ao96 r92.1.length cap97) ?_; intro a108 hF109; clear hF107
 refine nlH (hQ57 _ _ ?_); clear hQ57 hQ57Q
 refine wp_seq ?_
 have hF110 : Fr 47 [] [⟨0, [], .pointer (some ⟨b1, 0, none⟩)⟩, ⟨7, [], .int .i64 (w64 ((max (u0.abs.length : Int) (u2.abs.length : Int)) + 1))⟩, ⟨8, [], .slice ao72 r68.1.length cap73⟩, ⟨9, [], .slice ao96 r92.1.length cap97⟩] a108 := hF109.reg; clear hF109
 refine sqH ?_; intro hQ111Q hQ111
 refine s1 hF110 10 (.int .i64 0) ?_; intro a112 hF113; clear hF110
 refine nlH (hQ111 _ _ ?_); clear hQ111 hQ111Q
 refine wp_block ?_
 have hF114 : Fr 47 [] [⟨0, [], .pointer (some ⟨b1, 0, none⟩)⟩, ⟨7, [], .int .i64 (w64 ((max (u0.abs.length : Int) (u2.abs.length : Int)) + 1))⟩, ⟨8, [], .slice ao72 r68.1.length cap73⟩, ⟨9, [], .slice ao96 r92.1.length cap97⟩, ⟨10, [], .int .i64 0⟩] a112 := hF113.reg; clear hF113
 obtain ⟨Z116, hle117, hM118, hs119⟩ := hM103.freeze 0 rfl
 replace hs4 := hs4.mono hle117
 replace hs8 := hs8.mono hle117
 replace hs76 := hs76.mono hle117
 replace hs100 := hs100.mono hle117
 replace hle0 := Fz.le.trans hle0 hle117
 have hM120 : Mem B [] w0 Z0 ((.row b5 [.bool r92.2.neg, .slice ao98 r92.2.abs.length cap99] 93) :: (.own (tyInt .u32) 130 ao72 cap73 r68.1) :: (.row b1 [.bool r68.2.neg, .slice ao74 r68.2.abs.length cap75] 93) :: Rr) Z116 wd88 := hM118; clear hM118
 have hF121 : Fr 47 [] [⟨0, [], .pointer (some ⟨b1, 0, none⟩)⟩, ⟨7, [], .int .i64 (w64 ((max (u0.abs.length : Int) (u2.abs.length : Int)) + 1))⟩, ⟨8, [], .slice ao72 r68.1.length cap73⟩, ⟨9, [], .slice ao96 r92.1.length cap97⟩, ⟨10, [], .int .i64 0⟩] a112 := hF114.reg; clear hF114
 obtain ⟨inv115, mu115, hI124, hr123⟩ := hp105
 refine lp (ι := Int × (List Int)) (fun (s : Int × (List Int)) => [⟨0, [], .pointer (some ⟨b1, 0, none⟩)⟩, ⟨7, [], .int .i64 (w64 ((max (u0.abs.length : Int) (u2.abs.length : Int)) + 1))⟩, ⟨8, [], .slice ao72 s.2.length cap73⟩, ⟨9, [], .slice ao96 r92.1.length cap97⟩, ⟨10, [], .int .i64 s.1⟩]) (fun (s : Int × (List Int)) => ((.row b5 [.bool r92.2.neg, .slice ao98 r92.2.abs.length cap99] 93) :: (.own (tyInt .u32) 130 ao72 cap73 s.2) :: (.row b1 [.bool r68.2.neg, .slice ao74 r68.2.abs.length cap75] 93) :: Rr)) (fun (s : Int × (List Int)) => Z116) (fun (s : Int × (List Int)) => inv115 s.1 s.2) (fun (s : Int × (List Int)) => mu115 s.1 s.2) ⟨0, r68.1⟩ hI124 (by exact hF121.reg) (by exact hM120) ?_
 rintro ⟨x10, zao72⟩ hI122 a126 wd127 hF128 hM129
 have hF130 : Fr 47 [] [⟨0, [], .pointer (some ⟨b1, 0, none⟩)⟩, ⟨7, [], .int .i64 (w64 ((max (u0.abs.length : Int) (u2.abs.length : Int)) + 1))⟩, ⟨8, [], .slice ao72 zao72.length cap73⟩, ⟨9, [], .slice ao96 r92.1.length cap97⟩, ⟨10, [], .int .i64 x10⟩] a126 := hF128; clear hF128 hF121
 have hM131 : Mem B [] w0 Z0 ((.row b5 [.bool r92.2.neg, .slice ao98 r92.2.abs.length cap99] 93) :: (.own (tyInt .u32) 130 ao72 cap73 zao72) :: (.row b1 [.bool r68.2.neg, .slice ao74 r68.2.abs.length cap75] 93) :: Rr) Z116 wd127 := hM129; clear hM129 hM120
 have hp132 := hr123 x10 zao72 hI122
 refine wp_seq ?_
 refine sqH ?_; intro hQ133Q hQ133
 refine s1 hF130 29 (.int .i64 x10) ?_; intro a134 hF135; clear hF130
 refine s1 hF135 30 (.int .i64 (w64 ((max (u0.abs.length : Int) (u2.abs.length : Int)) + 1))) ?_; intro a136 hF137; clear hF135
 refine s1 hF137 31 (.bool (decide (x10 < (w64 ((max (u0.abs.length : Int) (u2.abs.length : Int)) + 1))))) ?_; intro a138 hF139; clear hF137
 refine nlH (hQ133 _ _ ?_); clear hQ133 hQ133Q
 refine cd hF139 (t := decide (x10 < (w64 ((max (u0.abs.length : Int) (u2.abs.length : Int)) + 1)))) (by kernel_rfl) (fun hb140 => ?_) (fun hb140 => ?_)
 ·
  have hp141 := hp132.1 hb140; clear hp132
  refine wp_skip ?_
  refine thn ?_
  refine wp_seq ?_
  refine wp_block ?_
  have hF142 : Fr 47 [] [⟨0, [], .pointer (some ⟨b1, 0, none⟩)⟩, ⟨7, [], .int .i64 (w64 ((max (u0.abs.length : Int) (u2.abs.length : Int)) + 1))⟩, ⟨8, [], .slice ao72 zao72.length cap73⟩, ⟨9, [], .slice ao96 r92.1.length cap97⟩, ⟨10, [], .int .i64 x10⟩] a138 := hF139.reg; clear hF139
  have hcd2_0 := hp141.1; have hp179 := hp141.2; clear hp141
  obtain ⟨qd3_0, hqd3_0⟩ : ∃ q, zao72[x10.toNat]? = some q := ⟨_, List.getElem?_eq_getElem (by omega)⟩; have hp180 := hp179 qd3_0 hqd3_0; clear hp179
  have hcd6_0 := hp180.1; have hp181 := hp180.2; clear hp180
  obtain ⟨qd6_1, hqd6_1⟩ : ∃ q, r92.1[x10.toNat]? = some q := ⟨_, List.getElem?_eq_getElem (by omega)⟩; have hp182 := hp181 qd6_1 hqd6_1; clear hp181
  have hcd9_0 := hp182.1; have hp183 := hp182.2; clear hp182
  refine any_invE mixed [[], [], [0, 1], [2], [], [], [4, 5], [6], [3, 7], [0, 1, 2, 3, 4, 5, 6, 7, 8], [0, 1, 2, 3, 4, 5, 6, 7, 8, 9]] 11 (fun S a w1 => ∃ (g147 : Nat) (b160 : Nat) (off161 : Nat) (g173 : Nat) (ud34 : Value) (ud35 : Value) (ud36 : Value) (ud37 : Value) (ud38 : Value) (ud39 : Value) (ud40 : Value) (ud41 : Value) (ud42 : Value) (ud43 : Value) (rh0 : Res) (rh1 : Res) (rh2 : Res), Fz.le Z116 Z116 ∧ Fr 47 [] [⟨0, [], .pointer (some ⟨b1, 0, none⟩)⟩, ⟨7, [], .int .i64 (w64 ((max (u0.abs.length : Int) (u2.abs.length : Int)) + 1))⟩, ⟨8, [], .slice ao72 zao72.length cap73⟩, ⟨9, [], .slice ao96 r92.1.length cap97⟩, ⟨10, [], .int .i64 x10⟩, ⟨34, [], ud34⟩, ⟨35, [], ud35⟩, ⟨36, [], ud36⟩, ⟨37, [], ud37⟩, ⟨38, [], ud38⟩, ⟨39, [], ud39⟩, ⟨40, [], ud40⟩, ⟨41, [], ud41⟩, ⟨42, [], ud42⟩, ⟨43, [], ud43⟩] a ∧ Mem B [] w0 Z0 (rh0 :: rh1 :: rh2 :: Rr) Z116 w1 ∧ (S 0 = true → ud34 = .slice ao72 zao72.length cap73) ∧ (S 1 = true → ud35 = .int .i64 x10) ∧ (S 2 = true → ud36 = .pointer (some ⟨g147, x10.toNat * 1, none⟩)) ∧ (S 3 = true → ud37 = .int .u32 qd3_0) ∧ (S 4 = true → ud38 = .slice ao96 r92.1.length cap97) ∧ (S 5 = true → ud39 = .int .i64 x10) ∧ (S 6 = true → ud40 = .pointer (some ⟨b160, off161, none⟩)) ∧ (S 7 = true → ud41 = .int .u32 qd6_1) ∧ (S 8 = true → ud42 = .int .u32 (bXor .u32 qd3_0 qd6_1)) ∧ (S 9 = true → ud43 = .pointer (some ⟨g173, x10.toNat * 1, none⟩)) ∧ (rh0 = .row b5 [.bool r92.2.neg, .slice ao98 r92.2.abs.length cap99] 93) ∧ (S 10 = false → rh1 = .own (tyInt .u32) 130 ao72 cap73 zao72) ∧ (S 10 = true → rh1 = .own (tyInt .u32) 130 ao72 cap73 (zao72.set x10.toNat (bXor .u32 qd3_0 qd6_1))) ∧ (rh2 = .row b1 [.bool r68.2.neg, .slice ao74 r68.2.abs.length cap75] 93) ∧ (S 2 = true → ao72 = some ⟨g147, 0, none⟩) ∧ (S 6 = true → PtR Z116 b160 off161 [.int .u32 qd6_1]) ∧ (S 9 = true → ao72 = some ⟨g173, 0, none⟩)) ?h0 ?hs ?hE
  case h0 =>
   have hF185 := hF142.any 34
   have hF186 := hF185.any 35
   have hF187 := hF186.any 36
   have hF188 := hF187.any 37
   have hF189 := hF188.any 38
   have hF190 := hF189.any 39
   have hF191 := hF190.any 40
   have hF192 := hF191.any 41
   have hF193 := hF192.any 42
   have hF194 := hF193.any 43
   have hM195 := (hM131.perm lpr).drew
   exact ⟨0, 0, 0, 0, a138.tmps.getD 34 undef, a138.tmps.getD 35 undef, a138.tmps.getD 36 undef, a138.tmps.getD 37 undef, a138.tmps.getD 38 undef, a138.tmps.getD 39 undef, a138.tmps.getD 40 undef, a138.tmps.getD 41 undef, a138.tmps.getD 42 undef, a138.tmps.getD 43 undef, .row b5 [.bool r92.2.neg, .slice ao98 r92.2.abs.length cap99] 93, .own (tyInt .u32) 130 ao72 cap73 zao72, .row b1 [.bool r68.2.neg, .slice ao74 r68.2.abs.length cap75] 93, Fz.le.refl _, hF194.reg, hM195, ff, ff, ff, ff, ff, ff, ff, ff, ff, ff, rfl, kf, ff, rfl, ff, ff, ff⟩
  case hs =>
   intro S hcl i o hil hi hSi hpre a w1 hI; refine Go.Sy.hid ?_; intro G hG; obtain ⟨g147, b160, off161, g173, ud34, ud35, ud36, ud37, ud38, ud39, ud40, ud41, ud42, ud43, rh0, rh1, rh2, hle184, hFx, hMx, cu34, cu35, cu36, cu37, cu38, cu39, cu40, cu41, cu42, cu43, cr0_0, cr1_0, cr1_1, cr2_0, cf0, cf1, hI⟩ := hI; have cf2 := hI; clear hI
   have hcase : i = 0 ∨ i = 1 ∨ i = 2 ∨ i = 3 ∨ i = 4 ∨ i = 5 ∨ i = 6 ∨ i = 7 ∨ i = 8 ∨ i = 9 ∨ i = 10 := by clear hi; omega
   rcases hcase with rfl | rfl | rfl | rfl | rfl | rfl | rfl | rfl | rfl | rfl | rfl
   ·
    obtain rfl := oj hi
    have hx0 := hSi
    have hx2 := ngF hcl 2 0 hx0
    have hx3 := ngF hcl 3 2 hx2
    have hx8 := ngF hcl 8 3 hx3
    have hx9 := ngF hcl 9 0 hx0
    have hx10 := ngF hcl 10 0 hx0
    obtain rfl := cr0_0
    obtain rfl := cr1_0 hx10
    obtain rfl := cr2_0
    refine hG (any_step ?_); clear hG G; intro A J hJ
    have hle0 := Fz.le.trans hle0 hle184
    have hs196 := hs4.mono hle184
    have hs197 := hs8.mono hle184
    have hs198 := hs76.mono hle184
    have hs199 := hs100.mono hle184
    have hs200 := hs119.mono hle184
    refine s1 hFx 34 (.slice ao72 zao72.length cap73) ?_; intro a201 hF202; clear hFx
    refine nl (qnI (hJ _ _ ?_)); clear hJ J
    exact ⟨g147, b160, off161, g173, .slice ao72 zao72.length cap73, ud35, ud36, ud37, ud38, ud39, ud40, ud41, ud42, ud43, .row b5 [.bool r92.2.neg, .slice ao98 r92.2.abs.length cap99] 93, .own (tyInt .u32) 130 ao72 cap73 zao72, .row b1 [.bool r68.2.neg, .slice ao74 r68.2.abs.length cap75] 93, hle184, hF202.reg, hMx.perm lpr, kf, cu35, (nt hx2), (nt hx3), cu38, cu39, cu40, cu41, (nt hx8), (nt hx9), rfl, kf, (nt hx10), rfl, (nt hx2), cf1, (nt hx9)⟩
   ·
    obtain rfl := oj hi
    have hx1 := hSi
    have hx2 := ngF hcl 2 1 hx1
    have hx3 := ngF hcl 3 2 hx2
    have hx8 := ngF hcl 8 3 hx3
    have hx9 := ngF hcl 9 1 hx1
    have hx10 := ngF hcl 10 1 hx1
    obtain rfl := cr0_0
    obtain rfl := cr1_0 hx10
    obtain rfl := cr2_0
    refine hG (any_step ?_); clear hG G; intro A J hJ
    have hle0 := Fz.le.trans hle0 hle184
    have hs204 := hs4.mono hle184
    have hs205 := hs8.mono hle184
    have hs206 := hs76.mono hle184
    have hs207 := hs100.mono hle184
    have hs208 := hs119.mono hle184
    refine s1 hFx 35 (.int .i64 x10) ?_; intro a209 hF210; clear hFx
    refine nl (qnI (hJ _ _ ?_)); clear hJ J
    exact ⟨g147, b160, off161, g173, ud34, .int .i64 x10, ud36, ud37, ud38, ud39, ud40, ud41, ud42, ud43, .row b5 [.bool r92.2.neg, .slice ao98 r92.2.abs.length cap99] 93, .own (tyInt .u32) 130 ao72 cap73 zao72, .row b1 [.bool r68.2.neg, .slice ao74 r68.2.abs.length cap75] 93, hle184, hF210.reg, hMx.perm lpr, cu34, kf, (nt hx2), (nt hx3), cu38, cu39, cu40, cu41, (nt hx8), (nt hx9), rfl, kf, (nt hx10), rfl, (nt hx2), cf1, (nt hx9)⟩
   ·
    obtain rfl := oj hi
    have hx1 := hpre 1 (by kernel_rfl)
    have hx0 := hpre 0 (by kernel_rfl)
    have hx2 := hSi
    have hx3 := ngF hcl 3 2 hx2
    have hx8 := ngF hcl 8 3 hx3
    have hx9 := ngF hcl 9 2 hx2
    have hx10 := ngF hcl 10 2 hx2
    obtain rfl := cu34 hx0
    obtain rfl := cu35 hx1
    obtain rfl := cr0_0
    obtain rfl := cr1_0 hx10
    obtain rfl := cr2_0
    refine hG (any_step ?_); clear hG G; intro A J hJ
    have hle0 := Fz.le.trans hle0 hle184
    have hs212 := hs4.mono hle184
    have hs213 := hs8.mono hle184
    have hs214 := hs76.mono hle184
    have hs215 := hs100.mono hle184
    have hs216 := hs119.mono hle184
    refine ixo hFx hMx 1 (T := (tyInt .u32)) (xs := zao72) x10 (by simpa only [List.length_set] using hcd2_0) (k := .i64) (e := 130) (bytes := 4) (nog rfl _) rfl (by kernel_rfl) rfl (by kernel_rfl) (by kernel_rfl) rfl (by kernel_rfl) ?_; intro g217 a219 hg218 hF220; clear hFx
    refine nl (qnI (hJ _ _ ?_)); clear hJ J
    exact ⟨g217, b160, off161, g173, .slice ao72 zao72.length cap73, .int .i64 x10, .pointer (some ⟨g217, x10.toNat * 1, none⟩), ud37, ud38, ud39, ud40, ud41, ud42, ud43, .row b5 [.bool r92.2.neg, .slice ao98 r92.2.abs.length cap99] 93, .own (tyInt .u32) 130 ao72 cap73 zao72, .row b1 [.bool r68.2.neg, .slice ao74 r68.2.abs.length cap75] 93, hle184, hF220.reg, hMx.perm lpr, kf, kf, kf, (nt hx3), cu38, cu39, cu40, cu41, (nt hx8), (nt hx9), rfl, kf, (nt hx10), rfl, (fun _ => hg218), cf1, (nt hx9)⟩
   ·
    obtain rfl := oj hi
    have hx2 := hpre 2 (by kernel_rfl)
    have hx1 := hcl 2 1 (by kernel_rfl) hx2
    have hx0 := hcl 2 0 (by kernel_rfl) hx2
    have hx3 := hSi
    have hx8 := ngF hcl 8 3 hx3
    have hx9 := ngF hcl 9 3 hx3
    have hx10 := ngF hcl 10 3 hx3
    obtain rfl := cu34 hx0
    obtain rfl := cu35 hx1
    obtain rfl := cu36 hx2
    obtain rfl := cr0_0
    obtain rfl := cr1_0 hx10
    obtain rfl := cr2_0
    refine hG (any_step ?_); clear hG G; intro A J hJ
    have hle0 := Fz.le.trans hle0 hle184
    have hs222 := hs4.mono hle184
    have hs223 := hs8.mono hle184
    have hs224 := hs76.mono hle184
    have hs225 := hs100.mono hle184
    have hs226 := hs119.mono hle184
    have hs227 := cf0 hx2
    obtain ⟨cs228, hT229, hcl230⟩ := own_elx hMx 1 (T := (tyInt .u32)) (xs := zao72) rfl hs227 x10.toNat hqd3_0
    obtain rfl : cs228 = ([.int .u32 qd3_0] : List Value) := hT229
    refine lc1 hFx 37 (.int .u32 qd3_0) (hcl230 0 _ rfl) rfl ?_; intro a231 hF232; clear hFx
    refine nl (qnI (hJ _ _ ?_)); clear hJ J
    exact ⟨g147, b160, off161, g173, .slice ao72 zao72.length cap73, .int .i64 x10, .pointer (some ⟨g147, x10.toNat * 1, none⟩), .int .u32 qd3_0, ud38, ud39, ud40, ud41, ud42, ud43, .row b5 [.bool r92.2.neg, .slice ao98 r92.2.abs.length cap99] 93, .own (tyInt .u32) 130 ao72 cap73 zao72, .row b1 [.bool r68.2.neg, .slice ao74 r68.2.abs.length cap75] 93, hle184, hF232.reg, hMx.perm lpr, kf, kf, kf, kf, cu38, cu39, cu40, cu41, (nt hx8), (nt hx9), rfl, kf, (nt hx10), rfl, (fun _ => hs227), cf1, (nt hx9)⟩
   ·
    obtain rfl := oj hi
    have hx4 := hSi
    have hx6 := ngF hcl 6 4 hx4
    have hx7 := ngF hcl 7 6 hx6
    have hx8 := ngF hcl 8 7 hx7
    have hx9 := ngF hcl 9 4 hx4
    have hx10 := ngF hcl 10 4 hx4
    obtain rfl := cr0_0
    obtain rfl := cr1_0 hx10
    obtain rfl := cr2_0
    refine hG (any_step ?_); clear hG G; intro A J hJ
    have hle0 := Fz.le.trans hle0 hle184
    have hs234 := hs4.mono hle184
    have hs235 := hs8.mono hle184
    have hs236 := hs76.mono hle184
    have hs237 := hs100.mono hle184
    have hs238 := hs119.mono hle184
    refine s1 hFx 38 (.slice ao96 r92.1.length cap97) ?_; intro a239 hF240; clear hFx
    refine nl (qnI (hJ _ _ ?_)); clear hJ J
    exact ⟨g147, b160, off161, g173, ud34, ud35, ud36, ud37, .slice ao96 r92.1.length cap97, ud39, ud40, ud41, ud42, ud43, .row b5 [.bool r92.2.neg, .slice ao98 r92.2.abs.length cap99] 93, .own (tyInt .u32) 130 ao72 cap73 zao72, .row b1 [.bool r68.2.neg, .slice ao74 r68.2.abs.length cap75] 93, hle184, hF240.reg, hMx.perm lpr, cu34, cu35, cu36, cu37, kf, cu39, (nt hx6), (nt hx7), (nt hx8), (nt hx9), rfl, kf, (nt hx10), rfl, cf0, (nt hx6), (nt hx9)⟩
   ·
    obtain rfl := oj hi
    have hx5 := hSi
    have hx6 := ngF hcl 6 5 hx5
    have hx7 := ngF hcl 7 6 hx6
    have hx8 := ngF hcl 8 7 hx7
    have hx9 := ngF hcl 9 5 hx5
    have hx10 := ngF hcl 10 5 hx5
    obtain rfl := cr0_0
    obtain rfl := cr1_0 hx10
    obtain rfl := cr2_0
    refine hG (any_step ?_); clear hG G; intro A J hJ
    have hle0 := Fz.le.trans hle0 hle184
    have hs242 := hs4.mono hle184
    have hs243 := hs8.mono hle184
    have hs244 := hs76.mono hle184
    have hs245 := hs100.mono hle184
    have hs246 := hs119.mono hle184
    refine s1 hFx 39 (.int .i64 x10) ?_; intro a247 hF248; clear hFx
    refine nl (qnI (hJ _ _ ?_)); clear hJ J
    exact ⟨g147, b160, off161, g173, ud34, ud35, ud36, ud37, ud38, .int .i64 x10, ud40, ud41, ud42, ud43, .row b5 [.bool r92.2.neg, .slice ao98 r92.2.abs.length cap99] 93, .own (tyInt .u32) 130 ao72 cap73 zao72, .row b1 [.bool r68.2.neg, .slice ao74 r68.2.abs.length cap75] 93, hle184, hF248.reg, hMx.perm lpr, cu34, cu35, cu36, cu37, cu38, kf, (nt hx6), (nt hx7), (nt hx8), (nt hx9), rfl, kf, (nt hx10), rfl, cf0, (nt hx6), (nt hx9)⟩
   ·
    obtain rfl := oj hi
    have hx5 := hpre 5 (by kernel_rfl)
    have hx4 := hpre 4 (by kernel_rfl)
    have hx6 := hSi
    have hx7 := ngF hcl 7 6 hx6
    have hx8 := ngF hcl 8 7 hx7
    have hx9 := ngF hcl 9 6 hx6
    have hx10 := ngF hcl 10 6 hx6
    obtain rfl := cu38 hx4
    obtain rfl := cu39 hx5
    obtain rfl := cr0_0
    obtain rfl := cr1_0 hx10
    obtain rfl := cr2_0
    refine hG (any_step ?_); clear hG G; intro A J hJ
    have hle0 := Fz.le.trans hle0 hle184
    have hs250 := hs4.mono hle184
    have hs251 := hs8.mono hle184
    have hs252 := hs76.mono hle184
    have hs253 := hs100.mono hle184
    have hs254 := hs119.mono hle184
    refine ix hFx (T := (tyInt .u32)) (xs := r92.1) hs254 x10 hcd6_0 (k := .i64) (e := 130) (bytes := 4) (nog rfl _) rfl (by kernel_rfl) rfl (by kernel_rfl) (by kernel_rfl) (by kernel_rfl) ?_; intro b255 off256 cs257 q258 a262 hq259 hP260 hT261 hF263; clear hFx
    obtain rfl : qd6_1 = q258 := oj (hqd6_1.symm.trans hq259)
    obtain rfl : cs257 = ([.int .u32 qd6_1] : List Value) := hT261
    refine nl (qnI (hJ _ _ ?_)); clear hJ J
    exact ⟨g147, b255, off256, g173, ud34, ud35, ud36, ud37, .slice ao96 r92.1.length cap97, .int .i64 x10, .pointer (some ⟨b255, off256, none⟩), ud41, ud42, ud43, .row b5 [.bool r92.2.neg, .slice ao98 r92.2.abs.length cap99] 93, .own (tyInt .u32) 130 ao72 cap73 zao72, .row b1 [.bool r68.2.neg, .slice ao74 r68.2.abs.length cap75] 93, hle184, hF263.reg, hMx.perm lpr, cu34, cu35, cu36, cu37, kf, kf, kf, (nt hx7), (nt hx8), (nt hx9), rfl, kf, (nt hx10), rfl, cf0, (fun _ => hP260), (nt hx9)⟩
   ·
    obtain rfl := oj hi
    have hx6 := hpre 6 (by kernel_rfl)
    have hx5 := hcl 6 5 (by kernel_rfl) hx6
    have hx4 := hcl 6 4 (by kernel_rfl) hx6
    have hx7 := hSi
    have hx8 := ngF hcl 8 7 hx7
    have hx9 := ngF hcl 9 7 hx7
    have hx10 := ngF hcl 10 7 hx7
    obtain rfl := cu38 hx4
    obtain rfl := cu39 hx5
    obtain rfl := cu40 hx6
    obtain rfl := cr0_0
    obtain rfl := cr1_0 hx10
    obtain rfl := cr2_0
    refine hG (any_step ?_); clear hG G; intro A J hJ
    have hle0 := Fz.le.trans hle0 hle184
    have hs265 := hs4.mono hle184
    have hs266 := hs8.mono hle184
    have hs267 := hs76.mono hle184
    have hs268 := hs100.mono hle184
    have hs269 := hs119.mono hle184
    have hs270 := cf1 hx6
    refine z1 hFx hMx 41 hs270 0 (.int .u32 qd6_1) rfl ?_; intro a271 hF272; clear hFx
    refine nl (qnI (hJ _ _ ?_)); clear hJ J
    exact ⟨g147, b160, off161, g173, ud34, ud35, ud36, ud37, .slice ao96 r92.1.length cap97, .int .i64 x10, .pointer (some ⟨b160, off161, none⟩), .int .u32 qd6_1, ud42, ud43, .row b5 [.bool r92.2.neg, .slice ao98 r92.2.abs.length cap99] 93, .own (tyInt .u32) 130 ao72 cap73 zao72, .row b1 [.bool r68.2.neg, .slice ao74 r68.2.abs.length cap75] 93, hle184, hF272.reg, hMx.perm lpr, cu34, cu35, cu36, cu37, kf, kf, kf, kf, (nt hx8), (nt hx9), rfl, kf, (nt hx10), rfl, cf0, (fun _ => hs270), (nt hx9)⟩
   ·
    obtain rfl := oj hi
    have hx7 := hpre 7 (by kernel_rfl)
    have hx3 := hpre 3 (by kernel_rfl)
    have hx6 := hcl 7 6 (by kernel_rfl) hx7
    have hx2 := hcl 3 2 (by kernel_rfl) hx3
    have hx5 := hcl 6 5 (by kernel_rfl) hx6
    have hx4 := hcl 6 4 (by kernel_rfl) hx6
    have hx1 := hcl 2 1 (by kernel_rfl) hx2
    have hx0 := hcl 2 0 (by kernel_rfl) hx2
    have hx8 := hSi
    have hx9 := ngF hcl 9 8 hx8
    have hx10 := ngF hcl 10 8 hx8
    obtain rfl := cu34 hx0
    obtain rfl := cu35 hx1
    obtain rfl := cu36 hx2
    obtain rfl := cu37 hx3
    obtain rfl := cu38 hx4
    obtain rfl := cu39 hx5
    obtain rfl := cu40 hx6
    obtain rfl := cu41 hx7
    obtain rfl := cr0_0
    obtain rfl := cr1_0 hx10
    obtain rfl := cr2_0
    refine hG (any_step ?_); clear hG G; intro A J hJ
    have hle0 := Fz.le.trans hle0 hle184
    have hs274 := hs4.mono hle184
    have hs275 := hs8.mono hle184
    have hs276 := hs76.mono hle184
    have hs277 := hs100.mono hle184
    have hs278 := hs119.mono hle184
    have hs279 := cf0 hx2
    have hs280 := cf1 hx6
    refine s1 hFx 42 (.int .u32 (bXor .u32 qd3_0 qd6_1)) ?_; intro a281 hF282; clear hFx
    refine nl (qnI (hJ _ _ ?_)); clear hJ J
    exact ⟨g147, b160, off161, g173, .slice ao72 zao72.length cap73, .int .i64 x10, .pointer (some ⟨g147, x10.toNat * 1, none⟩), .int .u32 qd3_0, .slice ao96 r92.1.length cap97, .int .i64 x10, .pointer (some ⟨b160, off161, none⟩), .int .u32 qd6_1, .int .u32 (bXor .u32 qd3_0 qd6_1), ud43, .row b5 [.bool r92.2.neg, .slice ao98 r92.2.abs.length cap99] 93, .own (tyInt .u32) 130 ao72 cap73 zao72, .row b1 [.bool r68.2.neg, .slice ao74 r68.2.abs.length cap75] 93, hle184, hF282.reg, hMx.perm lpr, kf, kf, kf, kf, kf, kf, kf, kf, kf, (nt hx9), rfl, kf, (nt hx10), rfl, (fun _ => hs279), (fun _ => hs280), (nt hx9)⟩
   ·
    obtain rfl := oj hi
    have hx8 := hpre 8 (by kernel_rfl)
    have hx7 := hpre 7 (by kernel_rfl)
    have hx6 := hpre 6 (by kernel_rfl)
    have hx5 := hpre 5 (by kernel_rfl)
    have hx4 := hpre 4 (by kernel_rfl)
    have hx3 := hpre 3 (by kernel_rfl)
    have hx2 := hpre 2 (by kernel_rfl)
    have hx1 := hpre 1 (by kernel_rfl)
    have hx0 := hpre 0 (by kernel_rfl)
    have hx9 := hSi
    have hx10 := ngF hcl 10 9 hx9
    obtain rfl := cu34 hx0
    obtain rfl := cu35 hx1
    obtain rfl := cu36 hx2
    obtain rfl := cu37 hx3
    obtain rfl := cu38 hx4
    obtain rfl := cu39 hx5
    obtain rfl := cu40 hx6
    obtain rfl := cu41 hx7
    obtain rfl := cu42 hx8
    obtain rfl := cr0_0
    obtain rfl := cr1_0 hx10
    obtain rfl := cr2_0
    refine hG (any_step ?_); clear hG G; intro A J hJ
    have hle0 := Fz.le.trans hle0 hle184
    have hs284 := hs4.mono hle184
    have hs285 := hs8.mono hle184
    have hs286 := hs76.mono hle184
    have hs287 := hs100.mono hle184
    have hs288 := hs119.mono hle184
    have hs289 := cf0 hx2
    have hs290 := cf1 hx6
    refine ixo hFx hMx 1 (T := (tyInt .u32)) (xs := zao72) x10 (by simpa only [List.length_set] using hcd9_0) (k := .i64) (e := 130) (bytes := 4) (nog rfl _) rfl (by kernel_rfl) rfl (by kernel_rfl) (by kernel_rfl) rfl (by kernel_rfl) ?_; intro g291 a293 hg292 hF294; clear hFx
    refine nl (qnI (hJ _ _ ?_)); clear hJ J
    exact ⟨g147, b160, off161, g291, .slice ao72 zao72.length cap73, .int .i64 x10, .pointer (some ⟨g147, x10.toNat * 1, none⟩), .int .u32 qd3_0, .slice ao96 r92.1.length cap97, .int .i64 x10, .pointer (some ⟨b160, off161, none⟩), .int .u32 qd6_1, .int .u32 (bXor .u32 qd3_0 qd6_1), .pointer (some ⟨g291, x10.toNat * 1, none⟩), .row b5 [.bool r92.2.neg, .slice ao98 r92.2.abs.length cap99] 93, .own (tyInt .u32) 130 ao72 cap73 zao72, .row b1 [.bool r68.2.neg, .slice ao74 r68.2.abs.length cap75] 93, hle184, hF294.reg, hMx.perm lpr, kf, kf, kf, kf, kf, kf, kf, kf, kf, kf, rfl, kf, (nt hx10), rfl, (fun _ => hs289), (fun _ => hs290), (fun _ => hg292)⟩
   ·
    obtain rfl := oj hi
    have hx9 := hpre 9 (by kernel_rfl)
    have hx8 := hpre 8 (by kernel_rfl)
    have hx7 := hpre 7 (by kernel_rfl)
    have hx6 := hpre 6 (by kernel_rfl)
    have hx5 := hpre 5 (by kernel_rfl)
    have hx4 := hpre 4 (by kernel_rfl)
    have hx3 := hpre 3 (by kernel_rfl)
    have hx2 := hpre 2 (by kernel_rfl)
    have hx1 := hpre 1 (by kernel_rfl)
    have hx0 := hpre 0 (by kernel_rfl)
    have hx10 := hSi
    obtain rfl := cu34 hx0
    obtain rfl := cu35 hx1
    obtain rfl := cu36 hx2
    obtain rfl := cu37 hx3
    obtain rfl := cu38 hx4
    obtain rfl := cu39 hx5
    obtain rfl := cu40 hx6
    obtain rfl := cu41 hx7
    obtain rfl := cu42 hx8
    obtain rfl := cu43 hx9
    obtain rfl := cr0_0
    obtain rfl := cr1_0 hx10
    obtain rfl := cr2_0
    refine hG (any_step ?_); clear hG G; intro A J hJ
    have hle0 := Fz.le.trans hle0 hle184
    have hs296 := hs4.mono hle184
    have hs297 := hs8.mono hle184
    have hs298 := hs76.mono hle184
    have hs299 := hs100.mono hle184
    have hs300 := hs119.mono hle184
    have hs301 := cf0 hx2
    have hs302 := cf1 hx6
    have hs303 := cf2 hx9
    refine sox hFx hMx 1 hs303 (T := (tyInt .u32)) (xs := zao72) x10.toNat (bXor .u32 qd3_0 qd6_1) (u := .int .u32 (bXor .u32 qd3_0 qd6_1)) (nog rfl _) rfl rfl (by kernel_rfl) rfl (by kernel_rfl) rfl (by kernel_rfl) (by first | omega | (simp only [List.length_set] at *; omega)) rfl ?_; intro wd304 hM305; clear hMx
    refine nl (qnI (hJ _ _ ?_)); clear hJ J
    exact ⟨g147, b160, off161, g173, .slice ao72 zao72.length cap73, .int .i64 x10, .pointer (some ⟨g147, x10.toNat * 1, none⟩), .int .u32 qd3_0, .slice ao96 r92.1.length cap97, .int .i64 x10, .pointer (some ⟨b160, off161, none⟩), .int .u32 qd6_1, .int .u32 (bXor .u32 qd3_0 qd6_1), .pointer (some ⟨g173, x10.toNat * 1, none⟩), .row b5 [.bool r92.2.neg, .slice ao98 r92.2.abs.length cap99] 93, .own (tyInt .u32) 130 ao72 cap73 (zao72.set x10.toNat (bXor .u32 qd3_0 qd6_1)), .row b1 [.bool r68.2.neg, .slice ao74 r68.2.abs.length cap75] 93, hle184, hFx.reg, hM305.perm lpr, kf, kf, kf, kf, kf, kf, kf, kf, kf, kf, rfl, nu, kf, rfl, (fun _ => hs301), (fun _ => hs302), (fun _ => hs303)⟩
  case hE =>
   intro S hS a307 wd308 hI; refine Go.Sy.hid ?_; intro G hG; obtain ⟨g147, b160, off161, g173, ud34, ud35, ud36, ud37, ud38, ud39, ud40, ud41, ud42, ud43, rh0, rh1, rh2, hle184, hFx, hMx, cu34, cu35, cu36, cu37, cu38, cu39, cu40, cu41, cu42, cu43, cr0_0, cr1_0, cr1_1, cr2_0, cf0, cf1, hI⟩ := hI; have cf2 := hI; clear hI; refine hG ?_; clear hG G
   obtain rfl := cu34 (hS 0 (by decide))
   obtain rfl := cu35 (hS 1 (by decide))
   obtain rfl := cu36 (hS 2 (by decide))
   obtain rfl := cu37 (hS 3 (by decide))
   obtain rfl := cu38 (hS 4 (by decide))
   obtain rfl := cu39 (hS 5 (by decide))
   obtain rfl := cu40 (hS 6 (by decide))
   obtain rfl := cu41 (hS 7 (by decide))
   obtain rfl := cu42 (hS 8 (by decide))
   obtain rfl := cu43 (hS 9 (by decide))
   obtain rfl := cr0_0
   obtain rfl := cr1_1 (hS 10 (by decide))
   obtain rfl := cr2_0
   have hle0 := Fz.le.trans hle0 hle184
   have hs309 := hs4.mono hle184
   have hs310 := hs8.mono hle184
   have hs311 := hs76.mono hle184
   have hs312 := hs100.mono hle184
   have hs313 := hs119.mono hle184
   have hs314 := cf0 (hS 2 (by decide))
   have hs315 := cf1 (hS 6 (by decide))
   have hs316 := cf2 (hS 9 (by decide))
   have hl317 : (zao72.set x10.toNat (bXor .u32 qd3_0 qd6_1)).length = zao72.length := by simp; try omega
   have hF318 : Fr 47 [] [⟨0, [], .pointer (some ⟨b1, 0, none⟩)⟩, ⟨7, [], .int .i64 (w64 ((max (u0.abs.length : Int) (u2.abs.length : Int)) + 1))⟩, ⟨8, [], .slice ao72 (zao72.set x10.toNat (bXor .u32 qd3_0 qd6_1)).length cap73⟩, ⟨9, [], .slice ao96 r92.1.length cap97⟩, ⟨10, [], .int .i64 x10⟩, ⟨34, [], .slice ao72 (zao72.set x10.toNat (bXor .u32 qd3_0 qd6_1)).length cap73⟩, ⟨35, [], .int .i64 x10⟩, ⟨36, [], .pointer (some ⟨g147, x10.toNat * 1, none⟩)⟩, ⟨37, [], .int .u32 qd3_0⟩, ⟨38, [], .slice ao96 r92.1.length cap97⟩, ⟨39, [], .int .i64 x10⟩, ⟨40, [], .pointer (some ⟨b160, off161, none⟩)⟩, ⟨41, [], .int .u32 qd6_1⟩, ⟨42, [], .int .u32 (bXor .u32 qd3_0 qd6_1)⟩, ⟨43, [], .pointer (some ⟨g173, x10.toNat * 1, none⟩)⟩] a307 := by rw [hl317]; exact hFx.reg
   clear hFx
   refine ibn ?_
   refine thn ?_
   have hF319 : Fr 47 [] [⟨0, [], .pointer (some ⟨b1, 0, none⟩)⟩, ⟨7, [], .int .i64 (w64 ((max (u0.abs.length : Int) (u2.abs.length : Int)) + 1))⟩, ⟨8, [], .slice ao72 (zao72.set x10.toNat (bXor .u32 qd3_0 qd6_1)).length cap73⟩, ⟨9, [], .slice ao96 r92.1.length cap97⟩, ⟨10, [], .int .i64 x10⟩] a307 := hF318.reg; clear hF318
   refine rgH ?_; intro hQ320Q hQ320
   refine s1 hF319 32 (.int .i64 x10) ?_; intro a321 hF322; clear hF319
   refine s1 hF322 33 (.int .i64 (w64 (x10 + 1))) ?_; intro a323 hF324; clear hF322
   refine s1 hF324 10 (.int .i64 (w64 (x10 + 1))) ?_; intro a325 hF326; clear hF324
   refine nlH (hQ320 _ _ ?_); clear hQ320 hQ320Q
   refine rd ?_
   exact ⟨⟨w64 (x10 + 1), zao72.set x10.toNat (bXor .u32 qd3_0 qd6_1)⟩, hp183.1, hp183.2, (hF326.reg).anyβ _ (by kernel_rfl), hMx.keep (List.Sublist.cons_cons _ (List.Sublist.cons_cons _ (List.Sublist.cons_cons _ (List.Sublist.refl _))))⟩
 ·
  have hp327 := hp132.2 hb140; clear hp132
  refine wp_exit ?_
  refine thx ?_
  refine thx ?_
  refine ibx ?_
  refine thn ?_
  refine sqH ?_; intro hQ328Q hQ328
  refine s1 hF139 44 (.pointer (some ⟨b1, 0, none⟩)) ?_; intro a329 hF330; clear hF139
  refine s1 hF330 45 (.slice ao72 zao72.length cap73) ?_; intro a331 hF332; clear hF330
  have hc333 := hp327.1; have hp334 := hp327.2; clear hp327
  refine cl hF332 95 #[.pointer (some ⟨b1, 0, none⟩), .slice ao72 zao72.length cap73] (nog rfl _) rfl (by kernel_rfl) (by kernel_rfl) ?_
  obtain ⟨r339, hr340⟩ : ∃ x, (gofS r68.2 zao72) = x := ⟨_, rfl⟩; have hp341 := hp334 r339 hr340; clear hp334
  have h9 := gof_fun r68.2 zao72 hc333 b1 ao74 cap75 ao72 cap73 _ _ _ _ _ _ hs76 (hM131.perm ((pk 2 rfl).trans (((pk 1 rfl).trans (lpr.cons _)).cons _))) hM131.fz; rw [hr340] at h9; refine h9.mono ?_; clear h9; rintro _ wd335 ⟨ao343, cap344, Z346, rfl, hle347, hs345, hm⟩; refine ⟨_, rfl, ?_⟩; intro a336 hF337; have hM338 := hm; clear hm hM131 hF332
  replace hs4 := hs4.mono hle347
  replace hs8 := hs8.mono hle347
  replace hs76 := hs76.mono hle347
  replace hs100 := hs100.mono hle347
  replace hs119 := hs119.mono hle347
  replace hle0 := Fz.le.trans hle0 hle347
  have hM348 : Mem B [] w0 Z0 ((.row b1 [.bool r339.neg, .slice ao343 r339.abs.length cap344] 93) :: (.row b5 [.bool r92.2.neg, .slice ao98 r92.2.abs.length cap99] 93) :: Rr) Z346 wd335 := hM338; clear hM338
  have hp349 := hp341 (hs345.small); clear hp341
  refine s1 hF337 6 (.pointer (some ⟨b1, 0, none⟩)) ?_; intro a350 hF351; clear hF337
  refine nlH (hQ328 _ _ ?_); clear hQ328 hQ328Q
  refine wp_ret ?_
  refine rt (fn := Tryd.f57) (v := .pointer (some ⟨b1, 0, none⟩)) hF351 (re1 hF351 (fn := Tryd.f57) rfl (by kernel_rfl)) ?_
  exact ⟨(r339, r92.2), ao343, cap344, ao98, cap99, Z346, rfl, hp349, hle0, hs345, hs100, hM348.keep (List.Sublist.cons_cons _ (List.Sublist.cons_cons _ (List.Sublist.refl _)))⟩

set_option maxRecDepth 100000 in
set_option maxHeartbeats 0 in
theorem gsetbit_walk (u0 : BInt) (u2 : Int) (u3 : Int) (b1 : Nat) (ao2 : Option Addr) (cap3 : Nat) (B : Nat) (w0 : World) (Z0 : Fz) (Rr : List Res) (Z : Fz) (w : World) (hs4 : SlR (tyInt .u32) Z ao2 cap3 u0.abs) (hM0 : Mem B [] w0 Z0 ((.row b1 [.bool u0.neg, .slice ao2 u0.abs.length cap3] 93) :: Rr) Z w) (hZ : Z.on w) {K : BInt → Prop} (hp : gsetbit_vc u0 u2 u3 K) : Calls Tryd.prog 58 #[.pointer (some ⟨b1, 0, none⟩), .pointer (some ⟨b1, 0, none⟩), .int .i64 u2, .int .u64 u3] w fun e w' => ∃ (r : BInt) (ao1001 : Option Addr) (cap1002 : Nat) (Z' : Fz), e = .returned (.pointer (some ⟨b1, 0, none⟩)) ∧ K r ∧ Fz.le Z Z' ∧ SlR (tyInt .u32) Z' ao1001 cap1002 r.abs ∧ Mem B [] w0 Z0 ((.row b1 [.bool r.neg, .slice ao1001 r.abs.length cap1002] 93) :: Rr) Z' w' := by
 refine enter0 Tryd.func58 rfl rfl (by kernel_rfl) ?_; intro a0 hF0; have hle0 := Fz.le.refl Z
 have hp5 := hp (hs4.small); clear hp
 refine sqH ?_; intro hQ6Q hQ6
 refine s1 hF0 8 (.pointer none) ?_; intro a7 hF8; clear hF0
 refine nlH (hQ6 _ _ ?_); clear hQ6 hQ6Q
 refine wp_seq ?_
 refine sqH ?_; intro hQ9Q hQ9
 refine s1 hF8 11 (.int .i64 u2) ?_; intro a10 hF11; clear hF8
 refine s1 hF11 12 (.bool (decide (u2 < 0))) ?_; intro a12 hF13; clear hF11
 refine nlH (hQ9 _ _ ?_); clear hQ9 hQ9Q
 refine cd hF13 (t := decide (u2 < 0)) (by kernel_rfl) (fun hb14 => ?_) (fun hb14 => ?_)
 ·
  have hp15 := hp5.1 hb14; clear hp5
  refine sqH ?_; intro hQ16Q hQ16
  refine s1 hF13 13 (.pointer (some ⟨b1, 0, none⟩)) ?_; intro a17 hF18; clear hF13
  refine s1 hF18 14 (.pointer (some ⟨b1, 0, none⟩)) ?_; intro a19 hF20; clear hF18
  have hc21 := hp15.1; have hp22 := hp15.2; clear hp15
  refine cl hF20 96 #[.pointer (some ⟨b1, 0, none⟩), .pointer (some ⟨b1, 0, none⟩)] (nog rfl _) rfl (by kernel_rfl) (by kernel_rfl) ?_
  obtain ⟨r27, hr28⟩ : ∃ x, (gsetS u0) = x := ⟨_, rfl⟩; have hp29 := hp22 r27 hr28; clear hp22
  have h9 := gset_fun u0 hc21 b1 ao2 cap3 _ _ _ _ _ _ hs4 hM0 hM0.fz; rw [hr28] at h9; refine h9.mono ?_; clear h9; rintro _ wd23 ⟨ao31, cap32, Z34, rfl, hle35, hs33, hm⟩; refine ⟨_, rfl, ?_⟩; intro a24 hF25; have hM26 := hm; clear hm hM0 hF20
  replace hs4 := hs4.mono hle35
  replace hle0 := Fz.le.trans hle0 hle35
  have hM36 : Mem B [] w0 Z0 ((.row b1 [.bool r27.neg, .slice ao31 r27.abs.length cap32] 93) :: Rr) Z34 wd23 := hM26; clear hM26
  have hp37 := hp29 (hs33.small); clear hp29
  refine s1 hF25 8 (.pointer (some ⟨b1, 0, none⟩)) ?_; intro a38 hF39; clear hF25
  refine nlH (hQ16 _ _ ?_); clear hQ16 hQ16Q
  refine wp_ret ?_
  refine thr ?_
  refine rt (fn := Tryd.f58) (v := .pointer (some ⟨b1, 0, none⟩)) hF39 (re1 hF39 (fn := Tryd.f58) rfl (by kernel_rfl)) ?_
  exact ⟨r27, ao31, cap32, Z34, rfl, hp37, hle0, hs33, hM36.keep (List.Sublist.cons_cons _ (List.Sublist.refl _))⟩
 ·
  have hp40 := hp5.2 hb14; clear hp5
  refine wp_skip ?_
  refine thn ?_
  refine sqH ?_; intro hQ41Q hQ41
  refine s1 hF13 16 (.pointer (some ⟨b1, 0, none⟩)) ?_; intro a42 hF43; clear hF13
  refine s1 hF43 17 (.pointer (some ⟨b1, 0, none⟩)) ?_; intro a44 hF45; clear hF43
  refine s1 hF45 18 (.pointer (some ⟨b1, 1, none⟩)) ?_; intro a46 hF47; clear hF45
  refine l1 hF47 hM0 19 0 1 (.slice ao2 u0.abs.length cap3) rfl rfl ?_; intro a48 hF49; clear hF47
  refine s1 hF49 20 (.int .i64 (u0.abs.length : Int)) ?_; intro a50 hF51; clear hF49
  refine s1 hF51 21 (.int .i64 u2) ?_; intro a52 hF53; clear hF51
  refine s1 hF53 22 (.int .i64 (w64 (u2.tdiv 32))) ?_; intro a54 hF55; clear hF53
  refine s1 hF55 23 (.int .i64 (w64 ((w64 (u2.tdiv 32)) + 1))) ?_; intro a56 hF57; clear hF55
  refine st hF57 (.int .i64 (max (u0.abs.length : Int) (w64 ((w64 (u2.tdiv 32)) + 1)))) (nog rfl _) rfl (by kernel_rfl) (re_ (p0 hF57 (r := .ok (.value (.int .i64 (if (u0.abs.length : Int) < (w64 ((w64 (u2.tdiv 32)) + 1)) then (w64 ((w64 (u2.tdiv 32)) + 1)) else (u0.abs.length : Int)))) w) (by kernel_rfl)) (by rw [imax])) ?_; intro a58 hF59; clear hF57
  refine s1 hF59 25 (.int .i64 (w64 ((max (u0.abs.length : Int) (w64 ((w64 (u2.tdiv 32)) + 1))) + 1))) ?_; intro a60 hF61; clear hF59
  refine s1 hF61 9 (.int .i64 (w64 ((max (u0.abs.length : Int) (w64 ((w64 (u2.tdiv 32)) + 1))) + 1))) ?_; intro a62 hF63; clear hF61
  refine nlH (hQ41 _ _ ?_); clear hQ41 hQ41Q
  have hF64 : Fr 57 [] [⟨0, [], .pointer (some ⟨b1, 0, none⟩)⟩, ⟨1, [], .pointer (some ⟨b1, 0, none⟩)⟩, ⟨2, [], .int .i64 u2⟩, ⟨3, [], .int .u64 u3⟩, ⟨9, [], .int .i64 (w64 ((max (u0.abs.length : Int) (w64 ((w64 (u2.tdiv 32)) + 1))) + 1))⟩] a62 := hF63.reg; clear hF63
  refine sqH ?_; intro hQ65Q hQ65
  refine s1 hF64 26 (.pointer (some ⟨b1, 0, none⟩)) ?_; intro a66 hF67; clear hF64
  refine s1 hF67 27 (.int .i64 (w64 ((max (u0.abs.length : Int) (w64 ((w64 (u2.tdiv 32)) + 1))) + 1))) ?_; intro a68 hF69; clear hF67
  have hc70 := hp40.1; have hp71 := hp40.2; clear hp40
  refine cl hF69 94 #[.pointer (some ⟨b1, 0, none⟩), .int .i64 (w64 ((max (u0.abs.length : Int) (w64 ((w64 (u2.tdiv 32)) + 1))) + 1))] (nog rfl _) rfl (by kernel_rfl) (by kernel_rfl) ?_
  obtain ⟨r76, hr77⟩ : ∃ x, (glowS u0 (w64 ((max (u0.abs.length : Int) (w64 ((w64 (u2.tdiv 32)) + 1))) + 1))) = x := ⟨_, rfl⟩; have hp78 := hp71 r76 hr77; clear hp71
  have h9 := glow_fun u0 (w64 ((max (u0.abs.length : Int) (w64 ((w64 (u2.tdiv 32)) + 1))) + 1)) hc70 b1 ao2 cap3 _ _ _ _ _ _ hs4 hM0 hM0.fz; rw [hr77] at h9; refine h9.mono ?_; clear h9; rintro _ wd72 ⟨ao80, cap81, ao82, cap83, Z85, rfl, hle86, hs84, hm⟩; refine ⟨_, rfl, ?_⟩; intro a73 hF74; have hM75 := hm; clear hm hM0 hF69
  replace hs4 := hs4.mono hle86
  replace hle0 := Fz.le.trans hle0 hle86
  have hM87 : Mem B [] w0 Z0 ((.own (tyInt .u32) 130 ao80 cap81 r76.1) :: (.row b1 [.bool r76.2.neg, .slice ao82 r76.2.abs.length cap83] 93) :: Rr) Z85 wd72 := hM75; clear hM75
  have hp88 := hp78 (hM87.ownSmall 0 rfl); clear hp78
  have hp89 := hp88 (hs84.small); clear hp88
  refine s1 hF74 10 (.slice ao80 r76.1.length cap81) ?_; intro a90 hF91; clear hF74
  refine nlH (hQ65 _ _ ?_); clear hQ65 hQ65Q
  refine sqH ?_; intro hQ92Q hQ92
  refine s1 hF91 29 (.slice ao80 r76.1.length cap81) ?_; intro a93 hF94; clear hF91
  refine s1 hF94 30 (.int .i64 u2) ?_; intro a95 hF96; clear hF94
  refine s1 hF96 31 (.int .i64 (w64 (u2.tdiv 32))) ?_; intro a97 hF98; clear hF96
  have hc99 := hp89.1; have hp100 := hp89.2; clear hp89
  refine ixo hF98 hM87 0 (T := (tyInt .u32)) (xs := r76.1) (w64 (u2.tdiv 32)) hc99 (k := .i64) (e := 130) (bytes := 4) (nog rfl _) rfl (by kernel_rfl) rfl (by kernel_rfl) (by kernel_rfl) rfl (by kernel_rfl) ?_; intro g101 a103 hg102 hF104; clear hF98
  subst hg102
  have hF105 : Fr 57 [] [⟨0, [], .pointer (some ⟨b1, 0, none⟩)⟩, ⟨1, [], .pointer (some ⟨b1, 0, none⟩)⟩, ⟨2, [], .int .i64 u2⟩, ⟨3, [], .int .u64 u3⟩, ⟨9, [], .int .i64 (w64 ((max (u0.abs.length : Int) (w64 ((w64 (u2.tdiv 32)) + 1))) + 1))⟩, ⟨10, [], .slice (some ⟨g101, 0, none⟩) r76.1.length cap81⟩, ⟨26, [], .pointer (some ⟨b1, 0, none⟩)⟩, ⟨27, [], .int .i64 (w64 ((max (u0.abs.length : Int) (w64 ((w64 (u2.tdiv 32)) + 1))) + 1))⟩, ⟨28, [], .slice (some ⟨g101, 0, none⟩) r76.1.length cap81⟩, ⟨29, [], .slice (some ⟨g101, 0, none⟩) r76.1.length cap81⟩, ⟨30, [], .int .i64 u2⟩, ⟨31, [], .int .i64 (w64 (u2.tdiv 32))⟩, ⟨32, [], .pointer (some ⟨g101, (w64 (u2.tdiv 32)).toNat * 1, none⟩)⟩] a103 := hF104.reg; clear hF104
  have hM106 : Mem B [] w0 Z0 ((.own (tyInt .u32) 130 (some ⟨g101, 0, none⟩) cap81 r76.1) :: (.row b1 [.bool r76.2.neg, .slice ao82 r76.2.abs.length cap83] 93) :: Rr) Z85 wd72 := hM87; clear hM87
  obtain ⟨q107, hq108⟩ : ∃ q, r76.1[(w64 (u2.tdiv 32)).toNat]? = some q := ⟨_, List.getElem?_eq_getElem (by first | omega | (simp only [List.length_set] at *; omega))⟩; have hp109 := hp100 q107 hq108; clear hp100
  obtain ⟨cs110, hT111, hcl112⟩ := own_el hM106 0 (T := (tyInt .u32)) (xs := r76.1) rfl (w64 (u2.tdiv 32)).toNat hq108
  obtain rfl : cs110 = ([.int .u32 q107] : List Value) := hT111
  refine lc1 hF105 33 (.int .u32 q107) (hcl112 0 _ rfl) rfl ?_; intro a113 hF114; clear hF105
  refine s1 hF114 34 (.int .i64 u2) ?_; intro a115 hF116; clear hF114
  refine s1 hF116 35 (.int .u64 (wu64 u2)) ?_; intro a117 hF118; clear hF116
  refine s1 hF118 36 (.int .u64 ((wu64 u2).tmod 32)) ?_; intro a119 hF120; clear hF118
  have hc121 := hp109.1; have hp122 := hp109.2; clear hp109
  refine st hF120 (.int .u32 (bShl .u32 1 ((wu64 u2).tmod 32))) (nog rfl _) rfl (by kernel_rfl) (shl_run hF120 (g := []) (k' := .u64) rfl (by kernel_rfl) (by kernel_rfl) hc121 rfl) ?_; intro a123 hF124; clear hF120
  refine s1 hF124 38 (.int .u32 (bAndNot .u32 q107 (bShl .u32 1 ((wu64 u2).tmod 32)))) ?_; intro a125 hF126; clear hF124
  have hc127 := hp122.1; have hp128 := hp122.2; clear hp122
  refine ixo hF126 hM106 0 (T := (tyInt .u32)) (xs := r76.1) (w64 (u2.tdiv 32)) hc127 (k := .i64) (e := 130) (bytes := 4) (nog rfl _) rfl (by kernel_rfl) rfl (by kernel_rfl) (by kernel_rfl) rfl (by kernel_rfl) ?_; intro g129 a131 hg130 hF132; clear hF126
  obtain rfl : g101 = g129 := by simpa using hg130
  have hF133 : Fr 57 [] [⟨0, [], .pointer (some ⟨b1, 0, none⟩)⟩, ⟨1, [], .pointer (some ⟨b1, 0, none⟩)⟩, ⟨2, [], .int .i64 u2⟩, ⟨3, [], .int .u64 u3⟩, ⟨9, [], .int .i64 (w64 ((max (u0.abs.length : Int) (w64 ((w64 (u2.tdiv 32)) + 1))) + 1))⟩, ⟨10, [], .slice (some ⟨g101, 0, none⟩) r76.1.length cap81⟩, ⟨26, [], .pointer (some ⟨b1, 0, none⟩)⟩, ⟨27, [], .int .i64 (w64 ((max (u0.abs.length : Int) (w64 ((w64 (u2.tdiv 32)) + 1))) + 1))⟩, ⟨28, [], .slice (some ⟨g101, 0, none⟩) r76.1.length cap81⟩, ⟨29, [], .slice (some ⟨g101, 0, none⟩) r76.1.length cap81⟩, ⟨30, [], .int .i64 u2⟩, ⟨31, [], .int .i64 (w64 (u2.tdiv 32))⟩, ⟨32, [], .pointer (some ⟨g101, (w64 (u2.tdiv 32)).toNat * 1, none⟩)⟩, ⟨33, [], .int .u32 q107⟩, ⟨34, [], .int .i64 u2⟩, ⟨35, [], .int .u64 (wu64 u2)⟩, ⟨36, [], .int .u64 ((wu64 u2).tmod 32)⟩, ⟨37, [], .int .u32 (bShl .u32 1 ((wu64 u2).tmod 32))⟩, ⟨38, [], .int .u32 (bAndNot .u32 q107 (bShl .u32 1 ((wu64 u2).tmod 32)))⟩, ⟨39, [], .pointer (some ⟨g101, (w64 (u2.tdiv 32)).toNat * 1, none⟩)⟩] a131 := hF132.reg; clear hF132
  have hM134 : Mem B [] w0 Z0 ((.own (tyInt .u32) 130 (some ⟨g101, 0, none⟩) cap81 r76.1) :: (.row b1 [.bool r76.2.neg, .slice ao82 r76.2.abs.length cap83] 93) :: Rr) Z85 wd72 := hM106; clear hM106
  refine so hF133 hM134 0 (T := (tyInt .u32)) (xs := r76.1) (w64 (u2.tdiv 32)).toNat (bAndNot .u32 q107 (bShl .u32 1 ((wu64 u2).tmod 32))) (u := .int .u32 (bAndNot .u32 q107 (bShl .u32 1 ((wu64 u2).tmod 32)))) (nog rfl _) rfl rfl (by kernel_rfl) rfl (by kernel_rfl) rfl (by kernel_rfl) (by first | omega | (simp only [List.length_set] at *; omega)) rfl ?_; intro wd135 hM136; clear hM134
  have hF137 : Fr 57 [] [⟨0, [], .pointer (some ⟨b1, 0, none⟩)⟩, ⟨1, [], .pointer (some ⟨b1, 0, none⟩)⟩, ⟨2, [], .int .i64 u2⟩, ⟨3, [], .int .u64 u3⟩, ⟨9, [], .int .i64 (w64 ((max (u0.abs.length : Int) (w64 ((w64 (u2.tdiv 32)) + 1))) + 1))⟩, ⟨10, [], .slice (some ⟨g101, 0, none⟩) (r76.1.set (w64 (u2.tdiv 32)).toNat (bAndNot .u32 q107 (bShl .u32 1 ((wu64 u2).tmod 32)))).length cap81⟩, ⟨26, [], .pointer (some ⟨b1, 0, none⟩)⟩, ⟨27, [], .int .i64 (w64 ((max (u0.abs.length : Int) (w64 ((w64 (u2.tdiv 32)) + 1))) + 1))⟩, ⟨28, [], .slice (some ⟨g101, 0, none⟩) (r76.1.set (w64 (u2.tdiv 32)).toNat (bAndNot .u32 q107 (bShl .u32 1 ((wu64 u2).tmod 32)))).length cap81⟩, ⟨29, [], .slice (some ⟨g101, 0, none⟩) (r76.1.set (w64 (u2.tdiv 32)).toNat (bAndNot .u32 q107 (bShl .u32 1 ((wu64 u2).tmod 32)))).length cap81⟩, ⟨30, [], .int .i64 u2⟩, ⟨31, [], .int .i64 (w64 (u2.tdiv 32))⟩, ⟨32, [], .pointer (some ⟨g101, (w64 (u2.tdiv 32)).toNat * 1, none⟩)⟩, ⟨33, [], .int .u32 q107⟩, ⟨34, [], .int .i64 u2⟩, ⟨35, [], .int .u64 (wu64 u2)⟩, ⟨36, [], .int .u64 ((wu64 u2).tmod 32)⟩, ⟨37, [], .int .u32 (bShl .u32 1 ((wu64 u2).tmod 32))⟩, ⟨38, [], .int .u32 (bAndNot .u32 q107 (bShl .u32 1 ((wu64 u2).tmod 32)))⟩, ⟨39, [], .pointer (some ⟨g101, (w64 (u2.tdiv 32)).toNat * 1, none⟩)⟩] a131 := by (try simp only [List.length_set] at hF133); (try simp only [List.length_set]); exact hF133.reg
  clear hF133
  have hM138 : Mem B [] w0 Z0 ((.own (tyInt .u32) 130 (some ⟨g101, 0, none⟩) cap81 (r76.1.set (w64 (u2.tdiv 32)).toNat (bAndNot .u32 q107 (bShl .u32 1 ((wu64 u2).tmod 32))))) :: (.row b1 [.bool r76.2.neg, .slice ao82 r76.2.abs.length cap83] 93) :: Rr) Z85 wd135 := hM136; clear hM136
  refine nlH (hQ92 _ _ ?_); clear hQ92 hQ92Q
  have hF139 : Fr 57 [] [⟨0, [], .pointer (some ⟨b1, 0, none⟩)⟩, ⟨2, [], .int .i64 u2⟩, ⟨3, [], .int .u64 u3⟩, ⟨10, [], .slice (some ⟨g101, 0, none⟩) (r76.1.set (w64 (u2.tdiv 32)).toNat (bAndNot .u32 q107 (bShl .u32 1 ((wu64 u2).tmod 32)))).length cap81⟩] a131 := hF137.reg; clear hF137
  refine sqH ?_; intro hQ140Q hQ140
  refine s1 hF139 40 (.slice (some ⟨g101, 0, none⟩) (r76.1.set (w64 (u2.tdiv 32)).toNat (bAndNot .u32 q107 (bShl .u32 1 ((wu64 u2).tmod 32)))).length cap81) ?_; intro a141 hF142; clear hF139
  refine s1 hF142 41 (.int .i64 u2) ?_; intro a143 hF144; clear hF142
  refine s1 hF144 42 (.int .i64 (w64 (u2.tdiv 32))) ?_; intro a145 hF146; clear hF144
  have hc147 := hp128.1; have hp148 := hp128.2; clear hp128
  refine ixo hF146 hM138 0 (T := (tyInt .u32)) (xs := r76.1.set (w64 (u2.tdiv 32)).toNat (bAndNot .u32 q107 (bShl .u32 1 ((wu64 u2).tmod 32)))) (w64 (u2.tdiv 32)) hc147 (k := .i64) (e := 130) (bytes := 4) (nog rfl _) rfl (by kernel_rfl) rfl (by kernel_rfl) (by kernel_rfl) rfl (by kernel_rfl) ?_; intro g149 a151 hg150 hF152; clear hF146
  obtain rfl : g101 = g149 := by simpa using hg150
  have hF153 : Fr 57 [] [⟨0, [], .pointer (some ⟨b1, 0, none⟩)⟩, ⟨2, [], .int .i64 u2⟩, ⟨3, [], .int .u64 u3⟩, ⟨10, [], .slice (some ⟨g101, 0, none⟩) (r76.1.set (w64 (u2.tdiv 32)).toNat (bAndNot .u32 q107 (bShl .u32 1 ((wu64 u2).tmod 32)))).length cap81⟩, ⟨40, [], .slice (some ⟨g101, 0, none⟩) (r76.1.set (w64 (u2.tdiv 32)).toNat (bAndNot .u32 q107 (bShl .u32 1 ((wu64 u2).tmod 32)))).length cap81⟩, ⟨41, [], .int .i64 u2⟩, ⟨42, [], .int .i64 (w64 (u2.tdiv 32))⟩, ⟨43, [], .pointer (some ⟨g101, (w64 (u2.tdiv 32)).toNat * 1, none⟩)⟩] a151 := hF152.reg; clear hF152
  have hM154 : Mem B [] w0 Z0 ((.own (tyInt .u32) 130 (some ⟨g101, 0, none⟩) cap81 (r76.1.set (w64 (u2.tdiv 32)).toNat (bAndNot .u32 q107 (bShl .u32 1 ((wu64 u2).tmod 32))))) :: (.row b1 [.bool r76.2.neg, .slice ao82 r76.2.abs.length cap83] 93) :: Rr) Z85 wd135 := hM138; clear hM138
  obtain ⟨q155, hq156⟩ : ∃ q, (r76.1.set (w64 (u2.tdiv 32)).toNat (bAndNot .u32 q107 (bShl .u32 1 ((wu64 u2).tmod 32))))[(w64 (u2.tdiv 32)).toNat]? = some q := ⟨_, List.getElem?_eq_getElem (by first | omega | (simp only [List.length_set] at *; omega))⟩; have hp157 := hp148 q155 hq156; clear hp148
  obtain ⟨cs158, hT159, hcl160⟩ := own_el hM154 0 (T := (tyInt .u32)) (xs := r76.1.set (w64 (u2.tdiv 32)).toNat (bAndNot .u32 q107 (bShl .u32 1 ((wu64 u2).tmod 32)))) rfl (w64 (u2.tdiv 32)).toNat hq156
  obtain rfl : cs158 = ([.int .u32 q155] : List Value) := hT159
  refine lc1 hF153 44 (.int .u32 q155) (hcl160 0 _ rfl) rfl ?_; intro a161 hF162; clear hF153
  refine s1 hF162 45 (.int .u64 u3) ?_; intro a163 hF164; clear hF162
  refine s1 hF164 46 (.int .u64 (bAnd .u64 u3 1)) ?_; intro a165 hF166; clear hF164
  refine s1 hF166 47 (.int .u32 (wu32 (bAnd .u64 u3 1))) ?_; intro a167 hF168; clear hF166
  refine s1 hF168 48 (.int .i64 u2) ?_; intro a169 hF170; clear hF168
  refine s1 hF170 49 (.int .u64 (wu64 u2)) ?_; intro a171 hF172; clear hF170
  refine s1 hF172 50 (.int .u64 ((wu64 u2).tmod 32)) ?_; intro a173 hF174; clear hF172
  have hc175 := hp157.1; have hp176 := hp157.2; clear hp157
  refine st hF174 (.int .u32 (bShl .u32 (wu32 (bAnd .u64 u3 1)) ((wu64 u2).tmod 32))) (nog rfl _) rfl (by kernel_rfl) (shl_run hF174 (g := []) (k' := .u64) rfl (by kernel_rfl) (by kernel_rfl) hc175 rfl) ?_; intro a177 hF178; clear hF174
  refine s1 hF178 52 (.int .u32 (bOr .u32 q155 (bShl .u32 (wu32 (bAnd .u64 u3 1)) ((wu64 u2).tmod 32)))) ?_; intro a179 hF180; clear hF178
  have hc181 := hp176.1; have hp182 := hp176.2; clear hp176
  refine ixo hF180 hM154 0 (T := (tyInt .u32)) (xs := r76.1.set (w64 (u2.tdiv 32)).toNat (bAndNot .u32 q107 (bShl .u32 1 ((wu64 u2).tmod 32)))) (w64 (u2.tdiv 32)) hc181 (k := .i64) (e := 130) (bytes := 4) (nog rfl _) rfl (by kernel_rfl) rfl (by kernel_rfl) (by kernel_rfl) rfl (by kernel_rfl) ?_; intro g183 a185 hg184 hF186; clear hF180
  obtain rfl : g101 = g183 := by simpa using hg184
  have hF187 : Fr 57 [] [⟨0, [], .pointer (some ⟨b1, 0, none⟩)⟩, ⟨2, [], .int .i64 u2⟩, ⟨3, [], .int .u64 u3⟩, ⟨10, [], .slice (some ⟨g101, 0, none⟩) (r76.1.set (w64 (u2.tdiv 32)).toNat (bAndNot .u32 q107 (bShl .u32 1 ((wu64 u2).tmod 32)))).length cap81⟩, ⟨40, [], .slice (some ⟨g101, 0, none⟩) (r76.1.set (w64 (u2.tdiv 32)).toNat (bAndNot .u32 q107 (bShl .u32 1 ((wu64 u2).tmod 32)))).length cap81⟩, ⟨41, [], .int .i64 u2⟩, ⟨42, [], .int .i64 (w64 (u2.tdiv 32))⟩, ⟨43, [], .pointer (some ⟨g101, (w64 (u2.tdiv 32)).toNat * 1, none⟩)⟩, ⟨44, [], .int .u32 q155⟩, ⟨45, [], .int .u64 u3⟩, ⟨46, [], .int .u64 (bAnd .u64 u3 1)⟩, ⟨47, [], .int .u32 (wu32 (bAnd .u64 u3 1))⟩, ⟨48, [], .int .i64 u2⟩, ⟨49, [], .int .u64 (wu64 u2)⟩, ⟨50, [], .int .u64 ((wu64 u2).tmod 32)⟩, ⟨51, [], .int .u32 (bShl .u32 (wu32 (bAnd .u64 u3 1)) ((wu64 u2).tmod 32))⟩, ⟨52, [], .int .u32 (bOr .u32 q155 (bShl .u32 (wu32 (bAnd .u64 u3 1)) ((wu64 u2).tmod 32)))⟩, ⟨53, [], .pointer (some ⟨g101, (w64 (u2.tdiv 32)).toNat * 1, none⟩)⟩] a185 := hF186.reg; clear hF186
  have hM188 : Mem B [] w0 Z0 ((.own (tyInt .u32) 130 (some ⟨g101, 0, none⟩) cap81 (r76.1.set (w64 (u2.tdiv 32)).toNat (bAndNot .u32 q107 (bShl .u32 1 ((wu64 u2).tmod 32))))) :: (.row b1 [.bool r76.2.neg, .slice ao82 r76.2.abs.length cap83] 93) :: Rr) Z85 wd135 := hM154; clear hM154
  refine so hF187 hM188 0 (T := (tyInt .u32)) (xs := r76.1.set (w64 (u2.tdiv 32)).toNat (bAndNot .u32 q107 (bShl .u32 1 ((wu64 u2).tmod 32)))) (w64 (u2.tdiv 32)).toNat (bOr .u32 q155 (bShl .u32 (wu32 (bAnd .u64 u3 1)) ((wu64 u2).tmod 32))) (u := .int .u32 (bOr .u32 q155 (bShl .u32 (wu32 (bAnd .u64 u3 1)) ((wu64 u2).tmod 32)))) (nog rfl _) rfl rfl (by kernel_rfl) rfl (by kernel_rfl) rfl (by kernel_rfl) (by first | omega | (simp only [List.length_set] at *; omega)) rfl ?_; intro wd189 hM190; clear hM188
  have hF191 : Fr 57 [] [⟨0, [], .pointer (some ⟨b1, 0, none⟩)⟩, ⟨2, [], .int .i64 u2⟩, ⟨3, [], .int .u64 u3⟩, ⟨10, [], .slice (some ⟨g101, 0, none⟩) ((r76.1.set (w64 (u2.tdiv 32)).toNat (bAndNot .u32 q107 (bShl .u32 1 ((wu64 u2).tmod 32)))).set (w64 (u2.tdiv 32)).toNat (bOr .u32 q155 (bShl .u32 (wu32 (bAnd .u64 u3 1)) ((wu64 u2).tmod 32)))).length cap81⟩, ⟨40, [], .slice (some ⟨g101, 0, none⟩) ((r76.1.set (w64 (u2.tdiv 32)).toNat (bAndNot .u32 q107 (bShl .u32 1 ((wu64 u2).tmod 32)))).set (w64 (u2.tdiv 32)).toNat (bOr .u32 q155 (bShl .u32 (wu32 (bAnd .u64 u3 1)) ((wu64 u2).tmod 32)))).length cap81⟩, ⟨41, [], .int .i64 u2⟩, ⟨42, [], .int .i64 (w64 (u2.tdiv 32))⟩, ⟨43, [], .pointer (some ⟨g101, (w64 (u2.tdiv 32)).toNat * 1, none⟩)⟩, ⟨44, [], .int .u32 q155⟩, ⟨45, [], .int .u64 u3⟩, ⟨46, [], .int .u64 (bAnd .u64 u3 1)⟩, ⟨47, [], .int .u32 (wu32 (bAnd .u64 u3 1))⟩, ⟨48, [], .int .i64 u2⟩, ⟨49, [], .int .u64 (wu64 u2)⟩, ⟨50, [], .int .u64 ((wu64 u2).tmod 32)⟩, ⟨51, [], .int .u32 (bShl .u32 (wu32 (bAnd .u64 u3 1)) ((wu64 u2).tmod 32))⟩, ⟨52, [], .int .u32 (bOr .u32 q155 (bShl .u32 (wu32 (bAnd .u64 u3 1)) ((wu64 u2).tmod 32)))⟩, ⟨53, [], .pointer (some ⟨g101, (w64 (u2.tdiv 32)).toNat * 1, none⟩)⟩] a185 := by (try simp only [List.length_set] at hF187); (try simp only [List.length_set]); exact hF187.reg
  clear hF187
  have hM192 : Mem B [] w0 Z0 ((.own (tyInt .u32) 130 (some ⟨g101, 0, none⟩) cap81 ((r76.1.set (w64 (u2.tdiv 32)).toNat (bAndNot .u32 q107 (bShl .u32 1 ((wu64 u2).tmod 32)))).set (w64 (u2.tdiv 32)).toNat (bOr .u32 q155 (bShl .u32 (wu32 (bAnd .u64 u3 1)) ((wu64 u2).tmod 32))))) :: (.row b1 [.bool r76.2.neg, .slice ao82 r76.2.abs.length cap83] 93) :: Rr) Z85 wd189 := hM190; clear hM190
  refine nlH (hQ140 _ _ ?_); clear hQ140 hQ140Q
  have hF193 : Fr 57 [] [⟨0, [], .pointer (some ⟨b1, 0, none⟩)⟩, ⟨10, [], .slice (some ⟨g101, 0, none⟩) ((r76.1.set (w64 (u2.tdiv 32)).toNat (bAndNot .u32 q107 (bShl .u32 1 ((wu64 u2).tmod 32)))).set (w64 (u2.tdiv 32)).toNat (bOr .u32 q155 (bShl .u32 (wu32 (bAnd .u64 u3 1)) ((wu64 u2).tmod 32)))).length cap81⟩] a185 := hF191.reg; clear hF191
  refine sqH ?_; intro hQ194Q hQ194
  refine s1 hF193 54 (.pointer (some ⟨b1, 0, none⟩)) ?_; intro a195 hF196; clear hF193
  refine s1 hF196 55 (.slice (some ⟨g101, 0, none⟩) ((r76.1.set (w64 (u2.tdiv 32)).toNat (bAndNot .u32 q107 (bShl .u32 1 ((wu64 u2).tmod 32)))).set (w64 (u2.tdiv 32)).toNat (bOr .u32 q155 (bShl .u32 (wu32 (bAnd .u64 u3 1)) ((wu64 u2).tmod 32)))).length cap81) ?_; intro a197 hF198; clear hF196
  have hc199 := hp182.1; have hp200 := hp182.2; clear hp182
  refine cl hF198 95 #[.pointer (some ⟨b1, 0, none⟩), .slice (some ⟨g101, 0, none⟩) ((r76.1.set (w64 (u2.tdiv 32)).toNat (bAndNot .u32 q107 (bShl .u32 1 ((wu64 u2).tmod 32)))).set (w64 (u2.tdiv 32)).toNat (bOr .u32 q155 (bShl .u32 (wu32 (bAnd .u64 u3 1)) ((wu64 u2).tmod 32)))).length cap81] (nog rfl _) rfl (by kernel_rfl) (by kernel_rfl) ?_
  obtain ⟨r205, hr206⟩ : ∃ x, (gofS r76.2 ((r76.1.set (w64 (u2.tdiv 32)).toNat (bAndNot .u32 q107 (bShl .u32 1 ((wu64 u2).tmod 32)))).set (w64 (u2.tdiv 32)).toNat (bOr .u32 q155 (bShl .u32 (wu32 (bAnd .u64 u3 1)) ((wu64 u2).tmod 32))))) = x := ⟨_, rfl⟩; have hp207 := hp200 r205 hr206; clear hp200
  have h9 := gof_fun r76.2 ((r76.1.set (w64 (u2.tdiv 32)).toNat (bAndNot .u32 q107 (bShl .u32 1 ((wu64 u2).tmod 32)))).set (w64 (u2.tdiv 32)).toNat (bOr .u32 q155 (bShl .u32 (wu32 (bAnd .u64 u3 1)) ((wu64 u2).tmod 32)))) hc199 b1 ao82 cap83 (some ⟨g101, 0, none⟩) cap81 _ _ _ _ _ _ hs84 (hM192.perm ((pk 1 rfl).trans (lpr.cons _))) hM192.fz; rw [hr206] at h9; refine h9.mono ?_; clear h9; rintro _ wd201 ⟨ao209, cap210, Z212, rfl, hle213, hs211, hm⟩; refine ⟨_, rfl, ?_⟩; intro a202 hF203; have hM204 := hm; clear hm hM192 hF198
  replace hs4 := hs4.mono hle213
  replace hs84 := hs84.mono hle213
  replace hle0 := Fz.le.trans hle0 hle213
  have hM214 : Mem B [] w0 Z0 ((.row b1 [.bool r205.neg, .slice ao209 r205.abs.length cap210] 93) :: Rr) Z212 wd201 := hM204; clear hM204
  have hp215 := hp207 (hs211.small); clear hp207
  refine s1 hF203 8 (.pointer (some ⟨b1, 0, none⟩)) ?_; intro a216 hF217; clear hF203
  refine nlH (hQ194 _ _ ?_); clear hQ194 hQ194Q
  refine wp_ret ?_
  refine rt (fn := Tryd.f58) (v := .pointer (some ⟨b1, 0, none⟩)) hF217 (re1 hF217 (fn := Tryd.f58) rfl (by kernel_rfl)) ?_
  exact ⟨r205, ao209, cap210, Z212, rfl, hp215, hle0, hs211, hM214.keep (List.Sublist.cons_cons _ (List.Sublist.refl _))⟩

set_option maxRecDepth 100000 in
set_option maxHeartbeats 0 in
theorem gnew_walk (u0 : Int)  (Z : Fz) (w : World)  (hZ : Z.on w) {K : BInt → Prop} (hp : gnew_vc u0 K) : Calls Tryd.prog 56 #[.int .i64 u0] w fun e w' => ∃ (r : BInt) (b1001 : Nat) (ao1002 : Option Addr) (cap1003 : Nat) (Z' : Fz), e = .returned (.pointer (some ⟨b1001, 0, none⟩)) ∧ K r ∧ SlR (tyInt .u32) Z' ao1002 cap1003 r.abs ∧ Mem w.heap.size [] w Z [.row b1001 [.bool r.neg, .slice ao1002 r.abs.length cap1003] 93] Z' w' := by
 refine enter0 Tryd.func56 rfl rfl (by kernel_rfl) ?_; intro a0 hF0; have hM0 := Mem.start w Z hZ; have hle0 := Fz.le.refl Z
 refine sqH ?_; intro hQ1Q hQ1
 refine s1 hF0 2 (.pointer none) ?_; intro a2 hF3; clear hF0
 refine nlH (hQ1 _ _ ?_); clear hQ1 hQ1Q
 refine sqH ?_; intro hQ4Q hQ4
 refine sn hF3 hM0 (fun b => .pointer (some ⟨b, 0, none⟩)) [.bool false, .slice none 0 0] 93 (nog rfl _) rfl (by kernel_rfl) (by kernel_rfl) ?_; intro b5 a6 wd8 hF7 hM9; clear hF3 hM0
 refine s1 hF7 4 (.int .i64 u0) ?_; intro a10 hF11; clear hF7
 have hc12 := hp.1; have hp13 := hp.2; clear hp
 refine cl hF11 93 #[.pointer (some ⟨b5, 0, none⟩), .int .i64 u0] (nog rfl _) rfl (by kernel_rfl) (by kernel_rfl) ?_
 obtain ⟨r18, hr19⟩ : ∃ x, (gsetiS (⟨false, []⟩ : BInt) u0) = x := ⟨_, rfl⟩; have hp20 := hp13 r18 hr19; clear hp13
 have h9 := gseti_fun (⟨false, []⟩ : BInt) u0 hc12 b5 none 0 _ _ _ _ _ _ (SlR.nil _ _) hM9 hM9.fz; rw [hr19] at h9; refine h9.mono ?_; clear h9; rintro _ wd14 ⟨ao22, cap23, Z25, rfl, hle26, hs24, hm⟩; refine ⟨_, rfl, ?_⟩; intro a15 hF16; have hM17 := hm; clear hm hM9 hF11
 replace hle0 := Fz.le.trans hle0 hle26
 have hM27 : Mem w.heap.size [] w Z [.row b5 [.bool r18.neg, .slice ao22 r18.abs.length cap23] 93] Z25 wd14 := hM17; clear hM17
 have hp28 := hp20 (hs24.small); clear hp20
 refine s1 hF16 2 (.pointer (some ⟨b5, 0, none⟩)) ?_; intro a29 hF30; clear hF16
 refine nlH (hQ4 _ _ ?_); clear hQ4 hQ4Q
 refine wp_ret ?_
 refine rt (fn := Tryd.f56) (v := .pointer (some ⟨b5, 0, none⟩)) hF30 (re1 hF30 (fn := Tryd.f56) rfl (by kernel_rfl)) ?_
 exact ⟨r18, b5, ao22, cap23, Z25, rfl, hp28, hs24, hM27.keep (List.Sublist.cons_cons _ (List.Sublist.slnil))⟩

set_option maxRecDepth 100000 in
set_option maxHeartbeats 0 in
theorem rvalue_walk (u0 : List UInt8)  (Z : Fz) (w : World)  (hZ : Z.on w) {K : BInt → Prop} (hp : rvalue_vc u0 K) : Calls Tryd.prog 54 #[str u0] w fun e w' => ∃ (r : BInt) (b1001 : Nat) (ao1002 : Option Addr) (cap1003 : Nat) (Z' : Fz), e = .returned (.pointer (some ⟨b1001, 0, none⟩)) ∧ K r ∧ SlR (tyInt .u32) Z' ao1002 cap1003 r.abs ∧ Mem w.heap.size [] w Z [.row b1001 [.bool r.neg, .slice ao1002 r.abs.length cap1003] 93] Z' w' := by
 refine enter0 Tryd.func54 rfl rfl (by kernel_rfl) ?_; intro a0 hF0; have hM0 := Mem.start w Z hZ; have hle0 := Fz.le.refl Z
 refine sqH ?_; intro hQ1Q hQ1
 refine s1 hF0 2 (.pointer none) ?_; intro a2 hF3; clear hF0
 refine nlH (hQ1 _ _ ?_); clear hQ1 hQ1Q
 refine sqH ?_; intro hQ4Q hQ4
 refine sn hF3 hM0 (fun b => .pointer (some ⟨b, 0, none⟩)) [.bool false, .slice none 0 0] 93 (nog rfl _) rfl (by kernel_rfl) (by kernel_rfl) ?_; intro b5 a6 wd8 hF7 hM9; clear hF3 hM0
 refine s1 hF7 3 (.pointer (some ⟨b5, 0, none⟩)) ?_; intro a10 hF11; clear hF7
 refine nlH (hQ4 _ _ ?_); clear hQ4 hQ4Q
 refine wp_seq ?_
 refine sqH ?_; intro hQ12Q hQ12
 refine s1 hF11 5 (str u0) ?_; intro a13 hF14; clear hF11
 refine st hF14 (.bool (u0 != ([] : List UInt8))) (nog rfl _) rfl (by kernel_rfl) (strcmp_run hF14 (g := []) (op := .neq) rfl (by kernel_rfl) (by kernel_rfl) (by decide) rfl) ?_; intro a15 hF16; clear hF14
 refine nlH (hQ12 _ _ ?_); clear hQ12 hQ12Q
 refine cd hF16 (t := u0 != ([] : List UInt8)) (by kernel_rfl) (fun hb17 => ?_) (fun hb17 => ?_)
 ·
  have hp18 := hp.1 hb17; clear hp
  refine rgH ?_; intro hQ19Q hQ19
  refine s1 hF16 7 (.pointer (some ⟨b5, 0, none⟩)) ?_; intro a20 hF21; clear hF16
  refine s1 hF21 8 (str u0) ?_; intro a22 hF23; clear hF21
  have hc24 := hp18.1; have hp25 := hp18.2; clear hp18
  refine cl hF23 90 #[.pointer (some ⟨b5, 0, none⟩), str u0, .int .i64 2] (nog rfl _) rfl (by kernel_rfl) (by kernel_rfl) ?_
  obtain ⟨r30, hr31⟩ : ∃ x, (gsetstrS (⟨false, []⟩ : BInt) u0) = x := ⟨_, rfl⟩; have hp32 := hp25 r30 hr31; clear hp25
  have h9 := gsetstr_fun (⟨false, []⟩ : BInt) u0 hc24 b5 none 0 _ _ _ _ _ _ (SlR.nil _ _) hM9 hM9.fz; rw [hr31] at h9; refine h9.mono ?_; clear h9; rintro _ wd26 ⟨ao34, cap35, Z37, rfl, hle38, hs36, hm⟩; refine ⟨_, rfl, ?_⟩; intro a27 hF28; have hM29 := hm; clear hm hM9 hF23
  replace hle0 := Fz.le.trans hle0 hle38
  have hM39 : Mem w.heap.size [] w Z [.row b5 [.bool r30.2.2.neg, .slice ao34 r30.2.2.abs.length cap35] 93] Z37 wd26 := hM29; clear hM29
  have hp40 := hp32 (hs36.small); clear hp32
  refine nlH (hQ19 _ _ ?_); clear hQ19 hQ19Q
  refine thn ?_
  refine sqH ?_; intro hQ41Q hQ41
  refine s1 hF28 10 (.pointer (some ⟨b5, 0, none⟩)) ?_; intro a42 hF43; clear hF28
  refine s1 hF43 2 (.pointer (some ⟨b5, 0, none⟩)) ?_; intro a44 hF45; clear hF43
  refine nlH (hQ41 _ _ ?_); clear hQ41 hQ41Q
  refine wp_ret ?_
  refine rt (fn := Tryd.f54) (v := .pointer (some ⟨b5, 0, none⟩)) hF45 (re1 hF45 (fn := Tryd.f54) rfl (by kernel_rfl)) ?_
  exact ⟨r30.2.2, b5, ao34, cap35, Z37, rfl, hp40, hs36, hM39.keep (List.Sublist.cons_cons _ (List.Sublist.slnil))⟩
 ·
  have hp46 := hp.2 hb17; clear hp
  refine wp_skip ?_
  refine thn ?_
  refine sqH ?_; intro hQ47Q hQ47
  refine s1 hF16 10 (.pointer (some ⟨b5, 0, none⟩)) ?_; intro a48 hF49; clear hF16
  refine s1 hF49 2 (.pointer (some ⟨b5, 0, none⟩)) ?_; intro a50 hF51; clear hF49
  refine nlH (hQ47 _ _ ?_); clear hQ47 hQ47Q
  refine wp_ret ?_
  refine rt (fn := Tryd.f54) (v := .pointer (some ⟨b5, 0, none⟩)) hF51 (re1 hF51 (fn := Tryd.f54) rfl (by kernel_rfl)) ?_
  exact ⟨(⟨false, []⟩ : BInt), b5, none, 0, Z, rfl, hp46, (SlR.nil _ _), hM9.keep (List.Sublist.cons_cons _ (List.Sublist.slnil))⟩

end Go.Proofs.YtinegicenfndkaaDoor
