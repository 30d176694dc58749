/- The walks, made by program: each call does what its pure predicate says. -/
import Derived.Test.YtinegicenfndkaaDoorPBc
import Derived.Test.YtinegicenfndkaaDoorWBb
set_option linter.unusedVariables false
set_option linter.unusedSimpArgs false
namespace Go.Proofs.YtinegicenfndkaaDoor
open Go.Sy Go.RowKit
theorem gtwin_fun (u0 : List Int) (hpre : u0.length ≤ 1000000) (ao1 : Option Addr) (cap2 : Nat) (Z : Fz) (w : World) (hs3 : SlR (tyInt .u32) Z ao1 cap2 u0) (hZ : Z.on w) : Calls Tryd.prog 125 #[.slice ao1 u0.length cap2] w fun e w' => ∃ (ao1001 : Option Addr) (cap1002 : Nat) (Z' : Fz), e = .returned (.slice ao1001 (gtwinS u0).length cap1002) ∧ Mem w.heap.size [] w Z [.own (tyInt .u32) 130 ao1001 cap1002 (gtwinS u0)] Z' w' :=
  (gtwin_walk u0 ao1 cap2 Z w hs3 hZ (gtwin_ok u0 hpre)).mono fun _ _ ⟨r, h0, h1, h2, he, hk, hm⟩ => by subst hk; exact ⟨h0, h1, h2, he, hm⟩

theorem gwords_fun (u0 : Int) (hpre : 0 ≤ u0 ∧ u0 ≤ 18446744073709551615)  (Z : Fz) (w : World)  (hZ : Z.on w) : Calls Tryd.prog 123 #[.int .u64 u0] w fun e w' => ∃ (ao1001 : Option Addr) (cap1002 : Nat) (Z' : Fz), e = .returned (.slice ao1001 (gwordsS u0).length cap1002) ∧ SlR (tyInt .u32) Z' ao1001 cap1002 (gwordsS u0) ∧ Mem w.heap.size [] w Z [] Z' w' :=
  (gwords_walk u0  Z w  hZ (gwords_ok u0 hpre)).mono fun _ _ ⟨r, h0, h1, h2, he, hk, f0, hm⟩ => by subst hk; exact ⟨h0, h1, h2, he, f0, hm⟩

theorem gadd_fun (u0 : List Int) (u1 : List Int) (hpre : wok u0 ∧ wok u1 ∧ u0.length ≤ 1000000 ∧ u1.length ≤ 1000000) (ao1 : Option Addr) (cap2 : Nat) (ao4 : Option Addr) (cap5 : Nat) (Z : Fz) (w : World) (hs3 : SlR (tyInt .u32) Z ao1 cap2 u0) (hs6 : SlR (tyInt .u32) Z ao4 cap5 u1) (hZ : Z.on w) : Calls Tryd.prog 121 #[.slice ao1 u0.length cap2, .slice ao4 u1.length cap5] w fun e w' => ∃ (ao1001 : Option Addr) (cap1002 : Nat) (Z' : Fz), e = .returned (.slice ao1001 (gaddS u0 u1).length cap1002) ∧ SlR (tyInt .u32) Z' ao1001 cap1002 (gaddS u0 u1) ∧ Mem w.heap.size [] w Z [] Z' w' :=
  (gadd_walk u0 u1 ao1 cap2 ao4 cap5 Z w hs3 hs6 hZ (gadd_ok u0 u1 hpre)).mono fun _ _ ⟨r, h0, h1, h2, he, hk, f0, hm⟩ => by subst hk; exact ⟨h0, h1, h2, he, f0, hm⟩

theorem gmul_fun (u0 : List Int) (u1 : List Int) (hpre : wok u0 ∧ wok u1 ∧ u0.length ≤ 1000 ∧ u1.length ≤ 1000) (ao1 : Option Addr) (cap2 : Nat) (ao4 : Option Addr) (cap5 : Nat) (Z : Fz) (w : World) (hs3 : SlR (tyInt .u32) Z ao1 cap2 u0) (hs6 : SlR (tyInt .u32) Z ao4 cap5 u1) (hZ : Z.on w) : Calls Tryd.prog 122 #[.slice ao1 u0.length cap2, .slice ao4 u1.length cap5] w fun e w' => ∃ (ao1001 : Option Addr) (cap1002 : Nat) (Z' : Fz), e = .returned (.slice ao1001 (gmulS u0 u1).length cap1002) ∧ SlR (tyInt .u32) Z' ao1001 cap1002 (gmulS u0 u1) ∧ Mem w.heap.size [] w Z [] Z' w' :=
  (gmul_walk u0 u1 ao1 cap2 ao4 cap5 Z w hs3 hs6 hZ (gmul_ok u0 u1 hpre)).mono fun _ _ ⟨r, h0, h1, h2, he, hk, f0, hm⟩ => by subst hk; exact ⟨h0, h1, h2, he, f0, hm⟩

theorem gleft_fun (u0 : List Int) (u1 : Int) (hpre : wok u0 ∧ u0.length ≤ 1000 ∧ 0 ≤ u1 ∧ u1 ≤ 100000) (ao1 : Option Addr) (cap2 : Nat) (Z : Fz) (w : World) (hs3 : SlR (tyInt .u32) Z ao1 cap2 u0) (hZ : Z.on w) : Calls Tryd.prog 92 #[.slice ao1 u0.length cap2, .int .u64 u1] w fun e w' => ∃ (ao1001 : Option Addr) (cap1002 : Nat) (Z' : Fz), e = .returned (.slice ao1001 (gleftS u0 u1).length cap1002) ∧ SlR (tyInt .u32) Z' ao1001 cap1002 (gleftS u0 u1) ∧ Mem w.heap.size [] w Z [] Z' w' :=
  (gleft_walk u0 u1 ao1 cap2 Z w hs3 hZ (gleft_ok u0 u1 hpre)).mono fun _ _ ⟨r, h0, h1, h2, he, hk, f0, hm⟩ => by subst hk; exact ⟨h0, h1, h2, he, f0, hm⟩

theorem glow_fun (u0 : BInt) (u1 : Int) (hpre : u0.neg = false ∧ (u0.abs.length : Int) ≤ u1 ∧ u1 ≤ 1000000) (b1 : Nat) (ao2 : Option Addr) (cap3 : Nat) (B : Nat) (w0 : World) (Z0 : Fz) (Rr : List Res) (Z : Fz) (w : World) (hs4 : SlR (tyInt .u32) Z ao2 cap3 u0.abs) (hM0 : Mem B [] w0 Z0 ((.row b1 [.bool u0.neg, .slice ao2 u0.abs.length cap3] 93) :: Rr) Z w) (hZ : Z.on w) : Calls Tryd.prog 94 #[.pointer (some ⟨b1, 0, none⟩), .int .i64 u1] w fun e w' => ∃ (ao1001 : Option Addr) (cap1002 : Nat) (ao1003 : Option Addr) (cap1004 : Nat) (Z' : Fz), e = .returned (.slice ao1001 (glowS u0 u1).1.length cap1002) ∧ Fz.le Z Z' ∧ SlR (tyInt .u32) Z' ao1003 cap1004 (glowS u0 u1).2.abs ∧ Mem B [] w0 Z0 ((.own (tyInt .u32) 130 ao1001 cap1002 (glowS u0 u1).1) :: (.row b1 [.bool (glowS u0 u1).2.neg, .slice ao1003 (glowS u0 u1).2.abs.length cap1004] 93) :: Rr) Z' w' :=
  (glow_walk u0 u1 b1 ao2 cap3 B w0 Z0 Rr Z w hs4 hM0 hZ (glow_ok u0 u1 hpre)).mono fun _ _ ⟨r, h0, h1, h2, h3, h4, he, hk, f0, f1, hm⟩ => by subst hk; exact ⟨h0, h1, h2, h3, h4, he, f0, f1, hm⟩

theorem guint64_fun (u0 : BInt) (hpre : wok u0.abs) (b1 : Nat) (ao2 : Option Addr) (cap3 : Nat) (B : Nat) (w0 : World) (Z0 : Fz) (Rr : List Res) (Z : Fz) (w : World) (hs4 : SlR (tyInt .u32) Z ao2 cap3 u0.abs) (hM0 : Mem B [] w0 Z0 ((.row b1 [.bool u0.neg, .slice ao2 u0.abs.length cap3] 93) :: Rr) Z w) (hZ : Z.on w) : Calls Tryd.prog 100 #[.pointer (some ⟨b1, 0, none⟩)] w fun e w' => ∃ (ao1001 : Option Addr) (cap1002 : Nat) (Z' : Fz), e = .returned (.int .u64 (guint64S u0).1) ∧ Fz.le Z Z' ∧ SlR (tyInt .u32) Z' ao1001 cap1002 (guint64S u0).2.abs ∧ Mem B [] w0 Z0 ((.row b1 [.bool (guint64S u0).2.neg, .slice ao1001 (guint64S u0).2.abs.length cap1002] 93) :: Rr) Z' w' :=
  (guint64_walk u0 b1 ao2 cap3 B w0 Z0 Rr Z w hs4 hM0 hZ (guint64_ok u0 hpre)).mono fun _ _ ⟨r, h0, h1, h2, he, hk, f0, f1, hm⟩ => by subst hk; exact ⟨h0, h1, h2, he, f0, f1, hm⟩

set_option maxRecDepth 100000 in
set_option maxHeartbeats 0 in
theorem gof_walk (u0 : BInt) (u1 : List Int) (b1 : Nat) (ao2 : Option Addr) (cap3 : Nat) (ao5 : Option Addr) (cap6 : Nat) (B : Nat) (w0 : World) (Z0 : Fz) (Rr : List Res) (Z : Fz) (w : World) (hs4 : SlR (tyInt .u32) Z ao2 cap3 u0.abs) (hM0 : Mem B [] w0 Z0 ((.row b1 [.bool u0.neg, .slice ao2 u0.abs.length cap3] 93) :: (.own (tyInt .u32) 130 ao5 cap6 u1) :: Rr) Z w) (hZ : Z.on w) {K : BInt → Prop} (hp : gof_vc u0 u1 K) : Calls Tryd.prog 95 #[.pointer (some ⟨b1, 0, none⟩), .slice ao5 u1.length cap6] w fun e w' => ∃ (r : BInt) (ao1001 : Option Addr) (cap1002 : Nat) (Z' : Fz), e = .returned (.pointer (some ⟨b1, 0, none⟩)) ∧ K r ∧ Fz.le Z Z' ∧ SlR (tyInt .u32) Z' ao1001 cap1002 r.abs ∧ Mem B [] w0 Z0 ((.row b1 [.bool r.neg, .slice ao1001 r.abs.length cap1002] 93) :: Rr) Z' w' := by
 refine enter0 Tryd.func95 rfl rfl (by kernel_rfl) ?_; intro a0 hF0; have hle0 := Fz.le.refl Z
 have hp7 := hp (hs4.small); clear hp
 have hp8 := hp7 (hM0.ownSmall 1 rfl); clear hp7
 refine sqH ?_; intro hQ9Q hQ9
 refine s1 hF0 4 (.pointer none) ?_; intro a10 hF11; clear hF0
 refine nlH (hQ9 _ _ ?_); clear hQ9 hQ9Q
 refine wp_seq ?_
 refine sqH ?_; intro hQ12Q hQ12
 refine s1 hF11 7 (.slice ao5 u1.length cap6) ?_; intro a13 hF14; clear hF11
 refine s1 hF14 8 (.int .i64 (u1.length : Int)) ?_; intro a15 hF16; clear hF14
 refine s1 hF16 9 (.bool (decide ((u1.length : Int) > 0))) ?_; intro a17 hF18; clear hF16
 refine s1 hF18 10 (.bool (decide ((u1.length : Int) > 0))) ?_; intro a19 hF20; clear hF18
 have hF21 := hF20.atom ((decide ((u1.length : Int) > 0)) == true) (by kernel_rfl); clear hF20
 refine gp hF21 11 0 [] (decide ((u1.length : Int) > 0)) (.slice ao5 u1.length cap6) rfl rfl ?_; intro a22 hF23; clear hF21
 refine gp hF23 12 0 [] (decide ((u1.length : Int) > 0)) (.slice ao5 u1.length cap6) rfl rfl ?_; intro a24 hF25; clear hF23
 refine gp hF25 13 0 [] (decide ((u1.length : Int) > 0)) (.int .i64 (u1.length : Int)) rfl rfl ?_; intro a26 hF27; clear hF25
 refine gp hF27 14 0 [] (decide ((u1.length : Int) > 0)) (.int .i64 (w64 ((u1.length : Int) - 1))) rfl rfl ?_; intro a28 hF29; clear hF27
 rcases Bool.eq_false_or_eq_true (decide ((u1.length : Int) > 0)) with hb30 | hb30
 ·
  have hp31 := hp8.1 hb30; clear hp8
  have hF32 := hF29.reval (d := 10) (c := []) (v := .bool (decide ((u1.length : Int) > 0))) (by kernel_rfl) (.bool true) (by rw [hb30]); clear hF29
  have hF33 := hF32.setc (d := 11) (c := [0]) (v := .slice ao5 u1.length cap6) (by kernel_rfl) (v' := .slice ao5 u1.length cap6) (by rw [hb30]; kernel_rfl); clear hF32
  have hF34 := hF33.setc (d := 12) (c := [0]) (v := .slice ao5 u1.length cap6) (by kernel_rfl) (v' := .slice ao5 u1.length cap6) (by rw [hb30]; kernel_rfl); clear hF33
  have hF35 := hF34.setc (d := 13) (c := [0]) (v := .int .i64 (u1.length : Int)) (by kernel_rfl) (v' := .int .i64 (u1.length : Int)) (by rw [hb30]; kernel_rfl); clear hF34
  have hF36 := hF35.setc (d := 14) (c := [0]) (v := .int .i64 (w64 ((u1.length : Int) - 1))) (by kernel_rfl) (v' := .int .i64 (w64 ((u1.length : Int) - 1))) (by rw [hb30]; kernel_rfl); clear hF35
  have hc37 := hp31.1; have hp38 := hp31.2; clear hp31
  refine ixo hF36 hM0 1 (T := (tyInt .u32)) (xs := u1) (w64 ((u1.length : Int) - 1)) hc37 (k := .i64) (e := 130) (bytes := 4) (by rw [wanted_of hF36 (b := true) rfl rfl (by kernel_rfl) (by kernel_rfl)]; rfl) rfl (by kernel_rfl) rfl (by kernel_rfl) (by kernel_rfl) rfl (by kernel_rfl) ?_; intro g39 a41 hg40 hF42; clear hF36
  subst hg40
  have hF43 : Fr 49 [] [⟨0, [], .pointer (some ⟨b1, 0, none⟩)⟩, ⟨1, [], .slice (some ⟨g39, 0, none⟩) u1.length cap6⟩, ⟨4, [], .pointer none⟩, ⟨7, [], .slice (some ⟨g39, 0, none⟩) u1.length cap6⟩, ⟨8, [], .int .i64 (u1.length : Int)⟩, ⟨9, [], .bool (decide ((u1.length : Int) > 0))⟩, ⟨10, [], .bool true⟩, ⟨11, [], .slice (some ⟨g39, 0, none⟩) u1.length cap6⟩, ⟨12, [], .slice (some ⟨g39, 0, none⟩) u1.length cap6⟩, ⟨13, [], .int .i64 (u1.length : Int)⟩, ⟨14, [], .int .i64 (w64 ((u1.length : Int) - 1))⟩, ⟨15, [], .pointer (some ⟨g39, (w64 ((u1.length : Int) - 1)).toNat * 1, none⟩)⟩] a41 := hF42.reg; clear hF42
  have hM44 : Mem B [] w0 Z0 ((.row b1 [.bool u0.neg, .slice ao2 u0.abs.length cap3] 93) :: (.own (tyInt .u32) 130 (some ⟨g39, 0, none⟩) cap6 u1) :: Rr) Z w := hM0; clear hM0
  obtain ⟨q45, hq46⟩ : ∃ q, u1[(w64 ((u1.length : Int) - 1)).toNat]? = some q := ⟨_, List.getElem?_eq_getElem (by first | omega | (simp only [List.length_set] at *; omega))⟩; have hp47 := hp38 q45 hq46; clear hp38
  obtain ⟨cs48, hT49, hcl50⟩ := own_el hM44 1 (T := (tyInt .u32)) (xs := u1) rfl (w64 ((u1.length : Int) - 1)).toNat hq46
  obtain rfl : cs48 = ([.int .u32 q45] : List Value) := hT49
  refine lc1 hF43 16 (.int .u32 q45) (hcl50 0 _ rfl) rfl ?_ (hw := (by rw [wanted_of hF43 (b := true) rfl rfl (by kernel_rfl) (by kernel_rfl)]; rfl)); intro a51 hF52; clear hF43
  refine st hF52 (.int .u32 (bShr .u32 q45 31)) (by rw [wanted_of hF52 (b := true) rfl rfl (by kernel_rfl) (by kernel_rfl)]; rfl) rfl (by kernel_rfl) (p0 hF52 (by kernel_rfl)) ?_; intro a53 hF54; clear hF52
  refine st hF54 (.bool ((bShr .u32 q45 31) == 1)) (by rw [wanted_of hF54 (b := true) rfl rfl (by kernel_rfl) (by kernel_rfl)]; rfl) rfl (by kernel_rfl) (p0 hF54 (by kernel_rfl)) ?_; intro a55 hF56; clear hF54
  refine s1 hF56 19 (.bool ((bShr .u32 q45 31) == 1)) ?_; intro a57 hF58; clear hF56
  refine nlH (hQ12 _ _ ?_); clear hQ12 hQ12Q
  refine cd hF58 (t := (bShr .u32 q45 31) == 1) (by kernel_rfl) (fun hb59 => ?_) (fun hb59 => ?_)
  ·
   have hp60 := hp47.1 hb59; clear hp47
   have hF61 : Fr 49 [] [⟨0, [], .pointer (some ⟨b1, 0, none⟩)⟩, ⟨1, [], .slice (some ⟨g39, 0, none⟩) u1.length cap6⟩] a57 := hF58.reg; clear hF58
   refine sqH ?_; intro hQ62Q hQ62
   refine s1 hF61 5 (.int .u64 1) ?_; intro a63 hF64; clear hF61
   refine nlH (hQ62 _ _ ?_); clear hQ62 hQ62Q
   refine wp_seq ?_
   refine sqH ?_; intro hQ65Q hQ65
   refine s1 hF64 6 (.int .i64 0) ?_; intro a66 hF67; clear hF64
   refine nlH (hQ65 _ _ ?_); clear hQ65 hQ65Q
   refine wp_block ?_
   have hF68 : Fr 49 [] [⟨0, [], .pointer (some ⟨b1, 0, none⟩)⟩, ⟨1, [], .slice (some ⟨g39, 0, none⟩) u1.length cap6⟩, ⟨5, [], .int .u64 1⟩, ⟨6, [], .int .i64 0⟩] a66 := hF67.reg; clear hF67
   have hF70 : Fr 49 [] [⟨0, [], .pointer (some ⟨b1, 0, none⟩)⟩, ⟨1, [], .slice (some ⟨g39, 0, none⟩) u1.length cap6⟩, ⟨5, [], .int .u64 1⟩, ⟨6, [], .int .i64 0⟩] a66 := hF68.reg; clear hF68
   obtain ⟨inv69, mu69, hI73, hr72⟩ := hp60
   refine lp (ι := Int × Int × (List Int)) (fun (s : Int × Int × (List Int)) => [⟨0, [], .pointer (some ⟨b1, 0, none⟩)⟩, ⟨1, [], .slice (some ⟨g39, 0, none⟩) s.2.2.length cap6⟩, ⟨5, [], .int .u64 s.1⟩, ⟨6, [], .int .i64 s.2.1⟩]) (fun (s : Int × Int × (List Int)) => ((.row b1 [.bool u0.neg, .slice ao2 u0.abs.length cap3] 93) :: (.own (tyInt .u32) 130 (some ⟨g39, 0, none⟩) cap6 s.2.2) :: Rr)) (fun (s : Int × Int × (List Int)) => Z) (fun (s : Int × Int × (List Int)) => inv69 s.1 s.2.1 s.2.2) (fun (s : Int × Int × (List Int)) => mu69 s.1 s.2.1 s.2.2) ⟨1, 0, u1⟩ hI73 (by exact hF70.reg) (by exact hM44) ?_
   rintro ⟨x5, x6, zg390⟩ hI71 a75 wd76 hF77 hM78
   have hF79 : Fr 49 [] [⟨0, [], .pointer (some ⟨b1, 0, none⟩)⟩, ⟨1, [], .slice (some ⟨g39, 0, none⟩) zg390.length cap6⟩, ⟨5, [], .int .u64 x5⟩, ⟨6, [], .int .i64 x6⟩] a75 := hF77; clear hF77 hF70
   have hM80 : Mem B [] w0 Z0 ((.row b1 [.bool u0.neg, .slice ao2 u0.abs.length cap3] 93) :: (.own (tyInt .u32) 130 (some ⟨g39, 0, none⟩) cap6 zg390) :: Rr) Z wd76 := hM78; clear hM78 hM44
   have hp81 := hr72 x5 x6 zg390 hI71
   refine wp_seq ?_
   refine sqH ?_; intro hQ82Q hQ82
   refine s1 hF79 20 (.int .i64 x6) ?_; intro a83 hF84; clear hF79
   refine s1 hF84 21 (.slice (some ⟨g39, 0, none⟩) zg390.length cap6) ?_; intro a85 hF86; clear hF84
   refine s1 hF86 22 (.int .i64 (zg390.length : Int)) ?_; intro a87 hF88; clear hF86
   refine s1 hF88 23 (.bool (decide (x6 < (zg390.length : Int)))) ?_; intro a89 hF90; clear hF88
   refine nlH (hQ82 _ _ ?_); clear hQ82 hQ82Q
   refine cd hF90 (t := decide (x6 < (zg390.length : Int))) (by kernel_rfl) (fun hb91 => ?_) (fun hb91 => ?_)
   ·
    have hp92 := hp81.1 hb91; clear hp81
    refine wp_skip ?_
    refine thn ?_
    refine wp_seq ?_
    refine wp_block ?_
    refine sqH ?_; intro hQ93Q hQ93
    refine s1 hF90 26 (.int .u64 x5) ?_; intro a94 hF95; clear hF90
    refine s1 hF95 27 (.slice (some ⟨g39, 0, none⟩) zg390.length cap6) ?_; intro a96 hF97; clear hF95
    refine s1 hF97 28 (.int .i64 x6) ?_; intro a98 hF99; clear hF97
    have hc100 := hp92.1; have hp101 := hp92.2; clear hp92
    refine ixo hF99 hM80 1 (T := (tyInt .u32)) (xs := zg390) x6 hc100 (k := .i64) (e := 130) (bytes := 4) (nog rfl _) rfl (by kernel_rfl) rfl (by kernel_rfl) (by kernel_rfl) rfl (by kernel_rfl) ?_; intro g102 a104 hg103 hF105; clear hF99
    obtain rfl : g39 = g102 := by simpa using hg103
    have hF106 : Fr 49 [] [⟨0, [], .pointer (some ⟨b1, 0, none⟩)⟩, ⟨1, [], .slice (some ⟨g39, 0, none⟩) zg390.length cap6⟩, ⟨5, [], .int .u64 x5⟩, ⟨6, [], .int .i64 x6⟩, ⟨20, [], .int .i64 x6⟩, ⟨21, [], .slice (some ⟨g39, 0, none⟩) zg390.length cap6⟩, ⟨22, [], .int .i64 (zg390.length : Int)⟩, ⟨23, [], .bool (decide (x6 < (zg390.length : Int)))⟩, ⟨26, [], .int .u64 x5⟩, ⟨27, [], .slice (some ⟨g39, 0, none⟩) zg390.length cap6⟩, ⟨28, [], .int .i64 x6⟩, ⟨29, [], .pointer (some ⟨g39, x6.toNat * 1, none⟩)⟩] a104 := hF105.reg; clear hF105
    have hM107 : Mem B [] w0 Z0 ((.row b1 [.bool u0.neg, .slice ao2 u0.abs.length cap3] 93) :: (.own (tyInt .u32) 130 (some ⟨g39, 0, none⟩) cap6 zg390) :: Rr) Z wd76 := hM80; clear hM80
    obtain ⟨q108, hq109⟩ : ∃ q, zg390[x6.toNat]? = some q := ⟨_, List.getElem?_eq_getElem (by first | omega | (simp only [List.length_set] at *; omega))⟩; have hp110 := hp101 q108 hq109; clear hp101
    obtain ⟨cs111, hT112, hcl113⟩ := own_el hM107 1 (T := (tyInt .u32)) (xs := zg390) rfl x6.toNat hq109
    obtain rfl : cs111 = ([.int .u32 q108] : List Value) := hT112
    refine lc1 hF106 30 (.int .u32 q108) (hcl113 0 _ rfl) rfl ?_; intro a114 hF115; clear hF106
    refine s1 hF115 31 (.int .u32 (bXor .u32 (4294967295) q108)) ?_; intro a116 hF117; clear hF115
    refine s1 hF117 32 (.int .u64 (wu64 (bXor .u32 (4294967295) q108))) ?_; intro a118 hF119; clear hF117
    refine s1 hF119 33 (.int .u64 (wu64 (x5 + (wu64 (bXor .u32 (4294967295) q108))))) ?_; intro a120 hF121; clear hF119
    refine s1 hF121 5 (.int .u64 (wu64 (x5 + (wu64 (bXor .u32 (4294967295) q108))))) ?_; intro a122 hF123; clear hF121
    refine nlH (hQ93 _ _ ?_); clear hQ93 hQ93Q
    refine sqH ?_; intro hQ124Q hQ124
    refine s1 hF123 34 (.slice (some ⟨g39, 0, none⟩) zg390.length cap6) ?_; intro a125 hF126; clear hF123
    refine s1 hF126 35 (.int .i64 x6) ?_; intro a127 hF128; clear hF126
    refine s1 hF128 36 (.int .u64 (wu64 (x5 + (wu64 (bXor .u32 (4294967295) q108))))) ?_; intro a129 hF130; clear hF128
    refine s1 hF130 37 (.int .u32 (wu32 (wu64 (x5 + (wu64 (bXor .u32 (4294967295) q108)))))) ?_; intro a131 hF132; clear hF130
    have hc133 := hp110.1; have hp134 := hp110.2; clear hp110
    refine ixo hF132 hM107 1 (T := (tyInt .u32)) (xs := zg390) x6 hc133 (k := .i64) (e := 130) (bytes := 4) (nog rfl _) rfl (by kernel_rfl) rfl (by kernel_rfl) (by kernel_rfl) rfl (by kernel_rfl) ?_; intro g135 a137 hg136 hF138; clear hF132
    obtain rfl : g39 = g135 := by simpa using hg136
    have hF139 : Fr 49 [] [⟨0, [], .pointer (some ⟨b1, 0, none⟩)⟩, ⟨1, [], .slice (some ⟨g39, 0, none⟩) zg390.length cap6⟩, ⟨5, [], .int .u64 (wu64 (x5 + (wu64 (bXor .u32 (4294967295) q108))))⟩, ⟨6, [], .int .i64 x6⟩, ⟨20, [], .int .i64 x6⟩, ⟨21, [], .slice (some ⟨g39, 0, none⟩) zg390.length cap6⟩, ⟨22, [], .int .i64 (zg390.length : Int)⟩, ⟨23, [], .bool (decide (x6 < (zg390.length : Int)))⟩, ⟨26, [], .int .u64 x5⟩, ⟨27, [], .slice (some ⟨g39, 0, none⟩) zg390.length cap6⟩, ⟨28, [], .int .i64 x6⟩, ⟨29, [], .pointer (some ⟨g39, x6.toNat * 1, none⟩)⟩, ⟨30, [], .int .u32 q108⟩, ⟨31, [], .int .u32 (bXor .u32 (4294967295) q108)⟩, ⟨32, [], .int .u64 (wu64 (bXor .u32 (4294967295) q108))⟩, ⟨33, [], .int .u64 (wu64 (x5 + (wu64 (bXor .u32 (4294967295) q108))))⟩, ⟨34, [], .slice (some ⟨g39, 0, none⟩) zg390.length cap6⟩, ⟨35, [], .int .i64 x6⟩, ⟨36, [], .int .u64 (wu64 (x5 + (wu64 (bXor .u32 (4294967295) q108))))⟩, ⟨37, [], .int .u32 (wu32 (wu64 (x5 + (wu64 (bXor .u32 (4294967295) q108)))))⟩, ⟨38, [], .pointer (some ⟨g39, x6.toNat * 1, none⟩)⟩] a137 := hF138.reg; clear hF138
    have hM140 : Mem B [] w0 Z0 ((.row b1 [.bool u0.neg, .slice ao2 u0.abs.length cap3] 93) :: (.own (tyInt .u32) 130 (some ⟨g39, 0, none⟩) cap6 zg390) :: Rr) Z wd76 := hM107; clear hM107
    refine so hF139 hM140 1 (T := (tyInt .u32)) (xs := zg390) x6.toNat (wu32 (wu64 (x5 + (wu64 (bXor .u32 (4294967295) q108))))) (u := .int .u32 (wu32 (wu64 (x5 + (wu64 (bXor .u32 (4294967295) q108)))))) (nog rfl _) rfl rfl (by kernel_rfl) rfl (by kernel_rfl) rfl (by kernel_rfl) (by first | omega | (simp only [List.length_set] at *; omega)) rfl ?_; intro wd141 hM142; clear hM140
    have hF143 : Fr 49 [] [⟨0, [], .pointer (some ⟨b1, 0, none⟩)⟩, ⟨1, [], .slice (some ⟨g39, 0, none⟩) (zg390.set x6.toNat (wu32 (wu64 (x5 + (wu64 (bXor .u32 (4294967295) q108)))))).length cap6⟩, ⟨5, [], .int .u64 (wu64 (x5 + (wu64 (bXor .u32 (4294967295) q108))))⟩, ⟨6, [], .int .i64 x6⟩, ⟨20, [], .int .i64 x6⟩, ⟨21, [], .slice (some ⟨g39, 0, none⟩) (zg390.set x6.toNat (wu32 (wu64 (x5 + (wu64 (bXor .u32 (4294967295) q108)))))).length cap6⟩, ⟨22, [], .int .i64 (zg390.length : Int)⟩, ⟨23, [], .bool (decide (x6 < (zg390.length : Int)))⟩, ⟨26, [], .int .u64 x5⟩, ⟨27, [], .slice (some ⟨g39, 0, none⟩) (zg390.set x6.toNat (wu32 (wu64 (x5 + (wu64 (bXor .u32 (4294967295) q108)))))).length cap6⟩, ⟨28, [], .int .i64 x6⟩, ⟨29, [], .pointer (some ⟨g39, x6.toNat * 1, none⟩)⟩, ⟨30, [], .int .u32 q108⟩, ⟨31, [], .int .u32 (bXor .u32 (4294967295) q108)⟩, ⟨32, [], .int .u64 (wu64 (bXor .u32 (4294967295) q108))⟩, ⟨33, [], .int .u64 (wu64 (x5 + (wu64 (bXor .u32 (4294967295) q108))))⟩, ⟨34, [], .slice (some ⟨g39, 0, none⟩) (zg390.set x6.toNat (wu32 (wu64 (x5 + (wu64 (bXor .u32 (4294967295) q108)))))).length cap6⟩, ⟨35, [], .int .i64 x6⟩, ⟨36, [], .int .u64 (wu64 (x5 + (wu64 (bXor .u32 (4294967295) q108))))⟩, ⟨37, [], .int .u32 (wu32 (wu64 (x5 + (wu64 (bXor .u32 (4294967295) q108)))))⟩, ⟨38, [], .pointer (some ⟨g39, x6.toNat * 1, none⟩)⟩] a137 := by (try simp only [List.length_set] at hF139); (try simp only [List.length_set]); exact hF139.reg
    clear hF139
    have hM144 : Mem B [] w0 Z0 ((.row b1 [.bool u0.neg, .slice ao2 u0.abs.length cap3] 93) :: (.own (tyInt .u32) 130 (some ⟨g39, 0, none⟩) cap6 (zg390.set x6.toNat (wu32 (wu64 (x5 + (wu64 (bXor .u32 (4294967295) q108))))))) :: Rr) Z wd141 := hM142; clear hM142
    refine nlH (hQ124 _ _ ?_); clear hQ124 hQ124Q
    have hF145 : Fr 49 [] [⟨0, [], .pointer (some ⟨b1, 0, none⟩)⟩, ⟨1, [], .slice (some ⟨g39, 0, none⟩) (zg390.set x6.toNat (wu32 (wu64 (x5 + (wu64 (bXor .u32 (4294967295) q108)))))).length cap6⟩, ⟨5, [], .int .u64 (wu64 (x5 + (wu64 (bXor .u32 (4294967295) q108))))⟩, ⟨6, [], .int .i64 x6⟩] a137 := hF143.reg; clear hF143
    refine rgH ?_; intro hQ146Q hQ146
    refine s1 hF145 39 (.int .u64 (wu64 (x5 + (wu64 (bXor .u32 (4294967295) q108))))) ?_; intro a147 hF148; clear hF145
    refine s1 hF148 40 (.int .u64 (bShr .u64 (wu64 (x5 + (wu64 (bXor .u32 (4294967295) q108)))) 32)) ?_; intro a149 hF150; clear hF148
    refine s1 hF150 5 (.int .u64 (bShr .u64 (wu64 (x5 + (wu64 (bXor .u32 (4294967295) q108)))) 32)) ?_; intro a151 hF152; clear hF150
    refine nlH (hQ146 _ _ ?_); clear hQ146 hQ146Q
    refine ibn ?_
    refine thn ?_
    refine rgH ?_; intro hQ153Q hQ153
    refine s1 hF152 24 (.int .i64 x6) ?_; intro a154 hF155; clear hF152
    refine s1 hF155 25 (.int .i64 (w64 (x6 + 1))) ?_; intro a156 hF157; clear hF155
    refine s1 hF157 6 (.int .i64 (w64 (x6 + 1))) ?_; intro a158 hF159; clear hF157
    refine nlH (hQ153 _ _ ?_); clear hQ153 hQ153Q
    refine rd ?_
    exact ⟨⟨bShr .u64 (wu64 (x5 + (wu64 (bXor .u32 (4294967295) q108)))) 32, w64 (x6 + 1), zg390.set x6.toNat (wu32 (wu64 (x5 + (wu64 (bXor .u32 (4294967295) q108)))))⟩, hp134.1, hp134.2, (hF159.reg).anyβ _ (by kernel_rfl), hM144.keep (List.Sublist.cons_cons _ (List.Sublist.cons_cons _ (List.Sublist.refl _)))⟩
   ·
    have hp160 := hp81.2 hb91; clear hp81
    refine wp_exit ?_
    refine thx ?_
    refine thx ?_
    refine ibx ?_
    refine thn ?_
    refine sqH ?_; intro hQ161Q hQ161
    refine s1 hF90 41 (.pointer (some ⟨b1, 0, none⟩)) ?_; intro a162 hF163; clear hF90
    refine s1 hF163 42 (.slice (some ⟨g39, 0, none⟩) zg390.length cap6) ?_; intro a164 hF165; clear hF163
    obtain ⟨Z166, hle167, hM168, hs169⟩ := hM80.freeze 1 rfl
    replace hs4 := hs4.mono hle167
    replace hle0 := Fz.le.trans hle0 hle167
    have hM170 : Mem B [] w0 Z0 ((.row b1 [.bool u0.neg, .slice ao2 u0.abs.length cap3] 93) :: Rr) Z166 wd76 := hM168; clear hM168
    refine cl hF165 124 #[.slice (some ⟨g39, 0, none⟩) zg390.length cap6] (nog rfl _) rfl (by kernel_rfl) (by kernel_rfl) ?_
    refine (gtrim_fun zg390 (some ⟨g39, 0, none⟩) cap6 _ _ hs169 hM170.fz).mono ?_; rintro _ wd171 ⟨ao175, cap176, Z178, rfl, hs177, hm⟩; refine ⟨_, rfl, ?_⟩; intro a172 hF173; have hM174 := hM170.callZ hm; have hle179 := hm.ext.le; clear hm hM170 hF165
    replace hs4 := hs4.mono hle179
    replace hs169 := hs169.mono hle179
    replace hle0 := Fz.le.trans hle0 hle179
    have hM180 : Mem B [] w0 Z0 ((.row b1 [.bool u0.neg, .slice ao2 u0.abs.length cap3] 93) :: Rr) Z178 wd171 := hM174; clear hM174
    have hp181 := hp160 (hs177.small); clear hp160
    refine cl hF173 91 #[.pointer (some ⟨b1, 0, none⟩), .bool true, .slice ao175 (gtrimS zg390).length cap176] (nog rfl _) rfl (by kernel_rfl) (by kernel_rfl) ?_
    obtain ⟨r186, hr187⟩ : ∃ x, (ggive u0 true (gtrimS zg390)) = x := ⟨_, rfl⟩; have hp188 := hp181 r186 hr187; clear hp181
    have h9 := ggive_fun u0 true (gtrimS zg390) b1 ao2 cap3 ao175 cap176 _ _ _ _ _ _ hs4 hs177 hM180 hM180.fz; rw [hr187] at h9; refine h9.mono ?_; clear h9; rintro _ wd182 ⟨ao190, cap191, Z193, rfl, hle194, hs192, hm⟩; refine ⟨_, rfl, ?_⟩; intro a183 hF184; have hM185 := hm; clear hm hM180 hF173
    replace hs4 := hs4.mono hle194
    replace hs169 := hs169.mono hle194
    replace hs177 := hs177.mono hle194
    replace hle0 := Fz.le.trans hle0 hle194
    have hM195 : Mem B [] w0 Z0 ((.row b1 [.bool r186.neg, .slice ao190 r186.abs.length cap191] 93) :: Rr) Z193 wd182 := hM185; clear hM185
    have hp196 := hp188 (hs192.small); clear hp188
    refine s1 hF184 4 (.pointer (some ⟨b1, 0, none⟩)) ?_; intro a197 hF198; clear hF184
    refine nlH (hQ161 _ _ ?_); clear hQ161 hQ161Q
    refine wp_ret ?_
    refine thr ?_
    refine rt (fn := Tryd.f95) (v := .pointer (some ⟨b1, 0, none⟩)) hF198 (re1 hF198 (fn := Tryd.f95) rfl (by kernel_rfl)) ?_
    exact ⟨r186, ao190, cap191, Z193, rfl, hp196, hle0, hs192, hM195.keep (List.Sublist.cons_cons _ (List.Sublist.refl _))⟩
  ·
   have hp199 := hp47.2 hb59; clear hp47
   refine wp_skip ?_
   refine thn ?_
   have hF200 : Fr 49 [] [⟨0, [], .pointer (some ⟨b1, 0, none⟩)⟩, ⟨1, [], .slice (some ⟨g39, 0, none⟩) u1.length cap6⟩] a57 := hF58.reg; clear hF58
   refine sqH ?_; intro hQ201Q hQ201
   refine s1 hF200 45 (.pointer (some ⟨b1, 0, none⟩)) ?_; intro a202 hF203; clear hF200
   refine s1 hF203 46 (.slice (some ⟨g39, 0, none⟩) u1.length cap6) ?_; intro a204 hF205; clear hF203
   obtain ⟨Z206, hle207, hM208, hs209⟩ := hM44.freeze 1 rfl
   replace hs4 := hs4.mono hle207
   replace hle0 := Fz.le.trans hle0 hle207
   have hM210 : Mem B [] w0 Z0 ((.row b1 [.bool u0.neg, .slice ao2 u0.abs.length cap3] 93) :: Rr) Z206 w := hM208; clear hM208
   refine cl hF205 124 #[.slice (some ⟨g39, 0, none⟩) u1.length cap6] (nog rfl _) rfl (by kernel_rfl) (by kernel_rfl) ?_
   refine (gtrim_fun u1 (some ⟨g39, 0, none⟩) cap6 _ _ hs209 hM210.fz).mono ?_; rintro _ wd211 ⟨ao215, cap216, Z218, rfl, hs217, hm⟩; refine ⟨_, rfl, ?_⟩; intro a212 hF213; have hM214 := hM210.callZ hm; have hle219 := hm.ext.le; clear hm hM210 hF205
   replace hs4 := hs4.mono hle219
   replace hs209 := hs209.mono hle219
   replace hle0 := Fz.le.trans hle0 hle219
   have hM220 : Mem B [] w0 Z0 ((.row b1 [.bool u0.neg, .slice ao2 u0.abs.length cap3] 93) :: Rr) Z218 wd211 := hM214; clear hM214
   have hp221 := hp199 (hs217.small); clear hp199
   refine cl hF213 91 #[.pointer (some ⟨b1, 0, none⟩), .bool false, .slice ao215 (gtrimS u1).length cap216] (nog rfl _) rfl (by kernel_rfl) (by kernel_rfl) ?_
   obtain ⟨r226, hr227⟩ : ∃ x, (ggive u0 false (gtrimS u1)) = x := ⟨_, rfl⟩; have hp228 := hp221 r226 hr227; clear hp221
   have h9 := ggive_fun u0 false (gtrimS u1) b1 ao2 cap3 ao215 cap216 _ _ _ _ _ _ hs4 hs217 hM220 hM220.fz; rw [hr227] at h9; refine h9.mono ?_; clear h9; rintro _ wd222 ⟨ao230, cap231, Z233, rfl, hle234, hs232, hm⟩; refine ⟨_, rfl, ?_⟩; intro a223 hF224; have hM225 := hm; clear hm hM220 hF213
   replace hs4 := hs4.mono hle234
   replace hs209 := hs209.mono hle234
   replace hs217 := hs217.mono hle234
   replace hle0 := Fz.le.trans hle0 hle234
   have hM235 : Mem B [] w0 Z0 ((.row b1 [.bool r226.neg, .slice ao230 r226.abs.length cap231] 93) :: Rr) Z233 wd222 := hM225; clear hM225
   have hp236 := hp228 (hs232.small); clear hp228
   refine s1 hF224 4 (.pointer (some ⟨b1, 0, none⟩)) ?_; intro a237 hF238; clear hF224
   refine nlH (hQ201 _ _ ?_); clear hQ201 hQ201Q
   refine wp_ret ?_
   refine rt (fn := Tryd.f95) (v := .pointer (some ⟨b1, 0, none⟩)) hF238 (re1 hF238 (fn := Tryd.f95) rfl (by kernel_rfl)) ?_
   exact ⟨r226, ao230, cap231, Z233, rfl, hp236, hle0, hs232, hM235.keep (List.Sublist.cons_cons _ (List.Sublist.refl _))⟩
 ·
  have hp239 := hp8.2 hb30; clear hp8
  have hF240 := hF29.reval (d := 10) (c := []) (v := .bool (decide ((u1.length : Int) > 0))) (by kernel_rfl) (.bool false) (by rw [hb30]); clear hF29
  have hF241 := hF240.setc (d := 11) (c := [0]) (v := .slice ao5 u1.length cap6) (by kernel_rfl) (v' := undef) (by rw [hb30]; kernel_rfl); clear hF240
  have hF242 := hF241.setc (d := 12) (c := [0]) (v := .slice ao5 u1.length cap6) (by kernel_rfl) (v' := undef) (by rw [hb30]; kernel_rfl); clear hF241
  have hF243 := hF242.setc (d := 13) (c := [0]) (v := .int .i64 (u1.length : Int)) (by kernel_rfl) (v' := undef) (by rw [hb30]; kernel_rfl); clear hF242
  have hF244 := hF243.setc (d := 14) (c := [0]) (v := .int .i64 (w64 ((u1.length : Int) - 1))) (by kernel_rfl) (v' := undef) (by rw [hb30]; kernel_rfl); clear hF243
  refine sk hF244 (b := false) rfl rfl (by kernel_rfl) (by kernel_rfl) rfl rfl (by kernel_rfl) ?_; intro a245 hF246; clear hF244
  refine sk hF246 (b := false) rfl rfl (by kernel_rfl) (by kernel_rfl) rfl rfl (by kernel_rfl) ?_; intro a247 hF248; clear hF246
  refine sk hF248 (b := false) rfl rfl (by kernel_rfl) (by kernel_rfl) rfl rfl (by kernel_rfl) ?_; intro a249 hF250; clear hF248
  refine sk hF250 (b := false) rfl rfl (by kernel_rfl) (by kernel_rfl) rfl rfl (by kernel_rfl) ?_; intro a251 hF252; clear hF250
  refine s1 hF252 19 (.bool false) ?_; intro a253 hF254; clear hF252
  refine nlH (hQ12 _ _ ?_); clear hQ12 hQ12Q
  refine cdF hF254 (by kernel_rfl) ?_
  refine wp_skip ?_
  refine thn ?_
  have hF255 : Fr 49 [] [⟨0, [], .pointer (some ⟨b1, 0, none⟩)⟩, ⟨1, [], .slice ao5 u1.length cap6⟩] a253 := hF254.reg; clear hF254
  refine sqH ?_; intro hQ256Q hQ256
  refine s1 hF255 45 (.pointer (some ⟨b1, 0, none⟩)) ?_; intro a257 hF258; clear hF255
  refine s1 hF258 46 (.slice ao5 u1.length cap6) ?_; intro a259 hF260; clear hF258
  obtain ⟨Z261, hle262, hM263, hs264⟩ := hM0.freeze 1 rfl
  replace hs4 := hs4.mono hle262
  replace hle0 := Fz.le.trans hle0 hle262
  have hM265 : Mem B [] w0 Z0 ((.row b1 [.bool u0.neg, .slice ao2 u0.abs.length cap3] 93) :: Rr) Z261 w := hM263; clear hM263
  refine cl hF260 124 #[.slice ao5 u1.length cap6] (nog rfl _) rfl (by kernel_rfl) (by kernel_rfl) ?_
  refine (gtrim_fun u1 ao5 cap6 _ _ hs264 hM265.fz).mono ?_; rintro _ wd266 ⟨ao270, cap271, Z273, rfl, hs272, hm⟩; refine ⟨_, rfl, ?_⟩; intro a267 hF268; have hM269 := hM265.callZ hm; have hle274 := hm.ext.le; clear hm hM265 hF260
  replace hs4 := hs4.mono hle274
  replace hs264 := hs264.mono hle274
  replace hle0 := Fz.le.trans hle0 hle274
  have hM275 : Mem B [] w0 Z0 ((.row b1 [.bool u0.neg, .slice ao2 u0.abs.length cap3] 93) :: Rr) Z273 wd266 := hM269; clear hM269
  have hp276 := hp239 (hs272.small); clear hp239
  refine cl hF268 91 #[.pointer (some ⟨b1, 0, none⟩), .bool false, .slice ao270 (gtrimS u1).length cap271] (nog rfl _) rfl (by kernel_rfl) (by kernel_rfl) ?_
  obtain ⟨r281, hr282⟩ : ∃ x, (ggive u0 false (gtrimS u1)) = x := ⟨_, rfl⟩; have hp283 := hp276 r281 hr282; clear hp276
  have h9 := ggive_fun u0 false (gtrimS u1) b1 ao2 cap3 ao270 cap271 _ _ _ _ _ _ hs4 hs272 hM275 hM275.fz; rw [hr282] at h9; refine h9.mono ?_; clear h9; rintro _ wd277 ⟨ao285, cap286, Z288, rfl, hle289, hs287, hm⟩; refine ⟨_, rfl, ?_⟩; intro a278 hF279; have hM280 := hm; clear hm hM275 hF268
  replace hs4 := hs4.mono hle289
  replace hs264 := hs264.mono hle289
  replace hs272 := hs272.mono hle289
  replace hle0 := Fz.le.trans hle0 hle289
  have hM290 : Mem B [] w0 Z0 ((.row b1 [.bool r281.neg, .slice ao285 r281.abs.length cap286] 93) :: Rr) Z288 wd277 := hM280; clear hM280
  have hp291 := hp283 (hs287.small); clear hp283
  refine s1 hF279 4 (.pointer (some ⟨b1, 0, none⟩)) ?_; intro a292 hF293; clear hF279
  refine nlH (hQ256 _ _ ?_); clear hQ256 hQ256Q
  refine wp_ret ?_
  refine rt (fn := Tryd.f95) (v := .pointer (some ⟨b1, 0, none⟩)) hF293 (re1 hF293 (fn := Tryd.f95) rfl (by kernel_rfl)) ?_
  exact ⟨r281, ao285, cap286, Z288, rfl, hp291, hle0, hs287, hM290.keep (List.Sublist.cons_cons _ (List.Sublist.refl _))⟩

set_option maxRecDepth 100000 in
set_option maxHeartbeats 0 in
theorem gseti_walk (u0 : BInt) (u1 : Int) (b1 : Nat) (ao2 : Option Addr) (cap3 : Nat) (B : Nat) (w0 : World) (Z0 : Fz) (Rr : List Res) (Z : Fz) (w : World) (hs4 : SlR (tyInt .u32) Z ao2 cap3 u0.abs) (hM0 : Mem B [] w0 Z0 ((.row b1 [.bool u0.neg, .slice ao2 u0.abs.length cap3] 93) :: Rr) Z w) (hZ : Z.on w) {K : BInt → Prop} (hp : gseti_vc u0 u1 K) : Calls Tryd.prog 93 #[.pointer (some ⟨b1, 0, none⟩), .int .i64 u1] w fun e w' => ∃ (r : BInt) (ao1001 : Option Addr) (cap1002 : Nat) (Z' : Fz), e = .returned (.pointer (some ⟨b1, 0, none⟩)) ∧ K r ∧ Fz.le Z Z' ∧ SlR (tyInt .u32) Z' ao1001 cap1002 r.abs ∧ Mem B [] w0 Z0 ((.row b1 [.bool r.neg, .slice ao1001 r.abs.length cap1002] 93) :: Rr) Z' w' := by
 refine enter0 Tryd.func93 rfl rfl (by kernel_rfl) ?_; intro a0 hF0; have hle0 := Fz.le.refl Z
 have hp5 := hp (hs4.small); clear hp
 refine sqH ?_; intro hQ6Q hQ6
 refine s1 hF0 4 (.pointer none) ?_; intro a7 hF8; clear hF0
 refine nlH (hQ6 _ _ ?_); clear hQ6 hQ6Q
 refine sqH ?_; intro hQ9Q hQ9
 refine s1 hF8 6 (.int .i64 u1) ?_; intro a10 hF11; clear hF8
 refine s1 hF11 7 (.int .u64 (wu64 u1)) ?_; intro a12 hF13; clear hF11
 refine s1 hF13 5 (.int .u64 (wu64 u1)) ?_; intro a14 hF15; clear hF13
 refine nlH (hQ9 _ _ ?_); clear hQ9 hQ9Q
 refine wp_seq ?_
 refine sqH ?_; intro hQ16Q hQ16
 refine s1 hF15 8 (.int .i64 u1) ?_; intro a17 hF18; clear hF15
 refine s1 hF18 9 (.bool (decide (u1 < 0))) ?_; intro a19 hF20; clear hF18
 refine nlH (hQ16 _ _ ?_); clear hQ16 hQ16Q
 refine cd hF20 (t := decide (u1 < 0)) (by kernel_rfl) (fun hb21 => ?_) (fun hb21 => ?_)
 ·
  have hp22 := hp5.1 hb21; clear hp5
  refine rgH ?_; intro hQ23Q hQ23
  refine s1 hF20 10 (.int .u64 (wu64 u1)) ?_; intro a24 hF25; clear hF20
  refine s1 hF25 11 (.int .u64 (wu64 (0 - (wu64 u1)))) ?_; intro a26 hF27; clear hF25
  refine s1 hF27 5 (.int .u64 (wu64 (0 - (wu64 u1)))) ?_; intro a28 hF29; clear hF27
  refine nlH (hQ23 _ _ ?_); clear hQ23 hQ23Q
  refine thn ?_
  refine sqH ?_; intro hQ30Q hQ30
  refine s1 hF29 12 (.pointer (some ⟨b1, 0, none⟩)) ?_; intro a31 hF32; clear hF29
  refine s1 hF32 13 (.int .i64 u1) ?_; intro a33 hF34; clear hF32
  refine s1 hF34 14 (.bool (decide (u1 < 0))) ?_; intro a35 hF36; clear hF34
  refine s1 hF36 15 (.int .u64 (wu64 (0 - (wu64 u1)))) ?_; intro a37 hF38; clear hF36
  have hc39 := hp22.1; have hp40 := hp22.2; clear hp22
  refine cl hF38 123 #[.int .u64 (wu64 (0 - (wu64 u1)))] (nog rfl _) rfl (by kernel_rfl) (by kernel_rfl) ?_
  refine (gwords_fun (wu64 (0 - (wu64 u1))) hc39 _ _ hM0.fz).mono ?_; rintro _ wd41 ⟨ao45, cap46, Z48, rfl, hs47, hm⟩; refine ⟨_, rfl, ?_⟩; intro a42 hF43; have hM44 := hM0.callZ hm; have hle49 := hm.ext.le; clear hm hM0 hF38
  replace hs4 := hs4.mono hle49
  replace hle0 := Fz.le.trans hle0 hle49
  have hM50 : Mem B [] w0 Z0 ((.row b1 [.bool u0.neg, .slice ao2 u0.abs.length cap3] 93) :: Rr) Z48 wd41 := hM44; clear hM44
  have hp51 := hp40 (hs47.small); clear hp40
  refine cl hF43 91 #[.pointer (some ⟨b1, 0, none⟩), .bool (decide (u1 < 0)), .slice ao45 (gwordsS (wu64 (0 - (wu64 u1)))).length cap46] (nog rfl _) rfl (by kernel_rfl) (by kernel_rfl) ?_
  obtain ⟨r56, hr57⟩ : ∃ x, (ggive u0 (decide (u1 < 0)) (gwordsS (wu64 (0 - (wu64 u1))))) = x := ⟨_, rfl⟩; have hp58 := hp51 r56 hr57; clear hp51
  have h9 := ggive_fun u0 (decide (u1 < 0)) (gwordsS (wu64 (0 - (wu64 u1)))) b1 ao2 cap3 ao45 cap46 _ _ _ _ _ _ hs4 hs47 hM50 hM50.fz; rw [hr57] at h9; refine h9.mono ?_; clear h9; rintro _ wd52 ⟨ao60, cap61, Z63, rfl, hle64, hs62, hm⟩; refine ⟨_, rfl, ?_⟩; intro a53 hF54; have hM55 := hm; clear hm hM50 hF43
  replace hs4 := hs4.mono hle64
  replace hs47 := hs47.mono hle64
  replace hle0 := Fz.le.trans hle0 hle64
  have hM65 : Mem B [] w0 Z0 ((.row b1 [.bool r56.neg, .slice ao60 r56.abs.length cap61] 93) :: Rr) Z63 wd52 := hM55; clear hM55
  have hp66 := hp58 (hs62.small); clear hp58
  refine s1 hF54 4 (.pointer (some ⟨b1, 0, none⟩)) ?_; intro a67 hF68; clear hF54
  refine nlH (hQ30 _ _ ?_); clear hQ30 hQ30Q
  refine wp_ret ?_
  refine rt (fn := Tryd.f93) (v := .pointer (some ⟨b1, 0, none⟩)) hF68 (re1 hF68 (fn := Tryd.f93) rfl (by kernel_rfl)) ?_
  exact ⟨r56, ao60, cap61, Z63, rfl, hp66, hle0, hs62, hM65.keep (List.Sublist.cons_cons _ (List.Sublist.refl _))⟩
 ·
  have hp69 := hp5.2 hb21; clear hp5
  refine wp_skip ?_
  refine thn ?_
  refine sqH ?_; intro hQ70Q hQ70
  refine s1 hF20 12 (.pointer (some ⟨b1, 0, none⟩)) ?_; intro a71 hF72; clear hF20
  refine s1 hF72 13 (.int .i64 u1) ?_; intro a73 hF74; clear hF72
  refine s1 hF74 14 (.bool (decide (u1 < 0))) ?_; intro a75 hF76; clear hF74
  refine s1 hF76 15 (.int .u64 (wu64 u1)) ?_; intro a77 hF78; clear hF76
  have hc79 := hp69.1; have hp80 := hp69.2; clear hp69
  refine cl hF78 123 #[.int .u64 (wu64 u1)] (nog rfl _) rfl (by kernel_rfl) (by kernel_rfl) ?_
  refine (gwords_fun (wu64 u1) hc79 _ _ hM0.fz).mono ?_; rintro _ wd81 ⟨ao85, cap86, Z88, rfl, hs87, hm⟩; refine ⟨_, rfl, ?_⟩; intro a82 hF83; have hM84 := hM0.callZ hm; have hle89 := hm.ext.le; clear hm hM0 hF78
  replace hs4 := hs4.mono hle89
  replace hle0 := Fz.le.trans hle0 hle89
  have hM90 : Mem B [] w0 Z0 ((.row b1 [.bool u0.neg, .slice ao2 u0.abs.length cap3] 93) :: Rr) Z88 wd81 := hM84; clear hM84
  have hp91 := hp80 (hs87.small); clear hp80
  refine cl hF83 91 #[.pointer (some ⟨b1, 0, none⟩), .bool (decide (u1 < 0)), .slice ao85 (gwordsS (wu64 u1)).length cap86] (nog rfl _) rfl (by kernel_rfl) (by kernel_rfl) ?_
  obtain ⟨r96, hr97⟩ : ∃ x, (ggive u0 (decide (u1 < 0)) (gwordsS (wu64 u1))) = x := ⟨_, rfl⟩; have hp98 := hp91 r96 hr97; clear hp91
  have h9 := ggive_fun u0 (decide (u1 < 0)) (gwordsS (wu64 u1)) b1 ao2 cap3 ao85 cap86 _ _ _ _ _ _ hs4 hs87 hM90 hM90.fz; rw [hr97] at h9; refine h9.mono ?_; clear h9; rintro _ wd92 ⟨ao100, cap101, Z103, rfl, hle104, hs102, hm⟩; refine ⟨_, rfl, ?_⟩; intro a93 hF94; have hM95 := hm; clear hm hM90 hF83
  replace hs4 := hs4.mono hle104
  replace hs87 := hs87.mono hle104
  replace hle0 := Fz.le.trans hle0 hle104
  have hM105 : Mem B [] w0 Z0 ((.row b1 [.bool r96.neg, .slice ao100 r96.abs.length cap101] 93) :: Rr) Z103 wd92 := hM95; clear hM95
  have hp106 := hp98 (hs102.small); clear hp98
  refine s1 hF94 4 (.pointer (some ⟨b1, 0, none⟩)) ?_; intro a107 hF108; clear hF94
  refine nlH (hQ70 _ _ ?_); clear hQ70 hQ70Q
  refine wp_ret ?_
  refine rt (fn := Tryd.f93) (v := .pointer (some ⟨b1, 0, none⟩)) hF108 (re1 hF108 (fn := Tryd.f93) rfl (by kernel_rfl)) ?_
  exact ⟨r96, ao100, cap101, Z103, rfl, hp106, hle0, hs102, hM105.keep (List.Sublist.cons_cons _ (List.Sublist.refl _))⟩

set_option maxRecDepth 100000 in
set_option maxHeartbeats 0 in
theorem glsh_walk (u0 : BInt) (u1 : BInt) (u2 : Int) (b1 : Nat) (ao2 : Option Addr) (cap3 : Nat) (b5 : Nat) (ao6 : Option Addr) (cap7 : Nat) (B : Nat) (w0 : World) (Z0 : Fz) (Rr : List Res) (Z : Fz) (w : World) (hs4 : SlR (tyInt .u32) Z ao2 cap3 u0.abs) (hs8 : SlR (tyInt .u32) Z ao6 cap7 u1.abs) (hM0 : Mem B [] w0 Z0 ((.row b1 [.bool u0.neg, .slice ao2 u0.abs.length cap3] 93) :: (.row b5 [.bool u1.neg, .slice ao6 u1.abs.length cap7] 93) :: Rr) Z w) (hZ : Z.on w) {K : (BInt × BInt) → Prop} (hp : glsh_vc u0 u1 u2 K) : Calls Tryd.prog 55 #[.pointer (some ⟨b1, 0, none⟩), .pointer (some ⟨b5, 0, none⟩), .int .u64 u2] w fun e w' => ∃ (r : BInt × BInt) (ao1001 : Option Addr) (cap1002 : Nat) (ao1004 : Option Addr) (cap1005 : Nat) (Z' : Fz), e = .returned (.pointer (some ⟨b1, 0, none⟩)) ∧ K r ∧ Fz.le Z Z' ∧ SlR (tyInt .u32) Z' ao1001 cap1002 r.1.abs ∧ SlR (tyInt .u32) Z' ao1004 cap1005 r.2.abs ∧ Mem B [] w0 Z0 ((.row b1 [.bool r.1.neg, .slice ao1001 r.1.abs.length cap1002] 93) :: (.row b5 [.bool r.2.neg, .slice ao1004 r.2.abs.length cap1005] 93) :: Rr) Z' w' := by
 refine enter0 Tryd.func55 rfl rfl (by kernel_rfl) ?_; intro a0 hF0; have hle0 := Fz.le.refl Z
 have hp9 := hp (hs4.small); clear hp
 have hp10 := hp9 (hs8.small); clear hp9
 refine sqH ?_; intro hQ11Q hQ11
 refine s1 hF0 6 (.pointer none) ?_; intro a12 hF13; clear hF0
 refine nlH (hQ11 _ _ ?_); clear hQ11 hQ11Q
 have hF14 : Fr 19 [] [⟨0, [], .pointer (some ⟨b1, 0, none⟩)⟩, ⟨1, [], .pointer (some ⟨b5, 0, none⟩)⟩, ⟨2, [], .int .u64 u2⟩] a12 := hF13.reg; clear hF13
 have hcd10_0 := hp10.1; have hp57 := hp10.2; clear hp10
 refine wp_seq (any_invE mixed [[], [], [1], [2], [3], [], [5], [6], [7], [], [8, 9], [0, 4, 10], [0, 1, 2, 3, 4, 5, 6, 7, 8, 9, 10, 11]] 13 (fun S a w1 => ∃ (ao39 : Option Addr) (cap40 : Nat) (ao49 : Option Addr) (cap50 : Nat) (ud6 : Value) (ud7 : Value) (ud8 : Value) (ud9 : Value) (ud10 : Value) (ud11 : Value) (ud12 : Value) (ud13 : Value) (ud14 : Value) (ud15 : Value) (ud16 : Value) (ud17 : Value) (ud18 : Value) (rh0 : Res) (rh1 : Res) (Z58 : Fz), Fz.le Z Z58 ∧ Fr 19 [] [⟨0, [], .pointer (some ⟨b1, 0, none⟩)⟩, ⟨1, [], .pointer (some ⟨b5, 0, none⟩)⟩, ⟨2, [], .int .u64 u2⟩, ⟨6, [], ud6⟩, ⟨7, [], ud7⟩, ⟨8, [], ud8⟩, ⟨9, [], ud9⟩, ⟨10, [], ud10⟩, ⟨11, [], ud11⟩, ⟨12, [], ud12⟩, ⟨13, [], ud13⟩, ⟨14, [], ud14⟩, ⟨15, [], ud15⟩, ⟨16, [], ud16⟩, ⟨17, [], ud17⟩, ⟨18, [], ud18⟩] a ∧ Mem B [] w0 Z0 (rh0 :: rh1 :: Rr) Z58 w1 ∧ (S 12 = true → ud6 = .pointer (some ⟨b1, 0, none⟩)) ∧ (S 0 = true → ud7 = .pointer (some ⟨b1, 0, none⟩)) ∧ (S 1 = true → ud8 = .pointer (some ⟨b5, 0, none⟩)) ∧ (S 2 = true → ud9 = .pointer (some ⟨b5, 0, none⟩)) ∧ (S 3 = true → ud10 = .pointer (some ⟨b5, 0, none⟩)) ∧ (S 4 = true → ud11 = .bool u1.neg) ∧ (S 5 = true → ud12 = .pointer (some ⟨b5, 0, none⟩)) ∧ (S 6 = true → ud13 = .pointer (some ⟨b5, 0, none⟩)) ∧ (S 7 = true → ud14 = .pointer (some ⟨b5, 1, none⟩)) ∧ (S 8 = true → ud15 = .slice ao6 u1.abs.length cap7) ∧ (S 9 = true → ud16 = .int .u64 u2) ∧ (S 10 = true → ud17 = .slice ao39 (gleftS u1.abs u2).length cap40) ∧ (S 11 = true → ud18 = .pointer (some ⟨b1, 0, none⟩)) ∧ (S 11 = false → rh0 = .row b1 [.bool u0.neg, .slice ao2 u0.abs.length cap3] 93) ∧ (S 11 = true → rh0 = .row b1 [.bool ((ggive u0 u1.neg (gleftS u1.abs u2)).neg), .slice ao49 ((ggive u0 u1.neg (gleftS u1.abs u2)).abs).length cap50] 93) ∧ (rh1 = .row b5 [.bool u1.neg, .slice ao6 u1.abs.length cap7] 93) ∧ (S 10 = true → SlR (tyInt .u32) Z58 ao39 cap40 (gleftS u1.abs u2)) ∧ (S 11 = true → SlR (tyInt .u32) Z58 ao49 cap50 ((ggive u0 u1.neg (gleftS u1.abs u2)).abs))) ?h0 ?hs ?hE)
 case h0 =>
  have hF60 := hF14.any 6
  have hF61 := hF60.any 7
  have hF62 := hF61.any 8
  have hF63 := hF62.any 9
  have hF64 := hF63.any 10
  have hF65 := hF64.any 11
  have hF66 := hF65.any 12
  have hF67 := hF66.any 13
  have hF68 := hF67.any 14
  have hF69 := hF68.any 15
  have hF70 := hF69.any 16
  have hF71 := hF70.any 17
  have hF72 := hF71.any 18
  have hM73 := (hM0.perm lpr).drew
  exact ⟨none, 0, none, 0, a12.tmps.getD 6 undef, a12.tmps.getD 7 undef, a12.tmps.getD 8 undef, a12.tmps.getD 9 undef, a12.tmps.getD 10 undef, a12.tmps.getD 11 undef, a12.tmps.getD 12 undef, a12.tmps.getD 13 undef, a12.tmps.getD 14 undef, a12.tmps.getD 15 undef, a12.tmps.getD 16 undef, a12.tmps.getD 17 undef, a12.tmps.getD 18 undef, .row b1 [.bool u0.neg, .slice ao2 u0.abs.length cap3] 93, .row b5 [.bool u1.neg, .slice ao6 u1.abs.length cap7] 93, Z, Fz.le.refl _, hF72.reg, hM73, ff, ff, ff, ff, ff, ff, ff, ff, ff, ff, ff, ff, ff, kf, ff, rfl, ff, ff⟩
 case hs =>
  intro S hcl i o hil hi hSi hpre a w1 hI; refine Go.Sy.hid ?_; intro G hG; obtain ⟨ao39, cap40, ao49, cap50, ud6, ud7, ud8, ud9, ud10, ud11, ud12, ud13, ud14, ud15, ud16, ud17, ud18, rh0, rh1, Z58, hle59, hFx, hMx, cu6, cu7, cu8, cu9, cu10, cu11, cu12, cu13, cu14, cu15, cu16, cu17, cu18, cr0_0, cr0_1, cr1_0, cf0, hI⟩ := hI; have cf1 := hI; clear hI
  have hcase : i = 0 ∨ i = 1 ∨ i = 2 ∨ i = 3 ∨ i = 4 ∨ i = 5 ∨ i = 6 ∨ i = 7 ∨ i = 8 ∨ i = 9 ∨ i = 10 ∨ i = 11 ∨ i = 12 := by clear hi; omega
  rcases hcase with rfl | rfl | rfl | rfl | rfl | rfl | rfl | rfl | rfl | rfl | rfl | rfl | rfl
  ·
   obtain rfl := oj hi
   have hx0 := hSi
   have hx11 := ngF hcl 11 0 hx0
   have hx12 := ngF hcl 12 0 hx0
   obtain rfl := cr0_0 hx11
   obtain rfl := cr1_0
   refine hG (any_step ?_); clear hG G; intro A J hJ
   have hle0 := Fz.le.trans hle0 hle59
   have hzst := Fz.le.refl Z58
   have hs74 := hs4.mono hle59
   have hs75 := hs8.mono hle59
   refine s1 hFx 7 (.pointer (some ⟨b1, 0, none⟩)) ?_; intro a76 hF77; clear hFx
   refine nl (qnI (hJ _ _ ?_)); clear hJ J
   exact ⟨ao39, cap40, ao49, cap50, ud6, .pointer (some ⟨b1, 0, none⟩), ud8, ud9, ud10, ud11, ud12, ud13, ud14, ud15, ud16, ud17, ud18, .row b1 [.bool u0.neg, .slice ao2 u0.abs.length cap3] 93, .row b5 [.bool u1.neg, .slice ao6 u1.abs.length cap7] 93, Z58, hle59, hF77.reg, hMx.perm lpr, (nt hx12), kf, cu8, cu9, cu10, cu11, cu12, cu13, cu14, cu15, cu16, cu17, (nt hx11), kf, (nt hx11), rfl, cf0, (nt hx11)⟩
  ·
   obtain rfl := oj hi
   have hx1 := hSi
   have hx2 := ngF hcl 2 1 hx1
   have hx3 := ngF hcl 3 2 hx2
   have hx4 := ngF hcl 4 3 hx3
   have hx11 := ngF hcl 11 4 hx4
   have hx12 := ngF hcl 12 1 hx1
   obtain rfl := cr0_0 hx11
   obtain rfl := cr1_0
   refine hG (any_step ?_); clear hG G; intro A J hJ
   have hle0 := Fz.le.trans hle0 hle59
   have hzst := Fz.le.refl Z58
   have hs79 := hs4.mono hle59
   have hs80 := hs8.mono hle59
   refine s1 hFx 8 (.pointer (some ⟨b5, 0, none⟩)) ?_; intro a81 hF82; clear hFx
   refine nl (qnI (hJ _ _ ?_)); clear hJ J
   exact ⟨ao39, cap40, ao49, cap50, ud6, ud7, .pointer (some ⟨b5, 0, none⟩), ud9, ud10, ud11, ud12, ud13, ud14, ud15, ud16, ud17, ud18, .row b1 [.bool u0.neg, .slice ao2 u0.abs.length cap3] 93, .row b5 [.bool u1.neg, .slice ao6 u1.abs.length cap7] 93, Z58, hle59, hF82.reg, hMx.perm lpr, (nt hx12), cu7, kf, (nt hx2), (nt hx3), (nt hx4), cu12, cu13, cu14, cu15, cu16, cu17, (nt hx11), kf, (nt hx11), rfl, cf0, (nt hx11)⟩
  ·
   obtain rfl := oj hi
   have hx1 := hpre 1 (by kernel_rfl)
   have hx2 := hSi
   have hx3 := ngF hcl 3 2 hx2
   have hx4 := ngF hcl 4 3 hx3
   have hx11 := ngF hcl 11 4 hx4
   have hx12 := ngF hcl 12 2 hx2
   obtain rfl := cu8 hx1
   obtain rfl := cr0_0 hx11
   obtain rfl := cr1_0
   refine hG (any_step ?_); clear hG G; intro A J hJ
   have hle0 := Fz.le.trans hle0 hle59
   have hzst := Fz.le.refl Z58
   have hs84 := hs4.mono hle59
   have hs85 := hs8.mono hle59
   refine s1 hFx 9 (.pointer (some ⟨b5, 0, none⟩)) ?_; intro a86 hF87; clear hFx
   refine nl (qnI (hJ _ _ ?_)); clear hJ J
   exact ⟨ao39, cap40, ao49, cap50, ud6, ud7, .pointer (some ⟨b5, 0, none⟩), .pointer (some ⟨b5, 0, none⟩), ud10, ud11, ud12, ud13, ud14, ud15, ud16, ud17, ud18, .row b1 [.bool u0.neg, .slice ao2 u0.abs.length cap3] 93, .row b5 [.bool u1.neg, .slice ao6 u1.abs.length cap7] 93, Z58, hle59, hF87.reg, hMx.perm lpr, (nt hx12), cu7, kf, kf, (nt hx3), (nt hx4), cu12, cu13, cu14, cu15, cu16, cu17, (nt hx11), kf, (nt hx11), rfl, cf0, (nt hx11)⟩
  ·
   obtain rfl := oj hi
   have hx2 := hpre 2 (by kernel_rfl)
   have hx1 := hcl 2 1 (by kernel_rfl) hx2
   have hx3 := hSi
   have hx4 := ngF hcl 4 3 hx3
   have hx11 := ngF hcl 11 4 hx4
   have hx12 := ngF hcl 12 3 hx3
   obtain rfl := cu8 hx1
   obtain rfl := cu9 hx2
   obtain rfl := cr0_0 hx11
   obtain rfl := cr1_0
   refine hG (any_step ?_); clear hG G; intro A J hJ
   have hle0 := Fz.le.trans hle0 hle59
   have hzst := Fz.le.refl Z58
   have hs89 := hs4.mono hle59
   have hs90 := hs8.mono hle59
   refine s1 hFx 10 (.pointer (some ⟨b5, 0, none⟩)) ?_; intro a91 hF92; clear hFx
   refine nl (qnI (hJ _ _ ?_)); clear hJ J
   exact ⟨ao39, cap40, ao49, cap50, ud6, ud7, .pointer (some ⟨b5, 0, none⟩), .pointer (some ⟨b5, 0, none⟩), .pointer (some ⟨b5, 0, none⟩), ud11, ud12, ud13, ud14, ud15, ud16, ud17, ud18, .row b1 [.bool u0.neg, .slice ao2 u0.abs.length cap3] 93, .row b5 [.bool u1.neg, .slice ao6 u1.abs.length cap7] 93, Z58, hle59, hF92.reg, hMx.perm lpr, (nt hx12), cu7, kf, kf, kf, (nt hx4), cu12, cu13, cu14, cu15, cu16, cu17, (nt hx11), kf, (nt hx11), rfl, cf0, (nt hx11)⟩
  ·
   obtain rfl := oj hi
   have hx3 := hpre 3 (by kernel_rfl)
   have hx2 := hcl 3 2 (by kernel_rfl) hx3
   have hx1 := hcl 2 1 (by kernel_rfl) hx2
   have hx4 := hSi
   have hx11 := ngF hcl 11 4 hx4
   have hx12 := ngF hcl 12 4 hx4
   obtain rfl := cu8 hx1
   obtain rfl := cu9 hx2
   obtain rfl := cu10 hx3
   obtain rfl := cr0_0 hx11
   obtain rfl := cr1_0
   refine hG (any_step ?_); clear hG G; intro A J hJ
   have hle0 := Fz.le.trans hle0 hle59
   have hzst := Fz.le.refl Z58
   have hs94 := hs4.mono hle59
   have hs95 := hs8.mono hle59
   refine l1 hFx hMx 11 1 0 (.bool u1.neg) rfl rfl ?_; intro a96 hF97; clear hFx
   refine nl (qnI (hJ _ _ ?_)); clear hJ J
   exact ⟨ao39, cap40, ao49, cap50, ud6, ud7, .pointer (some ⟨b5, 0, none⟩), .pointer (some ⟨b5, 0, none⟩), .pointer (some ⟨b5, 0, none⟩), .bool u1.neg, ud12, ud13, ud14, ud15, ud16, ud17, ud18, .row b1 [.bool u0.neg, .slice ao2 u0.abs.length cap3] 93, .row b5 [.bool u1.neg, .slice ao6 u1.abs.length cap7] 93, Z58, hle59, hF97.reg, hMx.perm lpr, (nt hx12), cu7, kf, kf, kf, kf, cu12, cu13, cu14, cu15, cu16, cu17, (nt hx11), kf, (nt hx11), rfl, cf0, (nt hx11)⟩
  ·
   obtain rfl := oj hi
   have hx5 := hSi
   have hx6 := ngF hcl 6 5 hx5
   have hx7 := ngF hcl 7 6 hx6
   have hx8 := ngF hcl 8 7 hx7
   have hx10 := ngF hcl 10 8 hx8
   have hx11 := ngF hcl 11 10 hx10
   have hx12 := ngF hcl 12 5 hx5
   obtain rfl := cr0_0 hx11
   obtain rfl := cr1_0
   refine hG (any_step ?_); clear hG G; intro A J hJ
   have hle0 := Fz.le.trans hle0 hle59
   have hzst := Fz.le.refl Z58
   have hs99 := hs4.mono hle59
   have hs100 := hs8.mono hle59
   refine s1 hFx 12 (.pointer (some ⟨b5, 0, none⟩)) ?_; intro a101 hF102; clear hFx
   refine nl (qnI (hJ _ _ ?_)); clear hJ J
   exact ⟨ao39, cap40, ao49, cap50, ud6, ud7, ud8, ud9, ud10, ud11, .pointer (some ⟨b5, 0, none⟩), ud13, ud14, ud15, ud16, ud17, ud18, .row b1 [.bool u0.neg, .slice ao2 u0.abs.length cap3] 93, .row b5 [.bool u1.neg, .slice ao6 u1.abs.length cap7] 93, Z58, hle59, hF102.reg, hMx.perm lpr, (nt hx12), cu7, cu8, cu9, cu10, cu11, kf, (nt hx6), (nt hx7), (nt hx8), cu16, (nt hx10), (nt hx11), kf, (nt hx11), rfl, (nt hx10), (nt hx11)⟩
  ·
   obtain rfl := oj hi
   have hx5 := hpre 5 (by kernel_rfl)
   have hx6 := hSi
   have hx7 := ngF hcl 7 6 hx6
   have hx8 := ngF hcl 8 7 hx7
   have hx10 := ngF hcl 10 8 hx8
   have hx11 := ngF hcl 11 10 hx10
   have hx12 := ngF hcl 12 6 hx6
   obtain rfl := cu12 hx5
   obtain rfl := cr0_0 hx11
   obtain rfl := cr1_0
   refine hG (any_step ?_); clear hG G; intro A J hJ
   have hle0 := Fz.le.trans hle0 hle59
   have hzst := Fz.le.refl Z58
   have hs104 := hs4.mono hle59
   have hs105 := hs8.mono hle59
   refine s1 hFx 13 (.pointer (some ⟨b5, 0, none⟩)) ?_; intro a106 hF107; clear hFx
   refine nl (qnI (hJ _ _ ?_)); clear hJ J
   exact ⟨ao39, cap40, ao49, cap50, ud6, ud7, ud8, ud9, ud10, ud11, .pointer (some ⟨b5, 0, none⟩), .pointer (some ⟨b5, 0, none⟩), ud14, ud15, ud16, ud17, ud18, .row b1 [.bool u0.neg, .slice ao2 u0.abs.length cap3] 93, .row b5 [.bool u1.neg, .slice ao6 u1.abs.length cap7] 93, Z58, hle59, hF107.reg, hMx.perm lpr, (nt hx12), cu7, cu8, cu9, cu10, cu11, kf, kf, (nt hx7), (nt hx8), cu16, (nt hx10), (nt hx11), kf, (nt hx11), rfl, (nt hx10), (nt hx11)⟩
  ·
   obtain rfl := oj hi
   have hx6 := hpre 6 (by kernel_rfl)
   have hx5 := hcl 6 5 (by kernel_rfl) hx6
   have hx7 := hSi
   have hx8 := ngF hcl 8 7 hx7
   have hx10 := ngF hcl 10 8 hx8
   have hx11 := ngF hcl 11 10 hx10
   have hx12 := ngF hcl 12 7 hx7
   obtain rfl := cu12 hx5
   obtain rfl := cu13 hx6
   obtain rfl := cr0_0 hx11
   obtain rfl := cr1_0
   refine hG (any_step ?_); clear hG G; intro A J hJ
   have hle0 := Fz.le.trans hle0 hle59
   have hzst := Fz.le.refl Z58
   have hs109 := hs4.mono hle59
   have hs110 := hs8.mono hle59
   refine s1 hFx 14 (.pointer (some ⟨b5, 1, none⟩)) ?_; intro a111 hF112; clear hFx
   refine nl (qnI (hJ _ _ ?_)); clear hJ J
   exact ⟨ao39, cap40, ao49, cap50, ud6, ud7, ud8, ud9, ud10, ud11, .pointer (some ⟨b5, 0, none⟩), .pointer (some ⟨b5, 0, none⟩), .pointer (some ⟨b5, 1, none⟩), ud15, ud16, ud17, ud18, .row b1 [.bool u0.neg, .slice ao2 u0.abs.length cap3] 93, .row b5 [.bool u1.neg, .slice ao6 u1.abs.length cap7] 93, Z58, hle59, hF112.reg, hMx.perm lpr, (nt hx12), cu7, cu8, cu9, cu10, cu11, kf, kf, kf, (nt hx8), cu16, (nt hx10), (nt hx11), kf, (nt hx11), rfl, (nt hx10), (nt hx11)⟩
  ·
   obtain rfl := oj hi
   have hx7 := hpre 7 (by kernel_rfl)
   have hx6 := hcl 7 6 (by kernel_rfl) hx7
   have hx5 := hcl 6 5 (by kernel_rfl) hx6
   have hx8 := hSi
   have hx10 := ngF hcl 10 8 hx8
   have hx11 := ngF hcl 11 10 hx10
   have hx12 := ngF hcl 12 8 hx8
   obtain rfl := cu12 hx5
   obtain rfl := cu13 hx6
   obtain rfl := cu14 hx7
   obtain rfl := cr0_0 hx11
   obtain rfl := cr1_0
   refine hG (any_step ?_); clear hG G; intro A J hJ
   have hle0 := Fz.le.trans hle0 hle59
   have hzst := Fz.le.refl Z58
   have hs114 := hs4.mono hle59
   have hs115 := hs8.mono hle59
   refine l1 hFx hMx 15 1 1 (.slice ao6 u1.abs.length cap7) rfl rfl ?_; intro a116 hF117; clear hFx
   refine nl (qnI (hJ _ _ ?_)); clear hJ J
   exact ⟨ao39, cap40, ao49, cap50, ud6, ud7, ud8, ud9, ud10, ud11, .pointer (some ⟨b5, 0, none⟩), .pointer (some ⟨b5, 0, none⟩), .pointer (some ⟨b5, 1, none⟩), .slice ao6 u1.abs.length cap7, ud16, ud17, ud18, .row b1 [.bool u0.neg, .slice ao2 u0.abs.length cap3] 93, .row b5 [.bool u1.neg, .slice ao6 u1.abs.length cap7] 93, Z58, hle59, hF117.reg, hMx.perm lpr, (nt hx12), cu7, cu8, cu9, cu10, cu11, kf, kf, kf, kf, cu16, (nt hx10), (nt hx11), kf, (nt hx11), rfl, (nt hx10), (nt hx11)⟩
  ·
   obtain rfl := oj hi
   have hx9 := hSi
   have hx10 := ngF hcl 10 9 hx9
   have hx11 := ngF hcl 11 10 hx10
   have hx12 := ngF hcl 12 9 hx9
   obtain rfl := cr0_0 hx11
   obtain rfl := cr1_0
   refine hG (any_step ?_); clear hG G; intro A J hJ
   have hle0 := Fz.le.trans hle0 hle59
   have hzst := Fz.le.refl Z58
   have hs119 := hs4.mono hle59
   have hs120 := hs8.mono hle59
   refine s1 hFx 16 (.int .u64 u2) ?_; intro a121 hF122; clear hFx
   refine nl (qnI (hJ _ _ ?_)); clear hJ J
   exact ⟨ao39, cap40, ao49, cap50, ud6, ud7, ud8, ud9, ud10, ud11, ud12, ud13, ud14, ud15, .int .u64 u2, ud17, ud18, .row b1 [.bool u0.neg, .slice ao2 u0.abs.length cap3] 93, .row b5 [.bool u1.neg, .slice ao6 u1.abs.length cap7] 93, Z58, hle59, hF122.reg, hMx.perm lpr, (nt hx12), cu7, cu8, cu9, cu10, cu11, cu12, cu13, cu14, cu15, kf, (nt hx10), (nt hx11), kf, (nt hx11), rfl, (nt hx10), (nt hx11)⟩
  ·
   obtain rfl := oj hi
   have hx9 := hpre 9 (by kernel_rfl)
   have hx8 := hpre 8 (by kernel_rfl)
   have hx7 := hcl 8 7 (by kernel_rfl) hx8
   have hx6 := hcl 7 6 (by kernel_rfl) hx7
   have hx5 := hcl 6 5 (by kernel_rfl) hx6
   have hx10 := hSi
   have hx11 := ngF hcl 11 10 hx10
   have hx12 := ngF hcl 12 10 hx10
   obtain rfl := cu12 hx5
   obtain rfl := cu13 hx6
   obtain rfl := cu14 hx7
   obtain rfl := cu15 hx8
   obtain rfl := cu16 hx9
   obtain rfl := cr0_0 hx11
   obtain rfl := cr1_0
   refine hG (any_step ?_); clear hG G; intro A J hJ
   have hle0 := Fz.le.trans hle0 hle59
   have hzst := Fz.le.refl Z58
   have hs124 := hs4.mono hle59
   have hs125 := hs8.mono hle59
   refine cl hFx 92 #[.slice ao6 u1.abs.length cap7, .int .u64 u2] (nog rfl _) rfl (by kernel_rfl) (by kernel_rfl) ?_
   refine (gleft_fun u1.abs u2 hcd10_0 ao6 cap7 _ _ hs125 hMx.fz).mono ?_; rintro _ wd126 ⟨ao130, cap131, Z133, rfl, hs132, hm⟩; refine ⟨_, rfl, ?_⟩; intro a127 hF128; have hM129 := hMx.callZ hm; have hle134 := hm.ext.le; clear hm hMx hFx
   replace hzst := hzst.mono hle134
   replace hs124 := hs124.mono hle134
   replace hs125 := hs125.mono hle134
   replace hle0 := Fz.le.trans hle0 hle134
   have hM135 : Mem B [] w0 Z0 ((.row b1 [.bool u0.neg, .slice ao2 u0.abs.length cap3] 93) :: (.row b5 [.bool u1.neg, .slice ao6 u1.abs.length cap7] 93) :: Rr) Z133 wd126 := hM129; clear hM129
   refine nl (qnI (hJ _ _ ?_)); clear hJ J
   exact ⟨ao130, cap131, ao49, cap50, ud6, ud7, ud8, ud9, ud10, ud11, .pointer (some ⟨b5, 0, none⟩), .pointer (some ⟨b5, 0, none⟩), .pointer (some ⟨b5, 1, none⟩), .slice ao6 u1.abs.length cap7, .int .u64 u2, .slice ao130 (gleftS u1.abs u2).length cap131, ud18, .row b1 [.bool u0.neg, .slice ao2 u0.abs.length cap3] 93, .row b5 [.bool u1.neg, .slice ao6 u1.abs.length cap7] 93, Z133, hle59.trans hzst, hF128.reg, hM135.perm lpr, (nt hx12), cu7, cu8, cu9, cu10, cu11, kf, kf, kf, kf, kf, kf, (nt hx11), kf, (nt hx11), rfl, (fun _ => hs132), (nt hx11)⟩
  ·
   obtain rfl := oj hi
   have hx10 := hpre 10 (by kernel_rfl)
   have hx4 := hpre 4 (by kernel_rfl)
   have hx0 := hpre 0 (by kernel_rfl)
   have hx9 := hcl 10 9 (by kernel_rfl) hx10
   have hx8 := hcl 10 8 (by kernel_rfl) hx10
   have hx3 := hcl 4 3 (by kernel_rfl) hx4
   have hx7 := hcl 8 7 (by kernel_rfl) hx8
   have hx2 := hcl 3 2 (by kernel_rfl) hx3
   have hx6 := hcl 7 6 (by kernel_rfl) hx7
   have hx1 := hcl 2 1 (by kernel_rfl) hx2
   have hx5 := hcl 6 5 (by kernel_rfl) hx6
   have hx11 := hSi
   have hx12 := ngF hcl 12 11 hx11
   obtain rfl := cu7 hx0
   obtain rfl := cu8 hx1
   obtain rfl := cu9 hx2
   obtain rfl := cu10 hx3
   obtain rfl := cu11 hx4
   obtain rfl := cu12 hx5
   obtain rfl := cu13 hx6
   obtain rfl := cu14 hx7
   obtain rfl := cu15 hx8
   obtain rfl := cu16 hx9
   obtain rfl := cu17 hx10
   obtain rfl := cr0_0 hx11
   obtain rfl := cr1_0
   refine hG (any_step ?_); clear hG G; intro A J hJ
   have hle0 := Fz.le.trans hle0 hle59
   have hzst := Fz.le.refl Z58
   have hs137 := hs4.mono hle59
   have hs138 := hs8.mono hle59
   have hs139 := cf0 hx10
   refine cl hFx 91 #[.pointer (some ⟨b1, 0, none⟩), .bool u1.neg, .slice ao39 (gleftS u1.abs u2).length cap40] (nog rfl _) rfl (by kernel_rfl) (by kernel_rfl) ?_
   refine (ggive_fun u0 u1.neg (gleftS u1.abs u2) b1 ao2 cap3 ao39 cap40 _ _ _ _ _ _ hs137 hs139 hMx hMx.fz).mono ?_; rintro _ wd140 ⟨ao144, cap145, Z147, rfl, hle148, hs146, hm⟩; refine ⟨_, rfl, ?_⟩; intro a141 hF142; have hM143 := hm; clear hm hMx hFx
   replace hzst := hzst.mono hle148
   replace hs137 := hs137.mono hle148
   replace hs138 := hs138.mono hle148
   replace hs139 := hs139.mono hle148
   replace hle0 := Fz.le.trans hle0 hle148
   have hM149 : Mem B [] w0 Z0 ((.row b1 [.bool ((ggive u0 u1.neg (gleftS u1.abs u2)).neg), .slice ao144 ((ggive u0 u1.neg (gleftS u1.abs u2)).abs).length cap145] 93) :: (.row b5 [.bool u1.neg, .slice ao6 u1.abs.length cap7] 93) :: Rr) Z147 wd140 := hM143; clear hM143
   refine nl (qnI (hJ _ _ ?_)); clear hJ J
   exact ⟨ao39, cap40, ao144, cap145, ud6, .pointer (some ⟨b1, 0, none⟩), .pointer (some ⟨b5, 0, none⟩), .pointer (some ⟨b5, 0, none⟩), .pointer (some ⟨b5, 0, none⟩), .bool u1.neg, .pointer (some ⟨b5, 0, none⟩), .pointer (some ⟨b5, 0, none⟩), .pointer (some ⟨b5, 1, none⟩), .slice ao6 u1.abs.length cap7, .int .u64 u2, .slice ao39 (gleftS u1.abs u2).length cap40, .pointer (some ⟨b1, 0, none⟩), .row b1 [.bool ((ggive u0 u1.neg (gleftS u1.abs u2)).neg), .slice ao144 ((ggive u0 u1.neg (gleftS u1.abs u2)).abs).length cap145] 93, .row b5 [.bool u1.neg, .slice ao6 u1.abs.length cap7] 93, Z147, hle59.trans hzst, hF142.reg, hM149.perm lpr, (nt hx12), kf, kf, kf, kf, kf, kf, kf, kf, kf, kf, kf, kf, nu, kf, rfl, (fun _ => hs139), (fun _ => hs146)⟩
  ·
   obtain rfl := oj hi
   have hx11 := hpre 11 (by kernel_rfl)
   have hx10 := hpre 10 (by kernel_rfl)
   have hx9 := hpre 9 (by kernel_rfl)
   have hx8 := hpre 8 (by kernel_rfl)
   have hx7 := hpre 7 (by kernel_rfl)
   have hx6 := hpre 6 (by kernel_rfl)
   have hx5 := hpre 5 (by kernel_rfl)
   have hx4 := hpre 4 (by kernel_rfl)
   have hx3 := hpre 3 (by kernel_rfl)
   have hx2 := hpre 2 (by kernel_rfl)
   have hx1 := hpre 1 (by kernel_rfl)
   have hx0 := hpre 0 (by kernel_rfl)
   have hx12 := hSi
   obtain rfl := cu7 hx0
   obtain rfl := cu8 hx1
   obtain rfl := cu9 hx2
   obtain rfl := cu10 hx3
   obtain rfl := cu11 hx4
   obtain rfl := cu12 hx5
   obtain rfl := cu13 hx6
   obtain rfl := cu14 hx7
   obtain rfl := cu15 hx8
   obtain rfl := cu16 hx9
   obtain rfl := cu17 hx10
   obtain rfl := cu18 hx11
   obtain rfl := cr0_1 hx11
   obtain rfl := cr1_0
   refine hG (any_step ?_); clear hG G; intro A J hJ
   have hle0 := Fz.le.trans hle0 hle59
   have hzst := Fz.le.refl Z58
   have hs151 := hs4.mono hle59
   have hs152 := hs8.mono hle59
   have hs153 := cf0 hx10
   have hs154 := cf1 hx11
   refine s1 hFx 6 (.pointer (some ⟨b1, 0, none⟩)) ?_; intro a155 hF156; clear hFx
   refine nl (qnI (hJ _ _ ?_)); clear hJ J
   exact ⟨ao39, cap40, ao49, cap50, .pointer (some ⟨b1, 0, none⟩), .pointer (some ⟨b1, 0, none⟩), .pointer (some ⟨b5, 0, none⟩), .pointer (some ⟨b5, 0, none⟩), .pointer (some ⟨b5, 0, none⟩), .bool u1.neg, .pointer (some ⟨b5, 0, none⟩), .pointer (some ⟨b5, 0, none⟩), .pointer (some ⟨b5, 1, none⟩), .slice ao6 u1.abs.length cap7, .int .u64 u2, .slice ao39 (gleftS u1.abs u2).length cap40, .pointer (some ⟨b1, 0, none⟩), .row b1 [.bool ((ggive u0 u1.neg (gleftS u1.abs u2)).neg), .slice ao49 ((ggive u0 u1.neg (gleftS u1.abs u2)).abs).length cap50] 93, .row b5 [.bool u1.neg, .slice ao6 u1.abs.length cap7] 93, Z58, hle59, hF156.reg, hMx.perm lpr, kf, kf, kf, kf, kf, kf, kf, kf, kf, kf, kf, kf, kf, (tn hx11), kf, rfl, (fun _ => hs153), (fun _ => hs154)⟩
 case hE =>
  intro S hS a158 wd159 hI; refine Go.Sy.hid ?_; intro G hG; obtain ⟨ao39, cap40, ao49, cap50, ud6, ud7, ud8, ud9, ud10, ud11, ud12, ud13, ud14, ud15, ud16, ud17, ud18, rh0, rh1, Z58, hle59, hFx, hMx, cu6, cu7, cu8, cu9, cu10, cu11, cu12, cu13, cu14, cu15, cu16, cu17, cu18, cr0_0, cr0_1, cr1_0, cf0, hI⟩ := hI; have cf1 := hI; clear hI; refine hG ?_; clear hG G
  obtain rfl := cu6 (hS 12 (by decide))
  obtain rfl := cu7 (hS 0 (by decide))
  obtain rfl := cu8 (hS 1 (by decide))
  obtain rfl := cu9 (hS 2 (by decide))
  obtain rfl := cu10 (hS 3 (by decide))
  obtain rfl := cu11 (hS 4 (by decide))
  obtain rfl := cu12 (hS 5 (by decide))
  obtain rfl := cu13 (hS 6 (by decide))
  obtain rfl := cu14 (hS 7 (by decide))
  obtain rfl := cu15 (hS 8 (by decide))
  obtain rfl := cu16 (hS 9 (by decide))
  obtain rfl := cu17 (hS 10 (by decide))
  obtain rfl := cu18 (hS 11 (by decide))
  obtain rfl := cr0_1 (hS 11 (by decide))
  obtain rfl := cr1_0
  have hle0 := Fz.le.trans hle0 hle59
  have hs160 := hs4.mono hle59
  have hs161 := hs8.mono hle59
  have hs162 := cf0 (hS 10 (by decide))
  have hs163 := cf1 (hS 11 (by decide))
  refine thn ?_
  refine wp_ret ?_
  refine rt (fn := Tryd.f55) (v := .pointer (some ⟨b1, 0, none⟩)) hFx (re1 hFx (fn := Tryd.f55) rfl (by kernel_rfl)) ?_
  exact ⟨((ggive u0 u1.neg (gleftS u1.abs u2)), u1), ao49, cap50, ao6, cap7, Z58, rfl, hp57, hle0, hs163, hs161, hMx.keep (List.Sublist.cons_cons _ (List.Sublist.cons_cons _ (List.Sublist.refl _)))⟩

set_option maxRecDepth 100000 in
set_option maxHeartbeats 0 in
theorem glshA_walk (u0 : BInt) (u2 : Int) (b1 : Nat) (ao2 : Option Addr) (cap3 : Nat) (B : Nat) (w0 : World) (Z0 : Fz) (Rr : List Res) (Z : Fz) (w : World) (hs4 : SlR (tyInt .u32) Z ao2 cap3 u0.abs) (hM0 : Mem B [] w0 Z0 ((.row b1 [.bool u0.neg, .slice ao2 u0.abs.length cap3] 93) :: Rr) Z w) (hZ : Z.on w) {K : BInt → Prop} (hp : glshA_vc u0 u2 K) : Calls Tryd.prog 55 #[.pointer (some ⟨b1, 0, none⟩), .pointer (some ⟨b1, 0, none⟩), .int .u64 u2] w fun e w' => ∃ (r : BInt) (ao1001 : Option Addr) (cap1002 : Nat) (Z' : Fz), e = .returned (.pointer (some ⟨b1, 0, none⟩)) ∧ K r ∧ Fz.le Z Z' ∧ SlR (tyInt .u32) Z' ao1001 cap1002 r.abs ∧ Mem B [] w0 Z0 ((.row b1 [.bool r.neg, .slice ao1001 r.abs.length cap1002] 93) :: Rr) Z' w' := by
 refine enter0 Tryd.func55 rfl rfl (by kernel_rfl) ?_; intro a0 hF0; have hle0 := Fz.le.refl Z
 have hp5 := hp (hs4.small); clear hp
 refine sqH ?_; intro hQ6Q hQ6
 refine s1 hF0 6 (.pointer none) ?_; intro a7 hF8; clear hF0
 refine nlH (hQ6 _ _ ?_); clear hQ6 hQ6Q
 have hF9 : Fr 19 [] [⟨0, [], .pointer (some ⟨b1, 0, none⟩)⟩, ⟨1, [], .pointer (some ⟨b1, 0, none⟩)⟩, ⟨2, [], .int .u64 u2⟩] a7 := hF8.reg; clear hF8
 have hcd10_0 := hp5.1; have hp52 := hp5.2; clear hp5
 refine wp_seq (any_invE mixed [[], [], [1], [2], [3], [], [5], [6], [7], [], [8, 9], [0, 4, 10], [0, 1, 2, 3, 4, 5, 6, 7, 8, 9, 10, 11]] 13 (fun S a w1 => ∃ (ao34 : Option Addr) (cap35 : Nat) (ao44 : Option Addr) (cap45 : Nat) (ud6 : Value) (ud7 : Value) (ud8 : Value) (ud9 : Value) (ud10 : Value) (ud11 : Value) (ud12 : Value) (ud13 : Value) (ud14 : Value) (ud15 : Value) (ud16 : Value) (ud17 : Value) (ud18 : Value) (rh0 : Res) (Z53 : Fz), Fz.le Z Z53 ∧ Fr 19 [] [⟨0, [], .pointer (some ⟨b1, 0, none⟩)⟩, ⟨1, [], .pointer (some ⟨b1, 0, none⟩)⟩, ⟨2, [], .int .u64 u2⟩, ⟨6, [], ud6⟩, ⟨7, [], ud7⟩, ⟨8, [], ud8⟩, ⟨9, [], ud9⟩, ⟨10, [], ud10⟩, ⟨11, [], ud11⟩, ⟨12, [], ud12⟩, ⟨13, [], ud13⟩, ⟨14, [], ud14⟩, ⟨15, [], ud15⟩, ⟨16, [], ud16⟩, ⟨17, [], ud17⟩, ⟨18, [], ud18⟩] a ∧ Mem B [] w0 Z0 (rh0 :: Rr) Z53 w1 ∧ (S 12 = true → ud6 = .pointer (some ⟨b1, 0, none⟩)) ∧ (S 0 = true → ud7 = .pointer (some ⟨b1, 0, none⟩)) ∧ (S 1 = true → ud8 = .pointer (some ⟨b1, 0, none⟩)) ∧ (S 2 = true → ud9 = .pointer (some ⟨b1, 0, none⟩)) ∧ (S 3 = true → ud10 = .pointer (some ⟨b1, 0, none⟩)) ∧ (S 4 = true → ud11 = .bool u0.neg) ∧ (S 5 = true → ud12 = .pointer (some ⟨b1, 0, none⟩)) ∧ (S 6 = true → ud13 = .pointer (some ⟨b1, 0, none⟩)) ∧ (S 7 = true → ud14 = .pointer (some ⟨b1, 1, none⟩)) ∧ (S 8 = true → ud15 = .slice ao2 u0.abs.length cap3) ∧ (S 9 = true → ud16 = .int .u64 u2) ∧ (S 10 = true → ud17 = .slice ao34 (gleftS u0.abs u2).length cap35) ∧ (S 11 = true → ud18 = .pointer (some ⟨b1, 0, none⟩)) ∧ (S 11 = false → rh0 = .row b1 [.bool u0.neg, .slice ao2 u0.abs.length cap3] 93) ∧ (S 11 = true → rh0 = .row b1 [.bool ((ggive u0 u0.neg (gleftS u0.abs u2)).neg), .slice ao44 ((ggive u0 u0.neg (gleftS u0.abs u2)).abs).length cap45] 93) ∧ (S 10 = true → SlR (tyInt .u32) Z53 ao34 cap35 (gleftS u0.abs u2)) ∧ (S 11 = true → SlR (tyInt .u32) Z53 ao44 cap45 ((ggive u0 u0.neg (gleftS u0.abs u2)).abs))) ?h0 ?hs ?hE)
 case h0 =>
  have hF55 := hF9.any 6
  have hF56 := hF55.any 7
  have hF57 := hF56.any 8
  have hF58 := hF57.any 9
  have hF59 := hF58.any 10
  have hF60 := hF59.any 11
  have hF61 := hF60.any 12
  have hF62 := hF61.any 13
  have hF63 := hF62.any 14
  have hF64 := hF63.any 15
  have hF65 := hF64.any 16
  have hF66 := hF65.any 17
  have hF67 := hF66.any 18
  have hM68 := (hM0.perm lpr).drew
  exact ⟨none, 0, none, 0, a7.tmps.getD 6 undef, a7.tmps.getD 7 undef, a7.tmps.getD 8 undef, a7.tmps.getD 9 undef, a7.tmps.getD 10 undef, a7.tmps.getD 11 undef, a7.tmps.getD 12 undef, a7.tmps.getD 13 undef, a7.tmps.getD 14 undef, a7.tmps.getD 15 undef, a7.tmps.getD 16 undef, a7.tmps.getD 17 undef, a7.tmps.getD 18 undef, .row b1 [.bool u0.neg, .slice ao2 u0.abs.length cap3] 93, Z, Fz.le.refl _, hF67.reg, hM68, ff, ff, ff, ff, ff, ff, ff, ff, ff, ff, ff, ff, ff, kf, ff, ff, ff⟩
 case hs =>
  intro S hcl i o hil hi hSi hpre a w1 hI; refine Go.Sy.hid ?_; intro G hG; obtain ⟨ao34, cap35, ao44, cap45, ud6, ud7, ud8, ud9, ud10, ud11, ud12, ud13, ud14, ud15, ud16, ud17, ud18, rh0, Z53, hle54, hFx, hMx, cu6, cu7, cu8, cu9, cu10, cu11, cu12, cu13, cu14, cu15, cu16, cu17, cu18, cr0_0, cr0_1, cf0, hI⟩ := hI; have cf1 := hI; clear hI
  have hcase : i = 0 ∨ i = 1 ∨ i = 2 ∨ i = 3 ∨ i = 4 ∨ i = 5 ∨ i = 6 ∨ i = 7 ∨ i = 8 ∨ i = 9 ∨ i = 10 ∨ i = 11 ∨ i = 12 := by clear hi; omega
  rcases hcase with rfl | rfl | rfl | rfl | rfl | rfl | rfl | rfl | rfl | rfl | rfl | rfl | rfl
  ·
   obtain rfl := oj hi
   have hx0 := hSi
   have hx11 := ngF hcl 11 0 hx0
   have hx12 := ngF hcl 12 0 hx0
   obtain rfl := cr0_0 hx11
   refine hG (any_step ?_); clear hG G; intro A J hJ
   have hle0 := Fz.le.trans hle0 hle54
   have hzst := Fz.le.refl Z53
   have hs69 := hs4.mono hle54
   refine s1 hFx 7 (.pointer (some ⟨b1, 0, none⟩)) ?_; intro a70 hF71; clear hFx
   refine nl (qnI (hJ _ _ ?_)); clear hJ J
   exact ⟨ao34, cap35, ao44, cap45, ud6, .pointer (some ⟨b1, 0, none⟩), ud8, ud9, ud10, ud11, ud12, ud13, ud14, ud15, ud16, ud17, ud18, .row b1 [.bool u0.neg, .slice ao2 u0.abs.length cap3] 93, Z53, hle54, hF71.reg, hMx.perm lpr, (nt hx12), kf, cu8, cu9, cu10, cu11, cu12, cu13, cu14, cu15, cu16, cu17, (nt hx11), kf, (nt hx11), cf0, (nt hx11)⟩
  ·
   obtain rfl := oj hi
   have hx1 := hSi
   have hx2 := ngF hcl 2 1 hx1
   have hx3 := ngF hcl 3 2 hx2
   have hx4 := ngF hcl 4 3 hx3
   have hx11 := ngF hcl 11 4 hx4
   have hx12 := ngF hcl 12 1 hx1
   obtain rfl := cr0_0 hx11
   refine hG (any_step ?_); clear hG G; intro A J hJ
   have hle0 := Fz.le.trans hle0 hle54
   have hzst := Fz.le.refl Z53
   have hs73 := hs4.mono hle54
   refine s1 hFx 8 (.pointer (some ⟨b1, 0, none⟩)) ?_; intro a74 hF75; clear hFx
   refine nl (qnI (hJ _ _ ?_)); clear hJ J
   exact ⟨ao34, cap35, ao44, cap45, ud6, ud7, .pointer (some ⟨b1, 0, none⟩), ud9, ud10, ud11, ud12, ud13, ud14, ud15, ud16, ud17, ud18, .row b1 [.bool u0.neg, .slice ao2 u0.abs.length cap3] 93, Z53, hle54, hF75.reg, hMx.perm lpr, (nt hx12), cu7, kf, (nt hx2), (nt hx3), (nt hx4), cu12, cu13, cu14, cu15, cu16, cu17, (nt hx11), kf, (nt hx11), cf0, (nt hx11)⟩
  ·
   obtain rfl := oj hi
   have hx1 := hpre 1 (by kernel_rfl)
   have hx2 := hSi
   have hx3 := ngF hcl 3 2 hx2
   have hx4 := ngF hcl 4 3 hx3
   have hx11 := ngF hcl 11 4 hx4
   have hx12 := ngF hcl 12 2 hx2
   obtain rfl := cu8 hx1
   obtain rfl := cr0_0 hx11
   refine hG (any_step ?_); clear hG G; intro A J hJ
   have hle0 := Fz.le.trans hle0 hle54
   have hzst := Fz.le.refl Z53
   have hs77 := hs4.mono hle54
   refine s1 hFx 9 (.pointer (some ⟨b1, 0, none⟩)) ?_; intro a78 hF79; clear hFx
   refine nl (qnI (hJ _ _ ?_)); clear hJ J
   exact ⟨ao34, cap35, ao44, cap45, ud6, ud7, .pointer (some ⟨b1, 0, none⟩), .pointer (some ⟨b1, 0, none⟩), ud10, ud11, ud12, ud13, ud14, ud15, ud16, ud17, ud18, .row b1 [.bool u0.neg, .slice ao2 u0.abs.length cap3] 93, Z53, hle54, hF79.reg, hMx.perm lpr, (nt hx12), cu7, kf, kf, (nt hx3), (nt hx4), cu12, cu13, cu14, cu15, cu16, cu17, (nt hx11), kf, (nt hx11), cf0, (nt hx11)⟩
  ·
   obtain rfl := oj hi
   have hx2 := hpre 2 (by kernel_rfl)
   have hx1 := hcl 2 1 (by kernel_rfl) hx2
   have hx3 := hSi
   have hx4 := ngF hcl 4 3 hx3
   have hx11 := ngF hcl 11 4 hx4
   have hx12 := ngF hcl 12 3 hx3
   obtain rfl := cu8 hx1
   obtain rfl := cu9 hx2
   obtain rfl := cr0_0 hx11
   refine hG (any_step ?_); clear hG G; intro A J hJ
   have hle0 := Fz.le.trans hle0 hle54
   have hzst := Fz.le.refl Z53
   have hs81 := hs4.mono hle54
   refine s1 hFx 10 (.pointer (some ⟨b1, 0, none⟩)) ?_; intro a82 hF83; clear hFx
   refine nl (qnI (hJ _ _ ?_)); clear hJ J
   exact ⟨ao34, cap35, ao44, cap45, ud6, ud7, .pointer (some ⟨b1, 0, none⟩), .pointer (some ⟨b1, 0, none⟩), .pointer (some ⟨b1, 0, none⟩), ud11, ud12, ud13, ud14, ud15, ud16, ud17, ud18, .row b1 [.bool u0.neg, .slice ao2 u0.abs.length cap3] 93, Z53, hle54, hF83.reg, hMx.perm lpr, (nt hx12), cu7, kf, kf, kf, (nt hx4), cu12, cu13, cu14, cu15, cu16, cu17, (nt hx11), kf, (nt hx11), cf0, (nt hx11)⟩
  ·
   obtain rfl := oj hi
   have hx3 := hpre 3 (by kernel_rfl)
   have hx2 := hcl 3 2 (by kernel_rfl) hx3
   have hx1 := hcl 2 1 (by kernel_rfl) hx2
   have hx4 := hSi
   have hx11 := ngF hcl 11 4 hx4
   have hx12 := ngF hcl 12 4 hx4
   obtain rfl := cu8 hx1
   obtain rfl := cu9 hx2
   obtain rfl := cu10 hx3
   obtain rfl := cr0_0 hx11
   refine hG (any_step ?_); clear hG G; intro A J hJ
   have hle0 := Fz.le.trans hle0 hle54
   have hzst := Fz.le.refl Z53
   have hs85 := hs4.mono hle54
   refine l1 hFx hMx 11 0 0 (.bool u0.neg) rfl rfl ?_; intro a86 hF87; clear hFx
   refine nl (qnI (hJ _ _ ?_)); clear hJ J
   exact ⟨ao34, cap35, ao44, cap45, ud6, ud7, .pointer (some ⟨b1, 0, none⟩), .pointer (some ⟨b1, 0, none⟩), .pointer (some ⟨b1, 0, none⟩), .bool u0.neg, ud12, ud13, ud14, ud15, ud16, ud17, ud18, .row b1 [.bool u0.neg, .slice ao2 u0.abs.length cap3] 93, Z53, hle54, hF87.reg, hMx.perm lpr, (nt hx12), cu7, kf, kf, kf, kf, cu12, cu13, cu14, cu15, cu16, cu17, (nt hx11), kf, (nt hx11), cf0, (nt hx11)⟩
  ·
   obtain rfl := oj hi
   have hx5 := hSi
   have hx6 := ngF hcl 6 5 hx5
   have hx7 := ngF hcl 7 6 hx6
   have hx8 := ngF hcl 8 7 hx7
   have hx10 := ngF hcl 10 8 hx8
   have hx11 := ngF hcl 11 10 hx10
   have hx12 := ngF hcl 12 5 hx5
   obtain rfl := cr0_0 hx11
   refine hG (any_step ?_); clear hG G; intro A J hJ
   have hle0 := Fz.le.trans hle0 hle54
   have hzst := Fz.le.refl Z53
   have hs89 := hs4.mono hle54
   refine s1 hFx 12 (.pointer (some ⟨b1, 0, none⟩)) ?_; intro a90 hF91; clear hFx
   refine nl (qnI (hJ _ _ ?_)); clear hJ J
   exact ⟨ao34, cap35, ao44, cap45, ud6, ud7, ud8, ud9, ud10, ud11, .pointer (some ⟨b1, 0, none⟩), ud13, ud14, ud15, ud16, ud17, ud18, .row b1 [.bool u0.neg, .slice ao2 u0.abs.length cap3] 93, Z53, hle54, hF91.reg, hMx.perm lpr, (nt hx12), cu7, cu8, cu9, cu10, cu11, kf, (nt hx6), (nt hx7), (nt hx8), cu16, (nt hx10), (nt hx11), kf, (nt hx11), (nt hx10), (nt hx11)⟩
  ·
   obtain rfl := oj hi
   have hx5 := hpre 5 (by kernel_rfl)
   have hx6 := hSi
   have hx7 := ngF hcl 7 6 hx6
   have hx8 := ngF hcl 8 7 hx7
   have hx10 := ngF hcl 10 8 hx8
   have hx11 := ngF hcl 11 10 hx10
   have hx12 := ngF hcl 12 6 hx6
   obtain rfl := cu12 hx5
   obtain rfl := cr0_0 hx11
   refine hG (any_step ?_); clear hG G; intro A J hJ
   have hle0 := Fz.le.trans hle0 hle54
   have hzst := Fz.le.refl Z53
   have hs93 := hs4.mono hle54
   refine s1 hFx 13 (.pointer (some ⟨b1, 0, none⟩)) ?_; intro a94 hF95; clear hFx
   refine nl (qnI (hJ _ _ ?_)); clear hJ J
   exact ⟨ao34, cap35, ao44, cap45, ud6, ud7, ud8, ud9, ud10, ud11, .pointer (some ⟨b1, 0, none⟩), .pointer (some ⟨b1, 0, none⟩), ud14, ud15, ud16, ud17, ud18, .row b1 [.bool u0.neg, .slice ao2 u0.abs.length cap3] 93, Z53, hle54, hF95.reg, hMx.perm lpr, (nt hx12), cu7, cu8, cu9, cu10, cu11, kf, kf, (nt hx7), (nt hx8), cu16, (nt hx10), (nt hx11), kf, (nt hx11), (nt hx10), (nt hx11)⟩
  ·
   obtain rfl := oj hi
   have hx6 := hpre 6 (by kernel_rfl)
   have hx5 := hcl 6 5 (by kernel_rfl) hx6
   have hx7 := hSi
   have hx8 := ngF hcl 8 7 hx7
   have hx10 := ngF hcl 10 8 hx8
   have hx11 := ngF hcl 11 10 hx10
   have hx12 := ngF hcl 12 7 hx7
   obtain rfl := cu12 hx5
   obtain rfl := cu13 hx6
   obtain rfl := cr0_0 hx11
   refine hG (any_step ?_); clear hG G; intro A J hJ
   have hle0 := Fz.le.trans hle0 hle54
   have hzst := Fz.le.refl Z53
   have hs97 := hs4.mono hle54
   refine s1 hFx 14 (.pointer (some ⟨b1, 1, none⟩)) ?_; intro a98 hF99; clear hFx
   refine nl (qnI (hJ _ _ ?_)); clear hJ J
   exact ⟨ao34, cap35, ao44, cap45, ud6, ud7, ud8, ud9, ud10, ud11, .pointer (some ⟨b1, 0, none⟩), .pointer (some ⟨b1, 0, none⟩), .pointer (some ⟨b1, 1, none⟩), ud15, ud16, ud17, ud18, .row b1 [.bool u0.neg, .slice ao2 u0.abs.length cap3] 93, Z53, hle54, hF99.reg, hMx.perm lpr, (nt hx12), cu7, cu8, cu9, cu10, cu11, kf, kf, kf, (nt hx8), cu16, (nt hx10), (nt hx11), kf, (nt hx11), (nt hx10), (nt hx11)⟩
  ·
   obtain rfl := oj hi
   have hx7 := hpre 7 (by kernel_rfl)
   have hx6 := hcl 7 6 (by kernel_rfl) hx7
   have hx5 := hcl 6 5 (by kernel_rfl) hx6
   have hx8 := hSi
   have hx10 := ngF hcl 10 8 hx8
   have hx11 := ngF hcl 11 10 hx10
   have hx12 := ngF hcl 12 8 hx8
   obtain rfl := cu12 hx5
   obtain rfl := cu13 hx6
   obtain rfl := cu14 hx7
   obtain rfl := cr0_0 hx11
   refine hG (any_step ?_); clear hG G; intro A J hJ
   have hle0 := Fz.le.trans hle0 hle54
   have hzst := Fz.le.refl Z53
   have hs101 := hs4.mono hle54
   refine l1 hFx hMx 15 0 1 (.slice ao2 u0.abs.length cap3) rfl rfl ?_; intro a102 hF103; clear hFx
   refine nl (qnI (hJ _ _ ?_)); clear hJ J
   exact ⟨ao34, cap35, ao44, cap45, ud6, ud7, ud8, ud9, ud10, ud11, .pointer (some ⟨b1, 0, none⟩), .pointer (some ⟨b1, 0, none⟩), .pointer (some ⟨b1, 1, none⟩), .slice ao2 u0.abs.length cap3, ud16, ud17, ud18, .row b1 [.bool u0.neg, .slice ao2 u0.abs.length cap3] 93, Z53, hle54, hF103.reg, hMx.perm lpr, (nt hx12), cu7, cu8, cu9, cu10, cu11, kf, kf, kf, kf, cu16, (nt hx10), (nt hx11), kf, (nt hx11), (nt hx10), (nt hx11)⟩
  ·
   obtain rfl := oj hi
   have hx9 := hSi
   have hx10 := ngF hcl 10 9 hx9
   have hx11 := ngF hcl 11 10 hx10
   have hx12 := ngF hcl 12 9 hx9
   obtain rfl := cr0_0 hx11
   refine hG (any_step ?_); clear hG G; intro A J hJ
   have hle0 := Fz.le.trans hle0 hle54
   have hzst := Fz.le.refl Z53
   have hs105 := hs4.mono hle54
   refine s1 hFx 16 (.int .u64 u2) ?_; intro a106 hF107; clear hFx
   refine nl (qnI (hJ _ _ ?_)); clear hJ J
   exact ⟨ao34, cap35, ao44, cap45, ud6, ud7, ud8, ud9, ud10, ud11, ud12, ud13, ud14, ud15, .int .u64 u2, ud17, ud18, .row b1 [.bool u0.neg, .slice ao2 u0.abs.length cap3] 93, Z53, hle54, hF107.reg, hMx.perm lpr, (nt hx12), cu7, cu8, cu9, cu10, cu11, cu12, cu13, cu14, cu15, kf, (nt hx10), (nt hx11), kf, (nt hx11), (nt hx10), (nt hx11)⟩
  ·
   obtain rfl := oj hi
   have hx9 := hpre 9 (by kernel_rfl)
   have hx8 := hpre 8 (by kernel_rfl)
   have hx7 := hcl 8 7 (by kernel_rfl) hx8
   have hx6 := hcl 7 6 (by kernel_rfl) hx7
   have hx5 := hcl 6 5 (by kernel_rfl) hx6
   have hx10 := hSi
   have hx11 := ngF hcl 11 10 hx10
   have hx12 := ngF hcl 12 10 hx10
   obtain rfl := cu12 hx5
   obtain rfl := cu13 hx6
   obtain rfl := cu14 hx7
   obtain rfl := cu15 hx8
   obtain rfl := cu16 hx9
   obtain rfl := cr0_0 hx11
   refine hG (any_step ?_); clear hG G; intro A J hJ
   have hle0 := Fz.le.trans hle0 hle54
   have hzst := Fz.le.refl Z53
   have hs109 := hs4.mono hle54
   refine cl hFx 92 #[.slice ao2 u0.abs.length cap3, .int .u64 u2] (nog rfl _) rfl (by kernel_rfl) (by kernel_rfl) ?_
   refine (gleft_fun u0.abs u2 hcd10_0 ao2 cap3 _ _ hs109 hMx.fz).mono ?_; rintro _ wd110 ⟨ao114, cap115, Z117, rfl, hs116, hm⟩; refine ⟨_, rfl, ?_⟩; intro a111 hF112; have hM113 := hMx.callZ hm; have hle118 := hm.ext.le; clear hm hMx hFx
   replace hzst := hzst.mono hle118
   replace hs109 := hs109.mono hle118
   replace hle0 := Fz.le.trans hle0 hle118
   have hM119 : Mem B [] w0 Z0 ((.row b1 [.bool u0.neg, .slice ao2 u0.abs.length cap3] 93) :: Rr) Z117 wd110 := hM113; clear hM113
   refine nl (qnI (hJ _ _ ?_)); clear hJ J
   exact ⟨ao114, cap115, ao44, cap45, ud6, ud7, ud8, ud9, ud10, ud11, .pointer (some ⟨b1, 0, none⟩), .pointer (some ⟨b1, 0, none⟩), .pointer (some ⟨b1, 1, none⟩), .slice ao2 u0.abs.length cap3, .int .u64 u2, .slice ao114 (gleftS u0.abs u2).length cap115, ud18, .row b1 [.bool u0.neg, .slice ao2 u0.abs.length cap3] 93, Z117, hle54.trans hzst, hF112.reg, hM119.perm lpr, (nt hx12), cu7, cu8, cu9, cu10, cu11, kf, kf, kf, kf, kf, kf, (nt hx11), kf, (nt hx11), (fun _ => hs116), (nt hx11)⟩
  ·
   obtain rfl := oj hi
   have hx10 := hpre 10 (by kernel_rfl)
   have hx4 := hpre 4 (by kernel_rfl)
   have hx0 := hpre 0 (by kernel_rfl)
   have hx9 := hcl 10 9 (by kernel_rfl) hx10
   have hx8 := hcl 10 8 (by kernel_rfl) hx10
   have hx3 := hcl 4 3 (by kernel_rfl) hx4
   have hx7 := hcl 8 7 (by kernel_rfl) hx8
   have hx2 := hcl 3 2 (by kernel_rfl) hx3
   have hx6 := hcl 7 6 (by kernel_rfl) hx7
   have hx1 := hcl 2 1 (by kernel_rfl) hx2
   have hx5 := hcl 6 5 (by kernel_rfl) hx6
   have hx11 := hSi
   have hx12 := ngF hcl 12 11 hx11
   obtain rfl := cu7 hx0
   obtain rfl := cu8 hx1
   obtain rfl := cu9 hx2
   obtain rfl := cu10 hx3
   obtain rfl := cu11 hx4
   obtain rfl := cu12 hx5
   obtain rfl := cu13 hx6
   obtain rfl := cu14 hx7
   obtain rfl := cu15 hx8
   obtain rfl := cu16 hx9
   obtain rfl := cu17 hx10
   obtain rfl := cr0_0 hx11
   refine hG (any_step ?_); clear hG G; intro A J hJ
   have hle0 := Fz.le.trans hle0 hle54
   have hzst := Fz.le.refl Z53
   have hs121 := hs4.mono hle54
   have hs122 := cf0 hx10
   refine cl hFx 91 #[.pointer (some ⟨b1, 0, none⟩), .bool u0.neg, .slice ao34 (gleftS u0.abs u2).length cap35] (nog rfl _) rfl (by kernel_rfl) (by kernel_rfl) ?_
   refine (ggive_fun u0 u0.neg (gleftS u0.abs u2) b1 ao2 cap3 ao34 cap35 _ _ _ _ _ _ hs121 hs122 hMx hMx.fz).mono ?_; rintro _ wd123 ⟨ao127, cap128, Z130, rfl, hle131, hs129, hm⟩; refine ⟨_, rfl, ?_⟩; intro a124 hF125; have hM126 := hm; clear hm hMx hFx
   replace hzst := hzst.mono hle131
   replace hs121 := hs121.mono hle131
   replace hs122 := hs122.mono hle131
   replace hle0 := Fz.le.trans hle0 hle131
   have hM132 : Mem B [] w0 Z0 ((.row b1 [.bool ((ggive u0 u0.neg (gleftS u0.abs u2)).neg), .slice ao127 ((ggive u0 u0.neg (gleftS u0.abs u2)).abs).length cap128] 93) :: Rr) Z130 wd123 := hM126; clear hM126
   refine nl (qnI (hJ _ _ ?_)); clear hJ J
   exact ⟨ao34, cap35, ao127, cap128, ud6, .pointer (some ⟨b1, 0, none⟩), .pointer (some ⟨b1, 0, none⟩), .pointer (some ⟨b1, 0, none⟩), .pointer (some ⟨b1, 0, none⟩), .bool u0.neg, .pointer (some ⟨b1, 0, none⟩), .pointer (some ⟨b1, 0, none⟩), .pointer (some ⟨b1, 1, none⟩), .slice ao2 u0.abs.length cap3, .int .u64 u2, .slice ao34 (gleftS u0.abs u2).length cap35, .pointer (some ⟨b1, 0, none⟩), .row b1 [.bool ((ggive u0 u0.neg (gleftS u0.abs u2)).neg), .slice ao127 ((ggive u0 u0.neg (gleftS u0.abs u2)).abs).length cap128] 93, Z130, hle54.trans hzst, hF125.reg, hM132.perm lpr, (nt hx12), kf, kf, kf, kf, kf, kf, kf, kf, kf, kf, kf, kf, nu, kf, (fun _ => hs122), (fun _ => hs129)⟩
  ·
   obtain rfl := oj hi
   have hx11 := hpre 11 (by kernel_rfl)
   have hx10 := hpre 10 (by kernel_rfl)
   have hx9 := hpre 9 (by kernel_rfl)
   have hx8 := hpre 8 (by kernel_rfl)
   have hx7 := hpre 7 (by kernel_rfl)
   have hx6 := hpre 6 (by kernel_rfl)
   have hx5 := hpre 5 (by kernel_rfl)
   have hx4 := hpre 4 (by kernel_rfl)
   have hx3 := hpre 3 (by kernel_rfl)
   have hx2 := hpre 2 (by kernel_rfl)
   have hx1 := hpre 1 (by kernel_rfl)
   have hx0 := hpre 0 (by kernel_rfl)
   have hx12 := hSi
   obtain rfl := cu7 hx0
   obtain rfl := cu8 hx1
   obtain rfl := cu9 hx2
   obtain rfl := cu10 hx3
   obtain rfl := cu11 hx4
   obtain rfl := cu12 hx5
   obtain rfl := cu13 hx6
   obtain rfl := cu14 hx7
   obtain rfl := cu15 hx8
   obtain rfl := cu16 hx9
   obtain rfl := cu17 hx10
   obtain rfl := cu18 hx11
   obtain rfl := cr0_1 hx11
   refine hG (any_step ?_); clear hG G; intro A J hJ
   have hle0 := Fz.le.trans hle0 hle54
   have hzst := Fz.le.refl Z53
   have hs134 := hs4.mono hle54
   have hs135 := cf0 hx10
   have hs136 := cf1 hx11
   refine s1 hFx 6 (.pointer (some ⟨b1, 0, none⟩)) ?_; intro a137 hF138; clear hFx
   refine nl (qnI (hJ _ _ ?_)); clear hJ J
   exact ⟨ao34, cap35, ao44, cap45, .pointer (some ⟨b1, 0, none⟩), .pointer (some ⟨b1, 0, none⟩), .pointer (some ⟨b1, 0, none⟩), .pointer (some ⟨b1, 0, none⟩), .pointer (some ⟨b1, 0, none⟩), .bool u0.neg, .pointer (some ⟨b1, 0, none⟩), .pointer (some ⟨b1, 0, none⟩), .pointer (some ⟨b1, 1, none⟩), .slice ao2 u0.abs.length cap3, .int .u64 u2, .slice ao34 (gleftS u0.abs u2).length cap35, .pointer (some ⟨b1, 0, none⟩), .row b1 [.bool ((ggive u0 u0.neg (gleftS u0.abs u2)).neg), .slice ao44 ((ggive u0 u0.neg (gleftS u0.abs u2)).abs).length cap45] 93, Z53, hle54, hF138.reg, hMx.perm lpr, kf, kf, kf, kf, kf, kf, kf, kf, kf, kf, kf, kf, kf, (tn hx11), kf, (fun _ => hs135), (fun _ => hs136)⟩
 case hE =>
  intro S hS a140 wd141 hI; refine Go.Sy.hid ?_; intro G hG; obtain ⟨ao34, cap35, ao44, cap45, ud6, ud7, ud8, ud9, ud10, ud11, ud12, ud13, ud14, ud15, ud16, ud17, ud18, rh0, Z53, hle54, hFx, hMx, cu6, cu7, cu8, cu9, cu10, cu11, cu12, cu13, cu14, cu15, cu16, cu17, cu18, cr0_0, cr0_1, cf0, hI⟩ := hI; have cf1 := hI; clear hI; refine hG ?_; clear hG G
  obtain rfl := cu6 (hS 12 (by decide))
  obtain rfl := cu7 (hS 0 (by decide))
  obtain rfl := cu8 (hS 1 (by decide))
  obtain rfl := cu9 (hS 2 (by decide))
  obtain rfl := cu10 (hS 3 (by decide))
  obtain rfl := cu11 (hS 4 (by decide))
  obtain rfl := cu12 (hS 5 (by decide))
  obtain rfl := cu13 (hS 6 (by decide))
  obtain rfl := cu14 (hS 7 (by decide))
  obtain rfl := cu15 (hS 8 (by decide))
  obtain rfl := cu16 (hS 9 (by decide))
  obtain rfl := cu17 (hS 10 (by decide))
  obtain rfl := cu18 (hS 11 (by decide))
  obtain rfl := cr0_1 (hS 11 (by decide))
  have hle0 := Fz.le.trans hle0 hle54
  have hs142 := hs4.mono hle54
  have hs143 := cf0 (hS 10 (by decide))
  have hs144 := cf1 (hS 11 (by decide))
  refine thn ?_
  refine wp_ret ?_
  refine rt (fn := Tryd.f55) (v := .pointer (some ⟨b1, 0, none⟩)) hFx (re1 hFx (fn := Tryd.f55) rfl (by kernel_rfl)) ?_
  exact ⟨(ggive u0 u0.neg (gleftS u0.abs u2)), ao44, cap45, Z53, rfl, hp52, hle0, hs144, hMx.keep (List.Sublist.cons_cons _ (List.Sublist.refl _))⟩

set_option maxRecDepth 100000 in
set_option maxHeartbeats 0 in
theorem gblen_walk (u0 : BInt) (b1 : Nat) (ao2 : Option Addr) (cap3 : Nat) (B : Nat) (w0 : World) (Z0 : Fz) (Rr : List Res) (Z : Fz) (w : World) (hs4 : SlR (tyInt .u32) Z ao2 cap3 u0.abs) (hM0 : Mem B [] w0 Z0 ((.row b1 [.bool u0.neg, .slice ao2 u0.abs.length cap3] 93) :: Rr) Z w) (hZ : Z.on w) {K : (Int × BInt) → Prop} (hp : gblen_vc u0 K) : Calls Tryd.prog 59 #[.pointer (some ⟨b1, 0, none⟩)] w fun e w' => ∃ (r : Int × BInt) (ao1001 : Option Addr) (cap1002 : Nat) (Z' : Fz), e = .returned (.int .i64 r.1) ∧ K r ∧ Fz.le Z Z' ∧ SlR (tyInt .u32) Z' ao1001 cap1002 r.2.abs ∧ Mem B [] w0 Z0 ((.row b1 [.bool r.2.neg, .slice ao1001 r.2.abs.length cap1002] 93) :: Rr) Z' w' := by
 refine enter0 Tryd.func59 rfl rfl (by kernel_rfl) ?_; intro a0 hF0; have hle0 := Fz.le.refl Z
 have hp5 := hp (hs4.small); clear hp
 refine sqH ?_; intro hQ6Q hQ6
 refine s1 hF0 2 (.int .i64 0) ?_; intro a7 hF8; clear hF0
 refine nlH (hQ6 _ _ ?_); clear hQ6 hQ6Q
 refine sqH ?_; intro hQ9Q hQ9
 refine s1 hF8 3 (.pointer (some ⟨b1, 0, none⟩)) ?_; intro a10 hF11; clear hF8
 refine s1 hF11 4 (.pointer (some ⟨b1, 0, none⟩)) ?_; intro a12 hF13; clear hF11
 refine s1 hF13 5 (.pointer (some ⟨b1, 1, none⟩)) ?_; intro a14 hF15; clear hF13
 refine l1 hF15 hM0 6 0 1 (.slice ao2 u0.abs.length cap3) rfl rfl ?_; intro a16 hF17; clear hF15
 have hc18 := hp5.1; have hp19 := hp5.2; clear hp5
 refine fcl hF17 hM0 (.int .i64 (glengthS u0.abs)) 97 #[.slice ao2 u0.abs.length cap3] (nog rfl _) rfl (by kernel_rfl) (fun _ => by kernel_rfl) (glength_fun u0.abs hc18 ao2 cap3 _ _ hs4 hM0.fz) ?_; intro a20 wd22 hF21 hM23; clear hF17 hM0
 refine s1 hF21 2 (.int .i64 (glengthS u0.abs)) ?_; intro a24 hF25; clear hF21
 refine nlH (hQ9 _ _ ?_); clear hQ9 hQ9Q
 refine wp_ret ?_
 refine rt (fn := Tryd.f59) (v := .int .i64 (glengthS u0.abs)) hF25 (re1 hF25 (fn := Tryd.f59) rfl (by kernel_rfl)) ?_
 exact ⟨((glengthS u0.abs), u0), ao2, cap3, Z, rfl, hp19, hle0, hs4, hM23.keep (List.Sublist.cons_cons _ (List.Sublist.refl _))⟩

set_option maxRecDepth 100000 in
set_option maxHeartbeats 0 in
theorem gint64_walk (u0 : BInt) (b1 : Nat) (ao2 : Option Addr) (cap3 : Nat) (B : Nat) (w0 : World) (Z0 : Fz) (Rr : List Res) (Z : Fz) (w : World) (hs4 : SlR (tyInt .u32) Z ao2 cap3 u0.abs) (hM0 : Mem B [] w0 Z0 ((.row b1 [.bool u0.neg, .slice ao2 u0.abs.length cap3] 93) :: Rr) Z w) (hZ : Z.on w) {K : (Int × BInt) → Prop} (hp : gint64_vc u0 K) : Calls Tryd.prog 61 #[.pointer (some ⟨b1, 0, none⟩)] w fun e w' => ∃ (r : Int × BInt) (ao1001 : Option Addr) (cap1002 : Nat) (Z' : Fz), e = .returned (.int .i64 r.1) ∧ K r ∧ Fz.le Z Z' ∧ SlR (tyInt .u32) Z' ao1001 cap1002 r.2.abs ∧ Mem B [] w0 Z0 ((.row b1 [.bool r.2.neg, .slice ao1001 r.2.abs.length cap1002] 93) :: Rr) Z' w' := by
 refine enter0 Tryd.func61 rfl rfl (by kernel_rfl) ?_; intro a0 hF0; have hle0 := Fz.le.refl Z
 have hp5 := hp (hs4.small); clear hp
 refine sqH ?_; intro hQ6Q hQ6
 refine s1 hF0 2 (.int .i64 0) ?_; intro a7 hF8; clear hF0
 refine nlH (hQ6 _ _ ?_); clear hQ6 hQ6Q
 refine sqH ?_; intro hQ9Q hQ9
 refine s1 hF8 4 (.pointer (some ⟨b1, 0, none⟩)) ?_; intro a10 hF11; clear hF8
 have hc12 := hp5.1; have hp13 := hp5.2; clear hp5
 refine cl hF11 100 #[.pointer (some ⟨b1, 0, none⟩)] (nog rfl _) rfl (by kernel_rfl) (by kernel_rfl) ?_
 obtain ⟨r18, hr19⟩ : ∃ x, (guint64S u0) = x := ⟨_, rfl⟩; have hp20 := hp13 r18 hr19; clear hp13
 have h9 := guint64_fun u0 hc12 b1 ao2 cap3 _ _ _ _ _ _ hs4 hM0 hM0.fz; rw [hr19] at h9; refine h9.mono ?_; clear h9; rintro _ wd14 ⟨ao22, cap23, Z25, rfl, hle26, hs24, hm⟩; refine ⟨_, rfl, ?_⟩; intro a15 hF16; have hM17 := hm; clear hm hM0 hF11
 replace hs4 := hs4.mono hle26
 replace hle0 := Fz.le.trans hle0 hle26
 have hM27 : Mem B [] w0 Z0 ((.row b1 [.bool r18.2.neg, .slice ao22 r18.2.abs.length cap23] 93) :: Rr) Z25 wd14 := hM17; clear hM17
 have hp28 := hp20 (hs24.small); clear hp20
 refine s1 hF16 6 (.int .i64 (w64 r18.1)) ?_; intro a29 hF30; clear hF16
 refine s1 hF30 3 (.int .i64 (w64 r18.1)) ?_; intro a31 hF32; clear hF30
 refine nlH (hQ9 _ _ ?_); clear hQ9 hQ9Q
 refine wp_seq ?_
 refine sqH ?_; intro hQ33Q hQ33
 refine s1 hF32 7 (.pointer (some ⟨b1, 0, none⟩)) ?_; intro a34 hF35; clear hF32
 refine s1 hF35 8 (.pointer (some ⟨b1, 0, none⟩)) ?_; intro a36 hF37; clear hF35
 refine s1 hF37 9 (.pointer (some ⟨b1, 0, none⟩)) ?_; intro a38 hF39; clear hF37
 refine l1 hF39 hM27 10 0 0 (.bool r18.2.neg) rfl rfl ?_; intro a40 hF41; clear hF39
 refine nlH (hQ33 _ _ ?_); clear hQ33 hQ33Q
 refine cd hF41 (t := r18.2.neg) (by kernel_rfl) (fun hb42 => ?_) (fun hb42 => ?_)
 ·
  have hp43 := hp28.1 hb42; clear hp28
  refine rgH ?_; intro hQ44Q hQ44
  refine s1 hF41 11 (.int .i64 (w64 r18.1)) ?_; intro a45 hF46; clear hF41
  refine s1 hF46 12 (.int .i64 (w64 (0 - (w64 r18.1)))) ?_; intro a47 hF48; clear hF46
  refine s1 hF48 3 (.int .i64 (w64 (0 - (w64 r18.1)))) ?_; intro a49 hF50; clear hF48
  refine nlH (hQ44 _ _ ?_); clear hQ44 hQ44Q
  refine thn ?_
  refine sqH ?_; intro hQ51Q hQ51
  refine s1 hF50 13 (.int .i64 (w64 (0 - (w64 r18.1)))) ?_; intro a52 hF53; clear hF50
  refine s1 hF53 2 (.int .i64 (w64 (0 - (w64 r18.1)))) ?_; intro a54 hF55; clear hF53
  refine nlH (hQ51 _ _ ?_); clear hQ51 hQ51Q
  refine wp_ret ?_
  refine rt (fn := Tryd.f61) (v := .int .i64 (w64 (0 - (w64 r18.1)))) hF55 (re1 hF55 (fn := Tryd.f61) rfl (by kernel_rfl)) ?_
  exact ⟨(w64 (0 - (w64 r18.1)), r18.2), ao22, cap23, Z25, rfl, hp43, hle0, hs24, hM27.keep (List.Sublist.cons_cons _ (List.Sublist.refl _))⟩
 ·
  have hp56 := hp28.2 hb42; clear hp28
  refine wp_skip ?_
  refine thn ?_
  refine sqH ?_; intro hQ57Q hQ57
  refine s1 hF41 13 (.int .i64 (w64 r18.1)) ?_; intro a58 hF59; clear hF41
  refine s1 hF59 2 (.int .i64 (w64 r18.1)) ?_; intro a60 hF61; clear hF59
  refine nlH (hQ57 _ _ ?_); clear hQ57 hQ57Q
  refine wp_ret ?_
  refine rt (fn := Tryd.f61) (v := .int .i64 (w64 r18.1)) hF61 (re1 hF61 (fn := Tryd.f61) rfl (by kernel_rfl)) ?_
  exact ⟨(w64 r18.1, r18.2), ao22, cap23, Z25, rfl, hp56, hle0, hs24, hM27.keep (List.Sublist.cons_cons _ (List.Sublist.refl _))⟩

set_option maxRecDepth 100000 in
set_option maxHeartbeats 0 in
theorem gsetstr_walk (u0 : BInt) (u1 : List UInt8) (b1 : Nat) (ao2 : Option Addr) (cap3 : Nat) (B : Nat) (w0 : World) (Z0 : Fz) (Rr : List Res) (Z : Fz) (w : World) (hs4 : SlR (tyInt .u32) Z ao2 cap3 u0.abs) (hM0 : Mem B [] w0 Z0 ((.row b1 [.bool u0.neg, .slice ao2 u0.abs.length cap3] 93) :: Rr) Z w) (hZ : Z.on w) {K : (Bool × Bool × BInt) → Prop} (hp : gsetstr_vc u0 u1 K) : Calls Tryd.prog 90 #[.pointer (some ⟨b1, 0, none⟩), str u1, .int .i64 2] w fun e w' => ∃ (r : Bool × Bool × BInt) (ao1001 : Option Addr) (cap1002 : Nat) (Z' : Fz), e = .returned (.tuple #[.pointer (if r.1 = true then some ⟨b1, 0, none⟩ else none), .bool r.2.1]) ∧ K r ∧ Fz.le Z Z' ∧ SlR (tyInt .u32) Z' ao1001 cap1002 r.2.2.abs ∧ Mem B [] w0 Z0 ((.row b1 [.bool r.2.2.neg, .slice ao1001 r.2.2.abs.length cap1002] 93) :: Rr) Z' w' := by
 refine enter0 Tryd.func90 rfl rfl (by kernel_rfl) ?_; intro a0 hF0; have hle0 := Fz.le.refl Z
 have hp5 := hp (hs4.small); clear hp
 refine sqH ?_; intro hQ6Q hQ6
 refine s1 hF0 6 (.pointer none) ?_; intro a7 hF8; clear hF0
 refine s1 hF8 7 (.bool false) ?_; intro a9 hF10; clear hF8
 refine nlH (hQ6 _ _ ?_); clear hQ6 hQ6Q
 refine sqH ?_; intro hQ11Q hQ11
 refine s1 hF10 8 (.bool false) ?_; intro a12 hF13; clear hF10
 refine nlH (hQ11 _ _ ?_); clear hQ11 hQ11Q
 refine wp_seq ?_
 refine sqH ?_; intro hQ14Q hQ14
 refine s1 hF13 13 (str u1) ?_; intro a15 hF16; clear hF13
 refine s1 hF16 14 (.int .i64 (u1.length : Int)) ?_; intro a17 hF18; clear hF16
 refine s1 hF18 15 (.bool (decide ((u1.length : Int) > 0))) ?_; intro a19 hF20; clear hF18
 refine s1 hF20 16 (.bool (decide ((u1.length : Int) > 0))) ?_; intro a21 hF22; clear hF20
 have hF23 := hF22.atom ((decide ((u1.length : Int) > 0)) == true) (by kernel_rfl); clear hF22
 refine gp hF23 17 0 [] (decide ((u1.length : Int) > 0)) (str u1) rfl rfl ?_; intro a24 hF25; clear hF23
 rcases Bool.eq_false_or_eq_true (decide ((u1.length : Int) > 0)) with hb26 | hb26
 ·
  have hp27 := hp5.1 hb26; clear hp5
  have hF28 := hF25.reval (d := 16) (c := []) (v := .bool (decide ((u1.length : Int) > 0))) (by kernel_rfl) (.bool true) (by rw [hb26]); clear hF25
  have hF29 := hF28.setc (d := 17) (c := [0]) (v := str u1) (by kernel_rfl) (v' := str u1) (by rw [hb26]; kernel_rfl); clear hF28
  have hc30 := hp27.1; have hp31 := hp27.2; clear hp27
  obtain ⟨c32, hq33⟩ : ∃ q, u1[(0 : Int).toNat]? = some q := ⟨_, List.getElem?_eq_getElem (by omega)⟩; have hp34 := hp31 c32 hq33
  refine st hF29 (.int .u8 (c32.toNat : Int)) (by rw [wanted_of hF29 (b := true) rfl rfl (by kernel_rfl) (by kernel_rfl)]; rfl) rfl (by kernel_rfl) (stridx_run hF29 (k := .i64) rfl (by kernel_rfl) (by kernel_rfl) (by kernel_rfl) hc30.1 hq33) ?_; intro a35 hF36; clear hF29
  refine st hF36 (.bool ((c32.toNat : Int) == 45)) (by rw [wanted_of hF36 (b := true) rfl rfl (by kernel_rfl) (by kernel_rfl)]; rfl) rfl (by kernel_rfl) (p0 hF36 (by kernel_rfl)) ?_; intro a37 hF38; clear hF36
  refine st hF38 (.bool ((c32.toNat : Int) == 45)) (by rw [wanted_of hF38 (b := true) rfl rfl (by kernel_rfl) (by kernel_rfl)]; rfl) rfl (by kernel_rfl) (p0 hF38 (by kernel_rfl)) ?_; intro a39 hF40; clear hF38
  have hF41 := hF40.atom (((c32.toNat : Int) == 45) == false) (by kernel_rfl); clear hF40
  refine gp hF41 21 1 [] ((c32.toNat : Int) == 45) (str u1) rfl rfl ?_; intro a42 hF43; clear hF41
  rcases Bool.eq_false_or_eq_true ((c32.toNat : Int) == 45) with hb44 | hb44
  ·
   have hp45 := hp34.1 hb44; clear hp34
   have hF46 := hF43.reval (d := 20) (c := []) (v := .bool ((c32.toNat : Int) == 45)) (by kernel_rfl) (.bool true) (by rw [hb44]); clear hF43
   have hF47 := hF46.setc (d := 21) (c := [1]) (v := str u1) (by kernel_rfl) (v' := undef) (by rw [hb44]; kernel_rfl); clear hF46
   refine sk hF47 (b := true) rfl rfl (by kernel_rfl) (by kernel_rfl) rfl rfl (by kernel_rfl) ?_; intro a48 hF49; clear hF47
   refine sk hF49 (b := true) rfl rfl (by kernel_rfl) (by kernel_rfl) rfl rfl (by kernel_rfl) ?_; intro a50 hF51; clear hF49
   refine st hF51 (.bool true) (by rw [wanted_of hF51 (b := true) rfl rfl (by kernel_rfl) (by kernel_rfl)]; rfl) rfl (by kernel_rfl) (p0 hF51 (by kernel_rfl)) ?_; intro a52 hF53; clear hF51
   refine s1 hF53 25 (.bool true) ?_; intro a54 hF55; clear hF53
   refine nlH (hQ14 _ _ ?_); clear hQ14 hQ14Q
   refine cdT hF55 (by kernel_rfl) ?_
   have hF56 : Fr 124 [] [⟨0, [], .pointer (some ⟨b1, 0, none⟩)⟩, ⟨1, [], str u1⟩, ⟨2, [], .int .i64 2⟩] a54 := hF55.reg; clear hF55
   refine sqH ?_; intro hQ57Q hQ57
   refine s1 hF56 26 (str u1) ?_; intro a58 hF59; clear hF56
   have hc60 := hp45.1; have hp61 := hp45.2; clear hp45
   obtain ⟨c62, hq63⟩ : ∃ q, u1[(0 : Int).toNat]? = some q := ⟨_, List.getElem?_eq_getElem (by omega)⟩; have hp64 := hp61 c62 hq63
   refine st hF59 (.int .u8 (c62.toNat : Int)) (nog rfl _) rfl (by kernel_rfl) (stridx_run hF59 (k := .i64) rfl (by kernel_rfl) (by kernel_rfl) (by kernel_rfl) hc60.1 hq63) ?_; intro a65 hF66; clear hF59
   refine s1 hF66 28 (.bool ((c62.toNat : Int) == 45)) ?_; intro a67 hF68; clear hF66
   refine s1 hF68 8 (.bool ((c62.toNat : Int) == 45)) ?_; intro a69 hF70; clear hF68
   refine nlH (hQ57 _ _ ?_); clear hQ57 hQ57Q
   refine rgH ?_; intro hQ71Q hQ71
   refine s1 hF70 29 (str u1) ?_; intro a72 hF73; clear hF70
   have hc74 := hp64.1; have hp75 := hp64.2; clear hp64
   refine st hF73 (str (u1.drop (1 : Int).toNat)) (nog rfl _) rfl (by kernel_rfl) (strslL_run hF73 (g := []) (k := .i64) rfl (by kernel_rfl) (by kernel_rfl) (by kernel_rfl) hc74 rfl) ?_; intro a76 hF77; clear hF73
   refine s1 hF77 1 (str (u1.drop (1 : Int).toNat)) ?_; intro a78 hF79; clear hF77
   refine nlH (hQ71 _ _ ?_); clear hQ71 hQ71Q
   refine thn ?_
   refine wp_seq ?_
   refine sqH ?_; intro hQ80Q hQ80
   refine s1 hF79 31 (.int .i64 2) ?_; intro a81 hF82; clear hF79
   refine s1 hF82 32 (.bool false) ?_; intro a83 hF84; clear hF82
   refine nlH (hQ80 _ _ ?_); clear hQ80 hQ80Q
   refine cdF hF84 (by kernel_rfl) ?_
   refine wp_skip ?_
   refine thn ?_
   refine wp_seq ?_
   refine sqH ?_; intro hQ85Q hQ85
   refine s1 hF84 56 (str (u1.drop (1 : Int).toNat)) ?_; intro a86 hF87; clear hF84
   refine s1 hF87 57 (.int .i64 ((u1.drop (1 : Int).toNat).length : Int)) ?_; intro a88 hF89; clear hF87
   refine s1 hF89 58 (.bool (((u1.drop (1 : Int).toNat).length : Int) == 0)) ?_; intro a90 hF91; clear hF89
   refine s1 hF91 59 (.bool (((u1.drop (1 : Int).toNat).length : Int) == 0)) ?_; intro a92 hF93; clear hF91
   have hF94 := hF93.atom ((((u1.drop (1 : Int).toNat).length : Int) == 0) == false) (by kernel_rfl); clear hF93
   refine gp hF94 60 0 [] (((u1.drop (1 : Int).toNat).length : Int) == 0) (.int .i64 2) rfl rfl ?_; intro a95 hF96; clear hF94
   refine gp hF96 61 0 [] (((u1.drop (1 : Int).toNat).length : Int) == 0) (.bool false) rfl rfl ?_; intro a97 hF98; clear hF96
   refine st hF98 (.bool ((((u1.drop (1 : Int).toNat).length : Int) == 0) || false)) (nog rfl _) rfl (by kernel_rfl) (pk_or hF98 (g := []) (m := 0) (b := ((u1.drop (1 : Int).toNat).length : Int) == 0) (v := false) rfl (by kernel_rfl) (by kernel_rfl) (by kernel_rfl) rfl) ?_; intro a99 hF100; clear hF98
   refine s1 hF100 63 (.bool ((((u1.drop (1 : Int).toNat).length : Int) == 0) || false)) ?_; intro a101 hF102; clear hF100
   have hF103 := hF102.atom (((((u1.drop (1 : Int).toNat).length : Int) == 0) || false) == false) (by kernel_rfl); clear hF102
   refine gp hF103 64 1 [] ((((u1.drop (1 : Int).toNat).length : Int) == 0) || false) (.int .i64 2) rfl rfl ?_; intro a104 hF105; clear hF103
   refine gp hF105 65 1 [] ((((u1.drop (1 : Int).toNat).length : Int) == 0) || false) (.bool false) rfl rfl ?_; intro a106 hF107; clear hF105
   refine st hF107 (.bool (((((u1.drop (1 : Int).toNat).length : Int) == 0) || false) || false)) (nog rfl _) rfl (by kernel_rfl) (pk_or hF107 (g := []) (m := 1) (b := (((u1.drop (1 : Int).toNat).length : Int) == 0) || false) (v := false) rfl (by kernel_rfl) (by kernel_rfl) (by kernel_rfl) rfl) ?_; intro a108 hF109; clear hF107
   refine nlH (hQ85 _ _ ?_); clear hQ85 hQ85Q
   refine cd hF109 (t := ((((u1.drop (1 : Int).toNat).length : Int) == 0) || false) || false) (by kernel_rfl) (fun hb110 => ?_) (fun hb110 => ?_)
   ·
    have hp111 := hp75.1 hb110; clear hp75
    have hF112 : Fr 124 [] [] a108 := hF109.reg; clear hF109
    refine sqH ?_; intro hQ113Q hQ113
    refine s1 hF112 6 (.pointer none) ?_; intro a114 hF115; clear hF112
    refine s1 hF115 7 (.bool false) ?_; intro a116 hF117; clear hF115
    refine nlH (hQ113 _ _ ?_); clear hQ113 hQ113Q
    refine wp_ret ?_
    refine thr ?_
    refine rt (fn := Tryd.f90) (v := .tuple #[.pointer none, .bool false]) hF117 (re2 hF117 (fn := Tryd.f90) rfl (by kernel_rfl) (by kernel_rfl)) ?_
    exact ⟨(false, false, u0), ao2, cap3, Z, rfl, hp111, hle0, hs4, hM0.keep (List.Sublist.cons_cons _ (List.Sublist.refl _))⟩
   ·
    have hp118 := hp75.2 hb110; clear hp75
    refine wp_skip ?_
    refine thn ?_
    have hF119 : Fr 124 [] [⟨0, [], .pointer (some ⟨b1, 0, none⟩)⟩, ⟨1, [], str (u1.drop (1 : Int).toNat)⟩, ⟨2, [], .int .i64 2⟩, ⟨8, [], .bool ((c62.toNat : Int) == 45)⟩] a108 := hF109.reg; clear hF109
    refine sqH ?_; intro hQ120Q hQ120
    refine s1 hF119 9 (.slice none 0 0) ?_; intro a121 hF122; clear hF119
    refine nlH (hQ120 _ _ ?_); clear hQ120 hQ120Q
    refine wp_seq ?_
    refine sqH ?_; intro hQ123Q hQ123
    refine s1 hF122 10 (.int .i64 0) ?_; intro a124 hF125; clear hF122
    refine nlH (hQ123 _ _ ?_); clear hQ123 hQ123Q
    refine wp_block ?_
    have hF126 : Fr 124 [] [⟨0, [], .pointer (some ⟨b1, 0, none⟩)⟩, ⟨1, [], str (u1.drop (1 : Int).toNat)⟩, ⟨2, [], .int .i64 2⟩, ⟨8, [], .bool ((c62.toNat : Int) == 45)⟩, ⟨9, [], .slice none 0 0⟩, ⟨10, [], .int .i64 0⟩] a124 := hF125.reg; clear hF125
    have hF128 : Fr 124 [] [⟨0, [], .pointer (some ⟨b1, 0, none⟩)⟩, ⟨1, [], str (u1.drop (1 : Int).toNat)⟩, ⟨2, [], .int .i64 2⟩, ⟨8, [], .bool ((c62.toNat : Int) == 45)⟩, ⟨9, [], .slice none 0 0⟩, ⟨10, [], .int .i64 0⟩] a124 := hF126.reg; clear hF126
    obtain ⟨inv127, mu127, hI131, hr130⟩ := hp118
    have hle132 := hle0
    refine lp (ι := (List Int) × Int × (Option Addr) × Nat × Fz) (fun (s : (List Int) × Int × (Option Addr) × Nat × Fz) => [⟨0, [], .pointer (some ⟨b1, 0, none⟩)⟩, ⟨1, [], str (u1.drop (1 : Int).toNat)⟩, ⟨2, [], .int .i64 2⟩, ⟨8, [], .bool ((c62.toNat : Int) == 45)⟩, ⟨9, [], .slice s.2.2.1 s.1.length s.2.2.2.1⟩, ⟨10, [], .int .i64 s.2.1⟩]) (fun (s : (List Int) × Int × (Option Addr) × Nat × Fz) => ((.row b1 [.bool u0.neg, .slice ao2 u0.abs.length cap3] 93) :: Rr)) (fun (s : (List Int) × Int × (Option Addr) × Nat × Fz) => s.2.2.2.2) (fun (s : (List Int) × Int × (Option Addr) × Nat × Fz) => inv127 s.1 s.2.1 ∧ SlR (tyInt .u32) s.2.2.2.2 s.2.2.1 s.2.2.2.1 s.1 ∧ Fz.le Z s.2.2.2.2) (fun (s : (List Int) × Int × (Option Addr) × Nat × Fz) => mu127 s.1 s.2.1) ⟨([] : List Int), 0, none, 0, Z⟩ ⟨hI131, (SlR.nil _ _), Fz.le.refl _⟩ (by exact hF128.reg) (by exact hM0) ?_
    rintro ⟨x9, x10, aox9, capx9, ZL127⟩ ⟨hI129, hsx9, hleL127⟩ a133 wd134 hF135 hM136
    have hF137 : Fr 124 [] [⟨0, [], .pointer (some ⟨b1, 0, none⟩)⟩, ⟨1, [], str (u1.drop (1 : Int).toNat)⟩, ⟨2, [], .int .i64 2⟩, ⟨8, [], .bool ((c62.toNat : Int) == 45)⟩, ⟨9, [], .slice aox9 x9.length capx9⟩, ⟨10, [], .int .i64 x10⟩] a133 := hF135; clear hF135 hF128
    have hM138 : Mem B [] w0 Z0 ((.row b1 [.bool u0.neg, .slice ao2 u0.abs.length cap3] 93) :: Rr) ZL127 wd134 := hM136; clear hM136 hM0
    have hp139 := hr130 x9 x10 hI129
    replace hle0 := Fz.le.trans hle0 hleL127
    have hs140 := hs4.mono hleL127
    refine wp_seq ?_
    refine sqH ?_; intro hQ141Q hQ141
    refine s1 hF137 67 (.int .i64 x10) ?_; intro a142 hF143; clear hF137
    refine s1 hF143 68 (str (u1.drop (1 : Int).toNat)) ?_; intro a144 hF145; clear hF143
    refine s1 hF145 69 (.int .i64 ((u1.drop (1 : Int).toNat).length : Int)) ?_; intro a146 hF147; clear hF145
    refine s1 hF147 70 (.bool (decide (x10 < ((u1.drop (1 : Int).toNat).length : Int)))) ?_; intro a148 hF149; clear hF147
    refine nlH (hQ141 _ _ ?_); clear hQ141 hQ141Q
    refine cd hF149 (t := decide (x10 < ((u1.drop (1 : Int).toNat).length : Int))) (by kernel_rfl) (fun hb150 => ?_) (fun hb150 => ?_)
    ·
     have hp151 := hp139.1 hb150; clear hp139
     refine wp_skip ?_
     refine thn ?_
     have hF152 : Fr 124 [] [⟨0, [], .pointer (some ⟨b1, 0, none⟩)⟩, ⟨1, [], str (u1.drop (1 : Int).toNat)⟩, ⟨2, [], .int .i64 2⟩, ⟨8, [], .bool ((c62.toNat : Int) == 45)⟩, ⟨9, [], .slice aox9 x9.length capx9⟩, ⟨10, [], .int .i64 x10⟩] a148 := hF149.reg; clear hF149
     have hF154 : Fr 124 [] [⟨0, [], .pointer (some ⟨b1, 0, none⟩)⟩, ⟨1, [], str (u1.drop (1 : Int).toNat)⟩, ⟨2, [], .int .i64 2⟩, ⟨8, [], .bool ((c62.toNat : Int) == 45)⟩, ⟨9, [], .slice aox9 x9.length capx9⟩, ⟨10, [], .int .i64 x10⟩] a148 := hF152.reg; clear hF152
     obtain ⟨inv153, hp155, hp156⟩ := hp151
     refine wp_seq_k fun KJ157 hKJ158 => ?_
     have hJ159 : ∀ (x9v : List Int) (aox9v : Option Addr) (capx9v : Nat) (ZJ153 : Fz), inv153 x9v ∧ SlR (tyInt .u32) ZJ153 aox9v capx9v x9v ∧ Fz.le ZL127 ZJ153 → ∀ a1 w1, Fr 124 [] [⟨0, [], .pointer (some ⟨b1, 0, none⟩)⟩, ⟨1, [], str (u1.drop (1 : Int).toNat)⟩, ⟨2, [], .int .i64 2⟩, ⟨8, [], .bool ((c62.toNat : Int) == 45)⟩, ⟨9, [], .slice aox9v x9v.length capx9v⟩, ⟨10, [], .int .i64 x10⟩] a1 → Mem B [] w0 Z0 ((.row b1 [.bool u0.neg, .slice ao2 u0.abs.length cap3] 93) :: Rr) ZJ153 w1 → KJ157 a1 w1 := by
      rintro x9v aox9v capx9v ZJ153 ⟨hI164, hsx9v, hleJ153⟩ a160 wd161 hF162 hM163; clear hF154 hM138
      refine hKJ158 _ _ ?_; clear hKJ158
      have hp165 := hp156 x9v hI164
      replace hle0 := Fz.le.trans hle0 hleJ153
      have hs166 := hs140.mono hleJ153
      have hs167 := hsx9.mono hleJ153
      have hs168 := hleL127.mono hleJ153
      refine rgH ?_; intro hQ169Q hQ169
      refine s1 hF162 71 (.int .i64 x10) ?_; intro a170 hF171; clear hF162
      refine s1 hF171 72 (.int .i64 (w64 (x10 + 1))) ?_; intro a172 hF173; clear hF171
      refine s1 hF173 10 (.int .i64 (w64 (x10 + 1))) ?_; intro a174 hF175; clear hF173
      refine nlH (hQ169 _ _ ?_); clear hQ169 hQ169Q
      refine rd ?_
      exact ⟨⟨x9v, w64 (x10 + 1), aox9v, capx9v, ZJ153⟩, ⟨hp165.1, hsx9v, hs168⟩, hp165.2, (hF175.reg).anyβ _ (by kernel_rfl), hM163.keep (List.Sublist.cons_cons _ (List.Sublist.refl _))⟩
     have hle176 := Fz.le.refl ZL127
     refine wp_block ?_
     refine sqH ?_; intro hQ177Q hQ177
     refine s1 hF154 11 (.int .i64 99) ?_; intro a178 hF179; clear hF154
     refine nlH (hQ177 _ _ ?_); clear hQ177 hQ177Q
     refine wp_seq ?_
     refine sqH ?_; intro hQ180Q hQ180
     refine s1 hF179 73 (str (u1.drop (1 : Int).toNat)) ?_; intro a181 hF182; clear hF179
     refine s1 hF182 74 (.int .i64 x10) ?_; intro a183 hF184; clear hF182
     have hc185 := hp155.1; have hp186 := hp155.2; clear hp155
     obtain ⟨c187, hq188⟩ : ∃ q, (u1.drop (1 : Int).toNat)[x10.toNat]? = some q := ⟨_, List.getElem?_eq_getElem (by omega)⟩; have hp189 := hp186 c187 hq188
     refine st hF184 (.int .u8 (c187.toNat : Int)) (nog rfl _) rfl (by kernel_rfl) (stridx_run hF184 (k := .i64) rfl (by kernel_rfl) (by kernel_rfl) (by kernel_rfl) hc185.1 hq188) ?_; intro a190 hF191; clear hF184
     refine s1 hF191 12 (.int .u8 (c187.toNat : Int)) ?_; intro a192 hF193; clear hF191
     refine nlH (hQ180 _ _ ?_); clear hQ180 hQ180Q
     refine wp_block ?_
     refine sqH ?_; intro hQ194Q hQ194
     refine s1 hF193 77 (.int .u8 (c187.toNat : Int)) ?_; intro a195 hF196; clear hF193
     refine s1 hF196 78 (.bool (decide ((c187.toNat : Int) ≥ 48))) ?_; intro a197 hF198; clear hF196
     refine s1 hF198 79 (.bool (decide ((c187.toNat : Int) ≥ 48))) ?_; intro a199 hF200; clear hF198
     have hF201 := hF200.atom ((decide ((c187.toNat : Int) ≥ 48)) == true) (by kernel_rfl); clear hF200
     refine gp hF201 80 0 [] (decide ((c187.toNat : Int) ≥ 48)) (.int .u8 (c187.toNat : Int)) rfl rfl ?_; intro a202 hF203; clear hF201
     refine gp hF203 81 0 [] (decide ((c187.toNat : Int) ≥ 48)) (.bool (decide ((c187.toNat : Int) ≤ 57))) rfl rfl ?_; intro a204 hF205; clear hF203
     refine st hF205 (.bool ((decide ((c187.toNat : Int) ≥ 48)) && (decide ((c187.toNat : Int) ≤ 57)))) (nog rfl _) rfl (by kernel_rfl) (pk_and hF205 (g := []) (m := 0) (b := decide ((c187.toNat : Int) ≥ 48)) (v := decide ((c187.toNat : Int) ≤ 57)) rfl (by kernel_rfl) (by kernel_rfl) (by kernel_rfl) rfl) ?_; intro a206 hF207; clear hF205
     refine s1 hF207 76 (.bool ((decide ((c187.toNat : Int) ≥ 48)) && (decide ((c187.toNat : Int) ≤ 57)))) ?_; intro a208 hF209; clear hF207
     refine nlH (hQ194 _ _ ?_); clear hQ194 hQ194Q
     refine cd hF209 (t := (decide ((c187.toNat : Int) ≥ 48)) && (decide ((c187.toNat : Int) ≤ 57))) (by kernel_rfl) (fun hb210 => ?_) (fun hb210 => ?_)
     ·
      have hp211 := hp189.1 hb210; clear hp189
      have hF212 : Fr 124 [] [⟨0, [], .pointer (some ⟨b1, 0, none⟩)⟩, ⟨1, [], str (u1.drop (1 : Int).toNat)⟩, ⟨2, [], .int .i64 2⟩, ⟨8, [], .bool ((c62.toNat : Int) == 45)⟩, ⟨9, [], .slice aox9 x9.length capx9⟩, ⟨10, [], .int .i64 x10⟩, ⟨12, [], .int .u8 (c187.toNat : Int)⟩] a208 := hF209.reg; clear hF209
      refine rgH ?_; intro hQ213Q hQ213
      refine s1 hF212 83 (.int .u8 (c187.toNat : Int)) ?_; intro a214 hF215; clear hF212
      refine s1 hF215 84 (.int .u8 (w8 ((c187.toNat : Int) - 48))) ?_; intro a216 hF217; clear hF215
      refine s1 hF217 85 (.int .i64 (w64 (w8 ((c187.toNat : Int) - 48)))) ?_; intro a218 hF219; clear hF217
      refine s1 hF219 11 (.int .i64 (w64 (w8 ((c187.toNat : Int) - 48)))) ?_; intro a220 hF221; clear hF219
      refine nlH (hQ213 _ _ ?_); clear hQ213 hQ213Q
      refine ibn ?_
      refine thn ?_
      refine wp_seq ?_
      refine sqH ?_; intro hQ222Q hQ222
      refine s1 hF221 108 (.int .i64 (w64 (w8 ((c187.toNat : Int) - 48)))) ?_; intro a223 hF224; clear hF221
      refine s1 hF224 109 (.int .i64 2) ?_; intro a225 hF226; clear hF224
      refine s1 hF226 110 (.bool (decide ((w64 (w8 ((c187.toNat : Int) - 48))) ≥ 2))) ?_; intro a227 hF228; clear hF226
      refine nlH (hQ222 _ _ ?_); clear hQ222 hQ222Q
      refine cd hF228 (t := decide ((w64 (w8 ((c187.toNat : Int) - 48))) ≥ 2)) (by kernel_rfl) (fun hb229 => ?_) (fun hb229 => ?_)
      ·
       have hp230 := hp211.1 hb229; clear hp211
       refine sqH ?_; intro hQ231Q hQ231
       refine s1 hF228 6 (.pointer none) ?_; intro a232 hF233; clear hF228
       refine s1 hF233 7 (.bool false) ?_; intro a234 hF235; clear hF233
       refine nlH (hQ231 _ _ ?_); clear hQ231 hQ231Q
       refine wp_ret ?_
       refine thr ?_
       refine ibr ?_
       refine thr ?_
       refine thr ?_
       refine ibr ?_
       refine thr ?_
       refine rt (fn := Tryd.f90) (v := .tuple #[.pointer none, .bool false]) hF235 (re2 hF235 (fn := Tryd.f90) rfl (by kernel_rfl) (by kernel_rfl)) ?_
       exact ⟨(false, false, u0), ao2, cap3, ZL127, rfl, hp230, hle0, hs140, hM138.keep (List.Sublist.cons_cons _ (List.Sublist.refl _))⟩
      ·
       have hp236 := hp211.2 hb229; clear hp211
       refine wp_skip ?_
       refine thn ?_
       refine rgH ?_; intro hQ237Q hQ237
       refine s1 hF228 111 (.slice aox9 x9.length capx9) ?_; intro a238 hF239; clear hF228
       refine s1 hF239 112 (.int .i64 2) ?_; intro a240 hF241; clear hF239
       refine s1 hF241 113 (.int .u64 2) ?_; intro a242 hF243; clear hF241
       have hc244 := hp236.1; have hp245 := hp236.2; clear hp236
       refine cl hF243 123 #[.int .u64 2] (nog rfl _) rfl (by kernel_rfl) (by kernel_rfl) ?_
       refine (gwords_fun 2 hc244 _ _ hM138.fz).mono ?_; rintro _ wd246 ⟨ao250, cap251, Z253, rfl, hs252, hm⟩; refine ⟨_, rfl, ?_⟩; intro a247 hF248; have hM249 := hM138.callZ hm; have hle254 := hm.ext.le; clear hm hM138 hF243
       replace hs140 := hs140.mono hle254
       replace hsx9 := hsx9.mono hle254
       replace hleL127 := hleL127.mono hle254
       replace hle176 := hle176.mono hle254
       replace hle0 := Fz.le.trans hle0 hle254
       have hM255 : Mem B [] w0 Z0 ((.row b1 [.bool u0.neg, .slice ao2 u0.abs.length cap3] 93) :: Rr) Z253 wd246 := hM249; clear hM249
       have hp256 := hp245 (hs252.small); clear hp245
       have hc257 := hp256.1; have hp258 := hp256.2; clear hp256
       refine cl hF248 122 #[.slice aox9 x9.length capx9, .slice ao250 (gwordsS 2).length cap251] (nog rfl _) rfl (by kernel_rfl) (by kernel_rfl) ?_
       refine (gmul_fun x9 (gwordsS 2) hc257 aox9 capx9 ao250 cap251 _ _ hsx9 hs252 hM255.fz).mono ?_; rintro _ wd259 ⟨ao263, cap264, Z266, rfl, hs265, hm⟩; refine ⟨_, rfl, ?_⟩; intro a260 hF261; have hM262 := hM255.callZ hm; have hle267 := hm.ext.le; clear hm hM255 hF248
       replace hs140 := hs140.mono hle267
       replace hsx9 := hsx9.mono hle267
       replace hleL127 := hleL127.mono hle267
       replace hle176 := hle176.mono hle267
       replace hs252 := hs252.mono hle267
       replace hle0 := Fz.le.trans hle0 hle267
       have hM268 : Mem B [] w0 Z0 ((.row b1 [.bool u0.neg, .slice ao2 u0.abs.length cap3] 93) :: Rr) Z266 wd259 := hM262; clear hM262
       have hp269 := hp258 (hs265.small); clear hp258
       refine s1 hF261 116 (.int .i64 (w64 (w8 ((c187.toNat : Int) - 48)))) ?_; intro a270 hF271; clear hF261
       refine s1 hF271 117 (.int .u64 (wu64 (w64 (w8 ((c187.toNat : Int) - 48))))) ?_; intro a272 hF273; clear hF271
       have hc274 := hp269.1; have hp275 := hp269.2; clear hp269
       refine cl hF273 123 #[.int .u64 (wu64 (w64 (w8 ((c187.toNat : Int) - 48))))] (nog rfl _) rfl (by kernel_rfl) (by kernel_rfl) ?_
       refine (gwords_fun (wu64 (w64 (w8 ((c187.toNat : Int) - 48)))) hc274 _ _ hM268.fz).mono ?_; rintro _ wd276 ⟨ao280, cap281, Z283, rfl, hs282, hm⟩; refine ⟨_, rfl, ?_⟩; intro a277 hF278; have hM279 := hM268.callZ hm; have hle284 := hm.ext.le; clear hm hM268 hF273
       replace hs140 := hs140.mono hle284
       replace hsx9 := hsx9.mono hle284
       replace hleL127 := hleL127.mono hle284
       replace hle176 := hle176.mono hle284
       replace hs252 := hs252.mono hle284
       replace hs265 := hs265.mono hle284
       replace hle0 := Fz.le.trans hle0 hle284
       have hM285 : Mem B [] w0 Z0 ((.row b1 [.bool u0.neg, .slice ao2 u0.abs.length cap3] 93) :: Rr) Z283 wd276 := hM279; clear hM279
       have hp286 := hp275 (hs282.small); clear hp275
       have hc287 := hp286.1; have hp288 := hp286.2; clear hp286
       refine cl hF278 121 #[.slice ao263 (gmulS x9 (gwordsS 2)).length cap264, .slice ao280 (gwordsS (wu64 (w64 (w8 ((c187.toNat : Int) - 48))))).length cap281] (nog rfl _) rfl (by kernel_rfl) (by kernel_rfl) ?_
       refine (gadd_fun (gmulS x9 (gwordsS 2)) (gwordsS (wu64 (w64 (w8 ((c187.toNat : Int) - 48))))) hc287 ao263 cap264 ao280 cap281 _ _ hs265 hs282 hM285.fz).mono ?_; rintro _ wd289 ⟨ao293, cap294, Z296, rfl, hs295, hm⟩; refine ⟨_, rfl, ?_⟩; intro a290 hF291; have hM292 := hM285.callZ hm; have hle297 := hm.ext.le; clear hm hM285 hF278
       replace hs140 := hs140.mono hle297
       replace hsx9 := hsx9.mono hle297
       replace hleL127 := hleL127.mono hle297
       replace hle176 := hle176.mono hle297
       replace hs252 := hs252.mono hle297
       replace hs265 := hs265.mono hle297
       replace hs282 := hs282.mono hle297
       replace hle0 := Fz.le.trans hle0 hle297
       have hM298 : Mem B [] w0 Z0 ((.row b1 [.bool u0.neg, .slice ao2 u0.abs.length cap3] 93) :: Rr) Z296 wd289 := hM292; clear hM292
       have hp299 := hp288 (hs295.small); clear hp288
       refine s1 hF291 9 (.slice ao293 (gaddS (gmulS x9 (gwordsS 2)) (gwordsS (wu64 (w64 (w8 ((c187.toNat : Int) - 48)))))).length cap294) ?_; intro a300 hF301; clear hF291
       refine nlH (hQ237 _ _ ?_); clear hQ237 hQ237Q
       refine ibn ?_
       refine rd ?_
       exact hJ159 (gaddS (gmulS x9 (gwordsS 2)) (gwordsS (wu64 (w64 (w8 ((c187.toNat : Int) - 48)))))) ao293 cap294 Z296 ⟨hp299, hs295, hle176⟩ _ _ ((hF301.reg).anyβ _ (by kernel_rfl)) (hM298.keep (List.Sublist.cons_cons _ (List.Sublist.refl _)))
     ·
      have hp302 := hp189.2 hb210; clear hp189
      have hF303 : Fr 124 [] [⟨0, [], .pointer (some ⟨b1, 0, none⟩)⟩, ⟨1, [], str (u1.drop (1 : Int).toNat)⟩, ⟨2, [], .int .i64 2⟩, ⟨8, [], .bool ((c62.toNat : Int) == 45)⟩, ⟨9, [], .slice aox9 x9.length capx9⟩, ⟨10, [], .int .i64 x10⟩, ⟨11, [], .int .i64 99⟩, ⟨12, [], .int .u8 (c187.toNat : Int)⟩] a208 := hF209.reg; clear hF209
      refine sqH ?_; intro hQ304Q hQ304
      refine s1 hF303 87 (.int .u8 (c187.toNat : Int)) ?_; intro a305 hF306; clear hF303
      refine s1 hF306 88 (.bool (decide ((c187.toNat : Int) ≥ 97))) ?_; intro a307 hF308; clear hF306
      refine s1 hF308 89 (.bool (decide ((c187.toNat : Int) ≥ 97))) ?_; intro a309 hF310; clear hF308
      have hF311 := hF310.atom ((decide ((c187.toNat : Int) ≥ 97)) == true) (by kernel_rfl); clear hF310
      refine gp hF311 90 0 [] (decide ((c187.toNat : Int) ≥ 97)) (.int .u8 (c187.toNat : Int)) rfl rfl ?_; intro a312 hF313; clear hF311
      refine gp hF313 91 0 [] (decide ((c187.toNat : Int) ≥ 97)) (.bool (decide ((c187.toNat : Int) ≤ 122))) rfl rfl ?_; intro a314 hF315; clear hF313
      refine st hF315 (.bool ((decide ((c187.toNat : Int) ≥ 97)) && (decide ((c187.toNat : Int) ≤ 122)))) (nog rfl _) rfl (by kernel_rfl) (pk_and hF315 (g := []) (m := 0) (b := decide ((c187.toNat : Int) ≥ 97)) (v := decide ((c187.toNat : Int) ≤ 122)) rfl (by kernel_rfl) (by kernel_rfl) (by kernel_rfl) rfl) ?_; intro a316 hF317; clear hF315
      refine s1 hF317 86 (.bool ((decide ((c187.toNat : Int) ≥ 97)) && (decide ((c187.toNat : Int) ≤ 122)))) ?_; intro a318 hF319; clear hF317
      refine nlH (hQ304 _ _ ?_); clear hQ304 hQ304Q
      refine cd hF319 (t := (decide ((c187.toNat : Int) ≥ 97)) && (decide ((c187.toNat : Int) ≤ 122))) (by kernel_rfl) (fun hb320 => ?_) (fun hb320 => ?_)
      ·
       have hp321 := hp302.1 hb320; clear hp302
       have hF322 : Fr 124 [] [⟨0, [], .pointer (some ⟨b1, 0, none⟩)⟩, ⟨1, [], str (u1.drop (1 : Int).toNat)⟩, ⟨2, [], .int .i64 2⟩, ⟨8, [], .bool ((c62.toNat : Int) == 45)⟩, ⟨9, [], .slice aox9 x9.length capx9⟩, ⟨10, [], .int .i64 x10⟩, ⟨12, [], .int .u8 (c187.toNat : Int)⟩] a318 := hF319.reg; clear hF319
       refine rgH ?_; intro hQ323Q hQ323
       refine s1 hF322 93 (.int .u8 (c187.toNat : Int)) ?_; intro a324 hF325; clear hF322
       refine s1 hF325 94 (.int .u8 (w8 ((c187.toNat : Int) - 97))) ?_; intro a326 hF327; clear hF325
       refine s1 hF327 95 (.int .i64 (w64 (w8 ((c187.toNat : Int) - 97)))) ?_; intro a328 hF329; clear hF327
       refine s1 hF329 96 (.int .i64 (w64 ((w64 (w8 ((c187.toNat : Int) - 97))) + 10))) ?_; intro a330 hF331; clear hF329
       refine s1 hF331 11 (.int .i64 (w64 ((w64 (w8 ((c187.toNat : Int) - 97))) + 10))) ?_; intro a332 hF333; clear hF331
       refine nlH (hQ323 _ _ ?_); clear hQ323 hQ323Q
       refine ibn ?_
       refine thn ?_
       refine wp_seq ?_
       refine sqH ?_; intro hQ334Q hQ334
       refine s1 hF333 108 (.int .i64 (w64 ((w64 (w8 ((c187.toNat : Int) - 97))) + 10))) ?_; intro a335 hF336; clear hF333
       refine s1 hF336 109 (.int .i64 2) ?_; intro a337 hF338; clear hF336
       refine s1 hF338 110 (.bool (decide ((w64 ((w64 (w8 ((c187.toNat : Int) - 97))) + 10)) ≥ 2))) ?_; intro a339 hF340; clear hF338
       refine nlH (hQ334 _ _ ?_); clear hQ334 hQ334Q
       refine cd hF340 (t := decide ((w64 ((w64 (w8 ((c187.toNat : Int) - 97))) + 10)) ≥ 2)) (by kernel_rfl) (fun hb341 => ?_) (fun hb341 => ?_)
       ·
        have hp342 := hp321.1 hb341; clear hp321
        refine sqH ?_; intro hQ343Q hQ343
        refine s1 hF340 6 (.pointer none) ?_; intro a344 hF345; clear hF340
        refine s1 hF345 7 (.bool false) ?_; intro a346 hF347; clear hF345
        refine nlH (hQ343 _ _ ?_); clear hQ343 hQ343Q
        refine wp_ret ?_
        refine thr ?_
        refine ibr ?_
        refine thr ?_
        refine thr ?_
        refine ibr ?_
        refine thr ?_
        refine rt (fn := Tryd.f90) (v := .tuple #[.pointer none, .bool false]) hF347 (re2 hF347 (fn := Tryd.f90) rfl (by kernel_rfl) (by kernel_rfl)) ?_
        exact ⟨(false, false, u0), ao2, cap3, ZL127, rfl, hp342, hle0, hs140, hM138.keep (List.Sublist.cons_cons _ (List.Sublist.refl _))⟩
       ·
        have hp348 := hp321.2 hb341; clear hp321
        refine wp_skip ?_
        refine thn ?_
        refine rgH ?_; intro hQ349Q hQ349
        refine s1 hF340 111 (.slice aox9 x9.length capx9) ?_; intro a350 hF351; clear hF340
        refine s1 hF351 112 (.int .i64 2) ?_; intro a352 hF353; clear hF351
        refine s1 hF353 113 (.int .u64 2) ?_; intro a354 hF355; clear hF353
        have hc356 := hp348.1; have hp357 := hp348.2; clear hp348
        refine cl hF355 123 #[.int .u64 2] (nog rfl _) rfl (by kernel_rfl) (by kernel_rfl) ?_
        refine (gwords_fun 2 hc356 _ _ hM138.fz).mono ?_; rintro _ wd358 ⟨ao362, cap363, Z365, rfl, hs364, hm⟩; refine ⟨_, rfl, ?_⟩; intro a359 hF360; have hM361 := hM138.callZ hm; have hle366 := hm.ext.le; clear hm hM138 hF355
        replace hs140 := hs140.mono hle366
        replace hsx9 := hsx9.mono hle366
        replace hleL127 := hleL127.mono hle366
        replace hle176 := hle176.mono hle366
        replace hle0 := Fz.le.trans hle0 hle366
        have hM367 : Mem B [] w0 Z0 ((.row b1 [.bool u0.neg, .slice ao2 u0.abs.length cap3] 93) :: Rr) Z365 wd358 := hM361; clear hM361
        have hp368 := hp357 (hs364.small); clear hp357
        have hc369 := hp368.1; have hp370 := hp368.2; clear hp368
        refine cl hF360 122 #[.slice aox9 x9.length capx9, .slice ao362 (gwordsS 2).length cap363] (nog rfl _) rfl (by kernel_rfl) (by kernel_rfl) ?_
        refine (gmul_fun x9 (gwordsS 2) hc369 aox9 capx9 ao362 cap363 _ _ hsx9 hs364 hM367.fz).mono ?_; rintro _ wd371 ⟨ao375, cap376, Z378, rfl, hs377, hm⟩; refine ⟨_, rfl, ?_⟩; intro a372 hF373; have hM374 := hM367.callZ hm; have hle379 := hm.ext.le; clear hm hM367 hF360
        replace hs140 := hs140.mono hle379
        replace hsx9 := hsx9.mono hle379
        replace hleL127 := hleL127.mono hle379
        replace hle176 := hle176.mono hle379
        replace hs364 := hs364.mono hle379
        replace hle0 := Fz.le.trans hle0 hle379
        have hM380 : Mem B [] w0 Z0 ((.row b1 [.bool u0.neg, .slice ao2 u0.abs.length cap3] 93) :: Rr) Z378 wd371 := hM374; clear hM374
        have hp381 := hp370 (hs377.small); clear hp370
        refine s1 hF373 116 (.int .i64 (w64 ((w64 (w8 ((c187.toNat : Int) - 97))) + 10))) ?_; intro a382 hF383; clear hF373
        refine s1 hF383 117 (.int .u64 (wu64 (w64 ((w64 (w8 ((c187.toNat : Int) - 97))) + 10)))) ?_; intro a384 hF385; clear hF383
        have hc386 := hp381.1; have hp387 := hp381.2; clear hp381
        refine cl hF385 123 #[.int .u64 (wu64 (w64 ((w64 (w8 ((c187.toNat : Int) - 97))) + 10)))] (nog rfl _) rfl (by kernel_rfl) (by kernel_rfl) ?_
        refine (gwords_fun (wu64 (w64 ((w64 (w8 ((c187.toNat : Int) - 97))) + 10))) hc386 _ _ hM380.fz).mono ?_; rintro _ wd388 ⟨ao392, cap393, Z395, rfl, hs394, hm⟩; refine ⟨_, rfl, ?_⟩; intro a389 hF390; have hM391 := hM380.callZ hm; have hle396 := hm.ext.le; clear hm hM380 hF385
        replace hs140 := hs140.mono hle396
        replace hsx9 := hsx9.mono hle396
        replace hleL127 := hleL127.mono hle396
        replace hle176 := hle176.mono hle396
        replace hs364 := hs364.mono hle396
        replace hs377 := hs377.mono hle396
        replace hle0 := Fz.le.trans hle0 hle396
        have hM397 : Mem B [] w0 Z0 ((.row b1 [.bool u0.neg, .slice ao2 u0.abs.length cap3] 93) :: Rr) Z395 wd388 := hM391; clear hM391
        have hp398 := hp387 (hs394.small); clear hp387
        have hc399 := hp398.1; have hp400 := hp398.2; clear hp398
        refine cl hF390 121 #[.slice ao375 (gmulS x9 (gwordsS 2)).length cap376, .slice ao392 (gwordsS (wu64 (w64 ((w64 (w8 ((c187.toNat : Int) - 97))) + 10)))).length cap393] (nog rfl _) rfl (by kernel_rfl) (by kernel_rfl) ?_
        refine (gadd_fun (gmulS x9 (gwordsS 2)) (gwordsS (wu64 (w64 ((w64 (w8 ((c187.toNat : Int) - 97))) + 10)))) hc399 ao375 cap376 ao392 cap393 _ _ hs377 hs394 hM397.fz).mono ?_; rintro _ wd401 ⟨ao405, cap406, Z408, rfl, hs407, hm⟩; refine ⟨_, rfl, ?_⟩; intro a402 hF403; have hM404 := hM397.callZ hm; have hle409 := hm.ext.le; clear hm hM397 hF390
        replace hs140 := hs140.mono hle409
        replace hsx9 := hsx9.mono hle409
        replace hleL127 := hleL127.mono hle409
        replace hle176 := hle176.mono hle409
        replace hs364 := hs364.mono hle409
        replace hs377 := hs377.mono hle409
        replace hs394 := hs394.mono hle409
        replace hle0 := Fz.le.trans hle0 hle409
        have hM410 : Mem B [] w0 Z0 ((.row b1 [.bool u0.neg, .slice ao2 u0.abs.length cap3] 93) :: Rr) Z408 wd401 := hM404; clear hM404
        have hp411 := hp400 (hs407.small); clear hp400
        refine s1 hF403 9 (.slice ao405 (gaddS (gmulS x9 (gwordsS 2)) (gwordsS (wu64 (w64 ((w64 (w8 ((c187.toNat : Int) - 97))) + 10))))).length cap406) ?_; intro a412 hF413; clear hF403
        refine nlH (hQ349 _ _ ?_); clear hQ349 hQ349Q
        refine ibn ?_
        refine rd ?_
        exact hJ159 (gaddS (gmulS x9 (gwordsS 2)) (gwordsS (wu64 (w64 ((w64 (w8 ((c187.toNat : Int) - 97))) + 10))))) ao405 cap406 Z408 ⟨hp411, hs407, hle176⟩ _ _ ((hF413.reg).anyβ _ (by kernel_rfl)) (hM410.keep (List.Sublist.cons_cons _ (List.Sublist.refl _)))
      ·
       have hp414 := hp302.2 hb320; clear hp302
       have hF415 : Fr 124 [] [⟨0, [], .pointer (some ⟨b1, 0, none⟩)⟩, ⟨1, [], str (u1.drop (1 : Int).toNat)⟩, ⟨2, [], .int .i64 2⟩, ⟨8, [], .bool ((c62.toNat : Int) == 45)⟩, ⟨9, [], .slice aox9 x9.length capx9⟩, ⟨10, [], .int .i64 x10⟩, ⟨11, [], .int .i64 99⟩, ⟨12, [], .int .u8 (c187.toNat : Int)⟩] a318 := hF319.reg; clear hF319
       refine sqH ?_; intro hQ416Q hQ416
       refine s1 hF415 98 (.int .u8 (c187.toNat : Int)) ?_; intro a417 hF418; clear hF415
       refine s1 hF418 99 (.bool (decide ((c187.toNat : Int) ≥ 65))) ?_; intro a419 hF420; clear hF418
       refine s1 hF420 100 (.bool (decide ((c187.toNat : Int) ≥ 65))) ?_; intro a421 hF422; clear hF420
       have hF423 := hF422.atom ((decide ((c187.toNat : Int) ≥ 65)) == true) (by kernel_rfl); clear hF422
       refine gp hF423 101 0 [] (decide ((c187.toNat : Int) ≥ 65)) (.int .u8 (c187.toNat : Int)) rfl rfl ?_; intro a424 hF425; clear hF423
       refine gp hF425 102 0 [] (decide ((c187.toNat : Int) ≥ 65)) (.bool (decide ((c187.toNat : Int) ≤ 90))) rfl rfl ?_; intro a426 hF427; clear hF425
       refine st hF427 (.bool ((decide ((c187.toNat : Int) ≥ 65)) && (decide ((c187.toNat : Int) ≤ 90)))) (nog rfl _) rfl (by kernel_rfl) (pk_and hF427 (g := []) (m := 0) (b := decide ((c187.toNat : Int) ≥ 65)) (v := decide ((c187.toNat : Int) ≤ 90)) rfl (by kernel_rfl) (by kernel_rfl) (by kernel_rfl) rfl) ?_; intro a428 hF429; clear hF427
       refine s1 hF429 97 (.bool ((decide ((c187.toNat : Int) ≥ 65)) && (decide ((c187.toNat : Int) ≤ 90)))) ?_; intro a430 hF431; clear hF429
       refine nlH (hQ416 _ _ ?_); clear hQ416 hQ416Q
       refine cd hF431 (t := (decide ((c187.toNat : Int) ≥ 65)) && (decide ((c187.toNat : Int) ≤ 90))) (by kernel_rfl) (fun hb432 => ?_) (fun hb432 => ?_)
       ·
        have hp433 := hp414.1 hb432; clear hp414
        have hF434 : Fr 124 [] [⟨0, [], .pointer (some ⟨b1, 0, none⟩)⟩, ⟨1, [], str (u1.drop (1 : Int).toNat)⟩, ⟨2, [], .int .i64 2⟩, ⟨8, [], .bool ((c62.toNat : Int) == 45)⟩, ⟨9, [], .slice aox9 x9.length capx9⟩, ⟨10, [], .int .i64 x10⟩, ⟨12, [], .int .u8 (c187.toNat : Int)⟩] a430 := hF431.reg; clear hF431
        refine rgH ?_; intro hQ435Q hQ435
        refine s1 hF434 104 (.int .u8 (c187.toNat : Int)) ?_; intro a436 hF437; clear hF434
        refine s1 hF437 105 (.int .u8 (w8 ((c187.toNat : Int) - 65))) ?_; intro a438 hF439; clear hF437
        refine s1 hF439 106 (.int .i64 (w64 (w8 ((c187.toNat : Int) - 65)))) ?_; intro a440 hF441; clear hF439
        refine s1 hF441 107 (.int .i64 (w64 ((w64 (w8 ((c187.toNat : Int) - 65))) + 10))) ?_; intro a442 hF443; clear hF441
        refine s1 hF443 11 (.int .i64 (w64 ((w64 (w8 ((c187.toNat : Int) - 65))) + 10))) ?_; intro a444 hF445; clear hF443
        refine nlH (hQ435 _ _ ?_); clear hQ435 hQ435Q
        refine ibn ?_
        refine thn ?_
        refine wp_seq ?_
        refine sqH ?_; intro hQ446Q hQ446
        refine s1 hF445 108 (.int .i64 (w64 ((w64 (w8 ((c187.toNat : Int) - 65))) + 10))) ?_; intro a447 hF448; clear hF445
        refine s1 hF448 109 (.int .i64 2) ?_; intro a449 hF450; clear hF448
        refine s1 hF450 110 (.bool (decide ((w64 ((w64 (w8 ((c187.toNat : Int) - 65))) + 10)) ≥ 2))) ?_; intro a451 hF452; clear hF450
        refine nlH (hQ446 _ _ ?_); clear hQ446 hQ446Q
        refine cd hF452 (t := decide ((w64 ((w64 (w8 ((c187.toNat : Int) - 65))) + 10)) ≥ 2)) (by kernel_rfl) (fun hb453 => ?_) (fun hb453 => ?_)
        ·
         have hp454 := hp433.1 hb453; clear hp433
         refine sqH ?_; intro hQ455Q hQ455
         refine s1 hF452 6 (.pointer none) ?_; intro a456 hF457; clear hF452
         refine s1 hF457 7 (.bool false) ?_; intro a458 hF459; clear hF457
         refine nlH (hQ455 _ _ ?_); clear hQ455 hQ455Q
         refine wp_ret ?_
         refine thr ?_
         refine ibr ?_
         refine thr ?_
         refine thr ?_
         refine ibr ?_
         refine thr ?_
         refine rt (fn := Tryd.f90) (v := .tuple #[.pointer none, .bool false]) hF459 (re2 hF459 (fn := Tryd.f90) rfl (by kernel_rfl) (by kernel_rfl)) ?_
         exact ⟨(false, false, u0), ao2, cap3, ZL127, rfl, hp454, hle0, hs140, hM138.keep (List.Sublist.cons_cons _ (List.Sublist.refl _))⟩
        ·
         have hp460 := hp433.2 hb453; clear hp433
         refine wp_skip ?_
         refine thn ?_
         refine rgH ?_; intro hQ461Q hQ461
         refine s1 hF452 111 (.slice aox9 x9.length capx9) ?_; intro a462 hF463; clear hF452
         refine s1 hF463 112 (.int .i64 2) ?_; intro a464 hF465; clear hF463
         refine s1 hF465 113 (.int .u64 2) ?_; intro a466 hF467; clear hF465
         have hc468 := hp460.1; have hp469 := hp460.2; clear hp460
         refine cl hF467 123 #[.int .u64 2] (nog rfl _) rfl (by kernel_rfl) (by kernel_rfl) ?_
         refine (gwords_fun 2 hc468 _ _ hM138.fz).mono ?_; rintro _ wd470 ⟨ao474, cap475, Z477, rfl, hs476, hm⟩; refine ⟨_, rfl, ?_⟩; intro a471 hF472; have hM473 := hM138.callZ hm; have hle478 := hm.ext.le; clear hm hM138 hF467
         replace hs140 := hs140.mono hle478
         replace hsx9 := hsx9.mono hle478
         replace hleL127 := hleL127.mono hle478
         replace hle176 := hle176.mono hle478
         replace hle0 := Fz.le.trans hle0 hle478
         have hM479 : Mem B [] w0 Z0 ((.row b1 [.bool u0.neg, .slice ao2 u0.abs.length cap3] 93) :: Rr) Z477 wd470 := hM473; clear hM473
         have hp480 := hp469 (hs476.small); clear hp469
         have hc481 := hp480.1; have hp482 := hp480.2; clear hp480
         refine cl hF472 122 #[.slice aox9 x9.length capx9, .slice ao474 (gwordsS 2).length cap475] (nog rfl _) rfl (by kernel_rfl) (by kernel_rfl) ?_
         refine (gmul_fun x9 (gwordsS 2) hc481 aox9 capx9 ao474 cap475 _ _ hsx9 hs476 hM479.fz).mono ?_; rintro _ wd483 ⟨ao487, cap488, Z490, rfl, hs489, hm⟩; refine ⟨_, rfl, ?_⟩; intro a484 hF485; have hM486 := hM479.callZ hm; have hle491 := hm.ext.le; clear hm hM479 hF472
         replace hs140 := hs140.mono hle491
         replace hsx9 := hsx9.mono hle491
         replace hleL127 := hleL127.mono hle491
         replace hle176 := hle176.mono hle491
         replace hs476 := hs476.mono hle491
         replace hle0 := Fz.le.trans hle0 hle491
         have hM492 : Mem B [] w0 Z0 ((.row b1 [.bool u0.neg, .slice ao2 u0.abs.length cap3] 93) :: Rr) Z490 wd483 := hM486; clear hM486
         have hp493 := hp482 (hs489.small); clear hp482
         refine s1 hF485 116 (.int .i64 (w64 ((w64 (w8 ((c187.toNat : Int) - 65))) + 10))) ?_; intro a494 hF495; clear hF485
         refine s1 hF495 117 (.int .u64 (wu64 (w64 ((w64 (w8 ((c187.toNat : Int) - 65))) + 10)))) ?_; intro a496 hF497; clear hF495
         have hc498 := hp493.1; have hp499 := hp493.2; clear hp493
         refine cl hF497 123 #[.int .u64 (wu64 (w64 ((w64 (w8 ((c187.toNat : Int) - 65))) + 10)))] (nog rfl _) rfl (by kernel_rfl) (by kernel_rfl) ?_
         refine (gwords_fun (wu64 (w64 ((w64 (w8 ((c187.toNat : Int) - 65))) + 10))) hc498 _ _ hM492.fz).mono ?_; rintro _ wd500 ⟨ao504, cap505, Z507, rfl, hs506, hm⟩; refine ⟨_, rfl, ?_⟩; intro a501 hF502; have hM503 := hM492.callZ hm; have hle508 := hm.ext.le; clear hm hM492 hF497
         replace hs140 := hs140.mono hle508
         replace hsx9 := hsx9.mono hle508
         replace hleL127 := hleL127.mono hle508
         replace hle176 := hle176.mono hle508
         replace hs476 := hs476.mono hle508
         replace hs489 := hs489.mono hle508
         replace hle0 := Fz.le.trans hle0 hle508
         have hM509 : Mem B [] w0 Z0 ((.row b1 [.bool u0.neg, .slice ao2 u0.abs.length cap3] 93) :: Rr) Z507 wd500 := hM503; clear hM503
         have hp510 := hp499 (hs506.small); clear hp499
         have hc511 := hp510.1; have hp512 := hp510.2; clear hp510
         refine cl hF502 121 #[.slice ao487 (gmulS x9 (gwordsS 2)).length cap488, .slice ao504 (gwordsS (wu64 (w64 ((w64 (w8 ((c187.toNat : Int) - 65))) + 10)))).length cap505] (nog rfl _) rfl (by kernel_rfl) (by kernel_rfl) ?_
         refine (gadd_fun (gmulS x9 (gwordsS 2)) (gwordsS (wu64 (w64 ((w64 (w8 ((c187.toNat : Int) - 65))) + 10)))) hc511 ao487 cap488 ao504 cap505 _ _ hs489 hs506 hM509.fz).mono ?_; rintro _ wd513 ⟨ao517, cap518, Z520, rfl, hs519, hm⟩; refine ⟨_, rfl, ?_⟩; intro a514 hF515; have hM516 := hM509.callZ hm; have hle521 := hm.ext.le; clear hm hM509 hF502
         replace hs140 := hs140.mono hle521
         replace hsx9 := hsx9.mono hle521
         replace hleL127 := hleL127.mono hle521
         replace hle176 := hle176.mono hle521
         replace hs476 := hs476.mono hle521
         replace hs489 := hs489.mono hle521
         replace hs506 := hs506.mono hle521
         replace hle0 := Fz.le.trans hle0 hle521
         have hM522 : Mem B [] w0 Z0 ((.row b1 [.bool u0.neg, .slice ao2 u0.abs.length cap3] 93) :: Rr) Z520 wd513 := hM516; clear hM516
         have hp523 := hp512 (hs519.small); clear hp512
         refine s1 hF515 9 (.slice ao517 (gaddS (gmulS x9 (gwordsS 2)) (gwordsS (wu64 (w64 ((w64 (w8 ((c187.toNat : Int) - 65))) + 10))))).length cap518) ?_; intro a524 hF525; clear hF515
         refine nlH (hQ461 _ _ ?_); clear hQ461 hQ461Q
         refine ibn ?_
         refine rd ?_
         exact hJ159 (gaddS (gmulS x9 (gwordsS 2)) (gwordsS (wu64 (w64 ((w64 (w8 ((c187.toNat : Int) - 65))) + 10))))) ao517 cap518 Z520 ⟨hp523, hs519, hle176⟩ _ _ ((hF525.reg).anyβ _ (by kernel_rfl)) (hM522.keep (List.Sublist.cons_cons _ (List.Sublist.refl _)))
       ·
        have hp526 := hp414.2 hb432; clear hp414
        refine wp_skip ?_
        refine ibn ?_
        refine thn ?_
        refine wp_seq ?_
        have hF527 : Fr 124 [] [⟨0, [], .pointer (some ⟨b1, 0, none⟩)⟩, ⟨1, [], str (u1.drop (1 : Int).toNat)⟩, ⟨2, [], .int .i64 2⟩, ⟨8, [], .bool ((c62.toNat : Int) == 45)⟩, ⟨9, [], .slice aox9 x9.length capx9⟩, ⟨10, [], .int .i64 x10⟩, ⟨11, [], .int .i64 99⟩] a430 := hF431.reg; clear hF431
        refine sqH ?_; intro hQ528Q hQ528
        refine s1 hF527 108 (.int .i64 99) ?_; intro a529 hF530; clear hF527
        refine s1 hF530 109 (.int .i64 2) ?_; intro a531 hF532; clear hF530
        refine s1 hF532 110 (.bool true) ?_; intro a533 hF534; clear hF532
        refine nlH (hQ528 _ _ ?_); clear hQ528 hQ528Q
        refine cdT hF534 (by kernel_rfl) ?_
        refine sqH ?_; intro hQ535Q hQ535
        refine s1 hF534 6 (.pointer none) ?_; intro a536 hF537; clear hF534
        refine s1 hF537 7 (.bool false) ?_; intro a538 hF539; clear hF537
        refine nlH (hQ535 _ _ ?_); clear hQ535 hQ535Q
        refine wp_ret ?_
        refine thr ?_
        refine ibr ?_
        refine thr ?_
        refine thr ?_
        refine ibr ?_
        refine thr ?_
        refine rt (fn := Tryd.f90) (v := .tuple #[.pointer none, .bool false]) hF539 (re2 hF539 (fn := Tryd.f90) rfl (by kernel_rfl) (by kernel_rfl)) ?_
        exact ⟨(false, false, u0), ao2, cap3, ZL127, rfl, hp526, hle0, hs140, hM138.keep (List.Sublist.cons_cons _ (List.Sublist.refl _))⟩
    ·
     have hp540 := hp139.2 hb150; clear hp139
     refine wp_exit ?_
     refine thx ?_
     refine thx ?_
     refine ibx ?_
     refine thn ?_
     refine sqH ?_; intro hQ541Q hQ541
     refine s1 hF149 120 (.pointer (some ⟨b1, 0, none⟩)) ?_; intro a542 hF543; clear hF149
     refine s1 hF543 121 (.bool ((c62.toNat : Int) == 45)) ?_; intro a544 hF545; clear hF543
     refine s1 hF545 122 (.slice aox9 x9.length capx9) ?_; intro a546 hF547; clear hF545
     refine cl hF547 91 #[.pointer (some ⟨b1, 0, none⟩), .bool ((c62.toNat : Int) == 45), .slice aox9 x9.length capx9] (nog rfl _) rfl (by kernel_rfl) (by kernel_rfl) ?_
     obtain ⟨r552, hr553⟩ : ∃ x, (ggive u0 ((c62.toNat : Int) == 45) x9) = x := ⟨_, rfl⟩; have hp554 := hp540 r552 hr553; clear hp540
     have h9 := ggive_fun u0 ((c62.toNat : Int) == 45) x9 b1 ao2 cap3 aox9 capx9 _ _ _ _ _ _ hs140 hsx9 hM138 hM138.fz; rw [hr553] at h9; refine h9.mono ?_; clear h9; rintro _ wd548 ⟨ao556, cap557, Z559, rfl, hle560, hs558, hm⟩; refine ⟨_, rfl, ?_⟩; intro a549 hF550; have hM551 := hm; clear hm hM138 hF547
     replace hs140 := hs140.mono hle560
     replace hsx9 := hsx9.mono hle560
     replace hleL127 := hleL127.mono hle560
     replace hle0 := Fz.le.trans hle0 hle560
     have hM561 : Mem B [] w0 Z0 ((.row b1 [.bool r552.neg, .slice ao556 r552.abs.length cap557] 93) :: Rr) Z559 wd548 := hM551; clear hM551
     have hp562 := hp554 (hs558.small); clear hp554
     refine s1 hF550 6 (.pointer (some ⟨b1, 0, none⟩)) ?_; intro a563 hF564; clear hF550
     refine s1 hF564 7 (.bool true) ?_; intro a565 hF566; clear hF564
     refine nlH (hQ541 _ _ ?_); clear hQ541 hQ541Q
     refine wp_ret ?_
     refine rt (fn := Tryd.f90) (v := .tuple #[.pointer (some ⟨b1, 0, none⟩), .bool true]) hF566 (re2 hF566 (fn := Tryd.f90) rfl (by kernel_rfl) (by kernel_rfl)) ?_
     exact ⟨(true, true, r552), ao556, cap557, Z559, rfl, hp562, hle0, hs558, hM561.keep (List.Sublist.cons_cons _ (List.Sublist.refl _))⟩
  ·
   have hp567 := hp34.2 hb44; clear hp34
   have hF568 := hF43.reval (d := 20) (c := []) (v := .bool ((c32.toNat : Int) == 45)) (by kernel_rfl) (.bool false) (by rw [hb44]); clear hF43
   have hF569 := hF568.setc (d := 21) (c := [1]) (v := str u1) (by kernel_rfl) (v' := str u1) (by rw [hb44]; kernel_rfl); clear hF568
   have hc570 := hp567.1; have hp571 := hp567.2; clear hp567
   obtain ⟨c572, hq573⟩ : ∃ q, u1[(0 : Int).toNat]? = some q := ⟨_, List.getElem?_eq_getElem (by omega)⟩; have hp574 := hp571 c572 hq573
   refine st hF569 (.int .u8 (c572.toNat : Int)) (by rw [wanted_of hF569 (b := false) rfl rfl (by kernel_rfl) (by kernel_rfl)]; rfl) rfl (by kernel_rfl) (stridx_run hF569 (k := .i64) rfl (by kernel_rfl) (by kernel_rfl) (by kernel_rfl) hc570.1 hq573) ?_; intro a575 hF576; clear hF569
   refine st hF576 (.bool ((c572.toNat : Int) == 43)) (by rw [wanted_of hF576 (b := false) rfl rfl (by kernel_rfl) (by kernel_rfl)]; rfl) rfl (by kernel_rfl) (p0 hF576 (by kernel_rfl)) ?_; intro a577 hF578; clear hF576
   refine st hF578 (.bool ((c572.toNat : Int) == 43)) (by rw [wanted_of hF578 (b := true) rfl rfl (by kernel_rfl) (by kernel_rfl)]; rfl) rfl (by kernel_rfl) (p0 hF578 (by kernel_rfl)) ?_; intro a579 hF580; clear hF578
   refine s1 hF580 25 (.bool ((c572.toNat : Int) == 43)) ?_; intro a581 hF582; clear hF580
   refine nlH (hQ14 _ _ ?_); clear hQ14 hQ14Q
   refine cd hF582 (t := (c572.toNat : Int) == 43) (by kernel_rfl) (fun hb583 => ?_) (fun hb583 => ?_)
   ·
    have hp584 := hp574.1 hb583; clear hp574
    have hF585 : Fr 124 [] [⟨0, [], .pointer (some ⟨b1, 0, none⟩)⟩, ⟨1, [], str u1⟩, ⟨2, [], .int .i64 2⟩] a581 := hF582.reg; clear hF582
    refine sqH ?_; intro hQ586Q hQ586
    refine s1 hF585 26 (str u1) ?_; intro a587 hF588; clear hF585
    have hc589 := hp584.1; have hp590 := hp584.2; clear hp584
    obtain ⟨c591, hq592⟩ : ∃ q, u1[(0 : Int).toNat]? = some q := ⟨_, List.getElem?_eq_getElem (by omega)⟩; have hp593 := hp590 c591 hq592
    refine st hF588 (.int .u8 (c591.toNat : Int)) (nog rfl _) rfl (by kernel_rfl) (stridx_run hF588 (k := .i64) rfl (by kernel_rfl) (by kernel_rfl) (by kernel_rfl) hc589.1 hq592) ?_; intro a594 hF595; clear hF588
    refine s1 hF595 28 (.bool ((c591.toNat : Int) == 45)) ?_; intro a596 hF597; clear hF595
    refine s1 hF597 8 (.bool ((c591.toNat : Int) == 45)) ?_; intro a598 hF599; clear hF597
    refine nlH (hQ586 _ _ ?_); clear hQ586 hQ586Q
    refine rgH ?_; intro hQ600Q hQ600
    refine s1 hF599 29 (str u1) ?_; intro a601 hF602; clear hF599
    have hc603 := hp593.1; have hp604 := hp593.2; clear hp593
    refine st hF602 (str (u1.drop (1 : Int).toNat)) (nog rfl _) rfl (by kernel_rfl) (strslL_run hF602 (g := []) (k := .i64) rfl (by kernel_rfl) (by kernel_rfl) (by kernel_rfl) hc603 rfl) ?_; intro a605 hF606; clear hF602
    refine s1 hF606 1 (str (u1.drop (1 : Int).toNat)) ?_; intro a607 hF608; clear hF606
    refine nlH (hQ600 _ _ ?_); clear hQ600 hQ600Q
    refine thn ?_
    refine wp_seq ?_
    refine sqH ?_; intro hQ609Q hQ609
    refine s1 hF608 31 (.int .i64 2) ?_; intro a610 hF611; clear hF608
    refine s1 hF611 32 (.bool false) ?_; intro a612 hF613; clear hF611
    refine nlH (hQ609 _ _ ?_); clear hQ609 hQ609Q
    refine cdF hF613 (by kernel_rfl) ?_
    refine wp_skip ?_
    refine thn ?_
    refine wp_seq ?_
    refine sqH ?_; intro hQ614Q hQ614
    refine s1 hF613 56 (str (u1.drop (1 : Int).toNat)) ?_; intro a615 hF616; clear hF613
    refine s1 hF616 57 (.int .i64 ((u1.drop (1 : Int).toNat).length : Int)) ?_; intro a617 hF618; clear hF616
    refine s1 hF618 58 (.bool (((u1.drop (1 : Int).toNat).length : Int) == 0)) ?_; intro a619 hF620; clear hF618
    refine s1 hF620 59 (.bool (((u1.drop (1 : Int).toNat).length : Int) == 0)) ?_; intro a621 hF622; clear hF620
    have hF623 := hF622.atom ((((u1.drop (1 : Int).toNat).length : Int) == 0) == false) (by kernel_rfl); clear hF622
    refine gp hF623 60 0 [] (((u1.drop (1 : Int).toNat).length : Int) == 0) (.int .i64 2) rfl rfl ?_; intro a624 hF625; clear hF623
    refine gp hF625 61 0 [] (((u1.drop (1 : Int).toNat).length : Int) == 0) (.bool false) rfl rfl ?_; intro a626 hF627; clear hF625
    refine st hF627 (.bool ((((u1.drop (1 : Int).toNat).length : Int) == 0) || false)) (nog rfl _) rfl (by kernel_rfl) (pk_or hF627 (g := []) (m := 0) (b := ((u1.drop (1 : Int).toNat).length : Int) == 0) (v := false) rfl (by kernel_rfl) (by kernel_rfl) (by kernel_rfl) rfl) ?_; intro a628 hF629; clear hF627
    refine s1 hF629 63 (.bool ((((u1.drop (1 : Int).toNat).length : Int) == 0) || false)) ?_; intro a630 hF631; clear hF629
    have hF632 := hF631.atom (((((u1.drop (1 : Int).toNat).length : Int) == 0) || false) == false) (by kernel_rfl); clear hF631
    refine gp hF632 64 1 [] ((((u1.drop (1 : Int).toNat).length : Int) == 0) || false) (.int .i64 2) rfl rfl ?_; intro a633 hF634; clear hF632
    refine gp hF634 65 1 [] ((((u1.drop (1 : Int).toNat).length : Int) == 0) || false) (.bool false) rfl rfl ?_; intro a635 hF636; clear hF634
    refine st hF636 (.bool (((((u1.drop (1 : Int).toNat).length : Int) == 0) || false) || false)) (nog rfl _) rfl (by kernel_rfl) (pk_or hF636 (g := []) (m := 1) (b := (((u1.drop (1 : Int).toNat).length : Int) == 0) || false) (v := false) rfl (by kernel_rfl) (by kernel_rfl) (by kernel_rfl) rfl) ?_; intro a637 hF638; clear hF636
    refine nlH (hQ614 _ _ ?_); clear hQ614 hQ614Q
    refine cd hF638 (t := ((((u1.drop (1 : Int).toNat).length : Int) == 0) || false) || false) (by kernel_rfl) (fun hb639 => ?_) (fun hb639 => ?_)
    ·
     have hp640 := hp604.1 hb639; clear hp604
     have hF641 : Fr 124 [] [] a637 := hF638.reg; clear hF638
     refine sqH ?_; intro hQ642Q hQ642
     refine s1 hF641 6 (.pointer none) ?_; intro a643 hF644; clear hF641
     refine s1 hF644 7 (.bool false) ?_; intro a645 hF646; clear hF644
     refine nlH (hQ642 _ _ ?_); clear hQ642 hQ642Q
     refine wp_ret ?_
     refine thr ?_
     refine rt (fn := Tryd.f90) (v := .tuple #[.pointer none, .bool false]) hF646 (re2 hF646 (fn := Tryd.f90) rfl (by kernel_rfl) (by kernel_rfl)) ?_
     exact ⟨(false, false, u0), ao2, cap3, Z, rfl, hp640, hle0, hs4, hM0.keep (List.Sublist.cons_cons _ (List.Sublist.refl _))⟩
    ·
     have hp647 := hp604.2 hb639; clear hp604
     refine wp_skip ?_
     refine thn ?_
     have hF648 : Fr 124 [] [⟨0, [], .pointer (some ⟨b1, 0, none⟩)⟩, ⟨1, [], str (u1.drop (1 : Int).toNat)⟩, ⟨2, [], .int .i64 2⟩, ⟨8, [], .bool ((c591.toNat : Int) == 45)⟩] a637 := hF638.reg; clear hF638
     refine sqH ?_; intro hQ649Q hQ649
     refine s1 hF648 9 (.slice none 0 0) ?_; intro a650 hF651; clear hF648
     refine nlH (hQ649 _ _ ?_); clear hQ649 hQ649Q
     refine wp_seq ?_
     refine sqH ?_; intro hQ652Q hQ652
     refine s1 hF651 10 (.int .i64 0) ?_; intro a653 hF654; clear hF651
     refine nlH (hQ652 _ _ ?_); clear hQ652 hQ652Q
     refine wp_block ?_
     have hF655 : Fr 124 [] [⟨0, [], .pointer (some ⟨b1, 0, none⟩)⟩, ⟨1, [], str (u1.drop (1 : Int).toNat)⟩, ⟨2, [], .int .i64 2⟩, ⟨8, [], .bool ((c591.toNat : Int) == 45)⟩, ⟨9, [], .slice none 0 0⟩, ⟨10, [], .int .i64 0⟩] a653 := hF654.reg; clear hF654
     have hF657 : Fr 124 [] [⟨0, [], .pointer (some ⟨b1, 0, none⟩)⟩, ⟨1, [], str (u1.drop (1 : Int).toNat)⟩, ⟨2, [], .int .i64 2⟩, ⟨8, [], .bool ((c591.toNat : Int) == 45)⟩, ⟨9, [], .slice none 0 0⟩, ⟨10, [], .int .i64 0⟩] a653 := hF655.reg; clear hF655
     obtain ⟨inv656, mu656, hI660, hr659⟩ := hp647
     have hle661 := hle0
     refine lp (ι := (List Int) × Int × (Option Addr) × Nat × Fz) (fun (s : (List Int) × Int × (Option Addr) × Nat × Fz) => [⟨0, [], .pointer (some ⟨b1, 0, none⟩)⟩, ⟨1, [], str (u1.drop (1 : Int).toNat)⟩, ⟨2, [], .int .i64 2⟩, ⟨8, [], .bool ((c591.toNat : Int) == 45)⟩, ⟨9, [], .slice s.2.2.1 s.1.length s.2.2.2.1⟩, ⟨10, [], .int .i64 s.2.1⟩]) (fun (s : (List Int) × Int × (Option Addr) × Nat × Fz) => ((.row b1 [.bool u0.neg, .slice ao2 u0.abs.length cap3] 93) :: Rr)) (fun (s : (List Int) × Int × (Option Addr) × Nat × Fz) => s.2.2.2.2) (fun (s : (List Int) × Int × (Option Addr) × Nat × Fz) => inv656 s.1 s.2.1 ∧ SlR (tyInt .u32) s.2.2.2.2 s.2.2.1 s.2.2.2.1 s.1 ∧ Fz.le Z s.2.2.2.2) (fun (s : (List Int) × Int × (Option Addr) × Nat × Fz) => mu656 s.1 s.2.1) ⟨([] : List Int), 0, none, 0, Z⟩ ⟨hI660, (SlR.nil _ _), Fz.le.refl _⟩ (by exact hF657.reg) (by exact hM0) ?_
     rintro ⟨x9, x10, aox9, capx9, ZL656⟩ ⟨hI658, hsx9, hleL656⟩ a662 wd663 hF664 hM665
     have hF666 : Fr 124 [] [⟨0, [], .pointer (some ⟨b1, 0, none⟩)⟩, ⟨1, [], str (u1.drop (1 : Int).toNat)⟩, ⟨2, [], .int .i64 2⟩, ⟨8, [], .bool ((c591.toNat : Int) == 45)⟩, ⟨9, [], .slice aox9 x9.length capx9⟩, ⟨10, [], .int .i64 x10⟩] a662 := hF664; clear hF664 hF657
     have hM667 : Mem B [] w0 Z0 ((.row b1 [.bool u0.neg, .slice ao2 u0.abs.length cap3] 93) :: Rr) ZL656 wd663 := hM665; clear hM665 hM0
     have hp668 := hr659 x9 x10 hI658
     replace hle0 := Fz.le.trans hle0 hleL656
     have hs669 := hs4.mono hleL656
     refine wp_seq ?_
     refine sqH ?_; intro hQ670Q hQ670
     refine s1 hF666 67 (.int .i64 x10) ?_; intro a671 hF672; clear hF666
     refine s1 hF672 68 (str (u1.drop (1 : Int).toNat)) ?_; intro a673 hF674; clear hF672
     refine s1 hF674 69 (.int .i64 ((u1.drop (1 : Int).toNat).length : Int)) ?_; intro a675 hF676; clear hF674
     refine s1 hF676 70 (.bool (decide (x10 < ((u1.drop (1 : Int).toNat).length : Int)))) ?_; intro a677 hF678; clear hF676
     refine nlH (hQ670 _ _ ?_); clear hQ670 hQ670Q
     refine cd hF678 (t := decide (x10 < ((u1.drop (1 : Int).toNat).length : Int))) (by kernel_rfl) (fun hb679 => ?_) (fun hb679 => ?_)
     ·
      have hp680 := hp668.1 hb679; clear hp668
      refine wp_skip ?_
      refine thn ?_
      have hF681 : Fr 124 [] [⟨0, [], .pointer (some ⟨b1, 0, none⟩)⟩, ⟨1, [], str (u1.drop (1 : Int).toNat)⟩, ⟨2, [], .int .i64 2⟩, ⟨8, [], .bool ((c591.toNat : Int) == 45)⟩, ⟨9, [], .slice aox9 x9.length capx9⟩, ⟨10, [], .int .i64 x10⟩] a677 := hF678.reg; clear hF678
      have hF683 : Fr 124 [] [⟨0, [], .pointer (some ⟨b1, 0, none⟩)⟩, ⟨1, [], str (u1.drop (1 : Int).toNat)⟩, ⟨2, [], .int .i64 2⟩, ⟨8, [], .bool ((c591.toNat : Int) == 45)⟩, ⟨9, [], .slice aox9 x9.length capx9⟩, ⟨10, [], .int .i64 x10⟩] a677 := hF681.reg; clear hF681
      obtain ⟨inv682, hp684, hp685⟩ := hp680
      refine wp_seq_k fun KJ686 hKJ687 => ?_
      have hJ688 : ∀ (x9v : List Int) (aox9v : Option Addr) (capx9v : Nat) (ZJ682 : Fz), inv682 x9v ∧ SlR (tyInt .u32) ZJ682 aox9v capx9v x9v ∧ Fz.le ZL656 ZJ682 → ∀ a1 w1, Fr 124 [] [⟨0, [], .pointer (some ⟨b1, 0, none⟩)⟩, ⟨1, [], str (u1.drop (1 : Int).toNat)⟩, ⟨2, [], .int .i64 2⟩, ⟨8, [], .bool ((c591.toNat : Int) == 45)⟩, ⟨9, [], .slice aox9v x9v.length capx9v⟩, ⟨10, [], .int .i64 x10⟩] a1 → Mem B [] w0 Z0 ((.row b1 [.bool u0.neg, .slice ao2 u0.abs.length cap3] 93) :: Rr) ZJ682 w1 → KJ686 a1 w1 := by
       rintro x9v aox9v capx9v ZJ682 ⟨hI693, hsx9v, hleJ682⟩ a689 wd690 hF691 hM692; clear hF683 hM667
       refine hKJ687 _ _ ?_; clear hKJ687
       have hp694 := hp685 x9v hI693
       replace hle0 := Fz.le.trans hle0 hleJ682
       have hs695 := hs669.mono hleJ682
       have hs696 := hsx9.mono hleJ682
       have hs697 := hleL656.mono hleJ682
       refine rgH ?_; intro hQ698Q hQ698
       refine s1 hF691 71 (.int .i64 x10) ?_; intro a699 hF700; clear hF691
       refine s1 hF700 72 (.int .i64 (w64 (x10 + 1))) ?_; intro a701 hF702; clear hF700
       refine s1 hF702 10 (.int .i64 (w64 (x10 + 1))) ?_; intro a703 hF704; clear hF702
       refine nlH (hQ698 _ _ ?_); clear hQ698 hQ698Q
       refine rd ?_
       exact ⟨⟨x9v, w64 (x10 + 1), aox9v, capx9v, ZJ682⟩, ⟨hp694.1, hsx9v, hs697⟩, hp694.2, (hF704.reg).anyβ _ (by kernel_rfl), hM692.keep (List.Sublist.cons_cons _ (List.Sublist.refl _))⟩
      have hle705 := Fz.le.refl ZL656
      refine wp_block ?_
      refine sqH ?_; intro hQ706Q hQ706
      refine s1 hF683 11 (.int .i64 99) ?_; intro a707 hF708; clear hF683
      refine nlH (hQ706 _ _ ?_); clear hQ706 hQ706Q
      refine wp_seq ?_
      refine sqH ?_; intro hQ709Q hQ709
      refine s1 hF708 73 (str (u1.drop (1 : Int).toNat)) ?_; intro a710 hF711; clear hF708
      refine s1 hF711 74 (.int .i64 x10) ?_; intro a712 hF713; clear hF711
      have hc714 := hp684.1; have hp715 := hp684.2; clear hp684
      obtain ⟨c716, hq717⟩ : ∃ q, (u1.drop (1 : Int).toNat)[x10.toNat]? = some q := ⟨_, List.getElem?_eq_getElem (by omega)⟩; have hp718 := hp715 c716 hq717
      refine st hF713 (.int .u8 (c716.toNat : Int)) (nog rfl _) rfl (by kernel_rfl) (stridx_run hF713 (k := .i64) rfl (by kernel_rfl) (by kernel_rfl) (by kernel_rfl) hc714.1 hq717) ?_; intro a719 hF720; clear hF713
      refine s1 hF720 12 (.int .u8 (c716.toNat : Int)) ?_; intro a721 hF722; clear hF720
      refine nlH (hQ709 _ _ ?_); clear hQ709 hQ709Q
      refine wp_block ?_
      refine sqH ?_; intro hQ723Q hQ723
      refine s1 hF722 77 (.int .u8 (c716.toNat : Int)) ?_; intro a724 hF725; clear hF722
      refine s1 hF725 78 (.bool (decide ((c716.toNat : Int) ≥ 48))) ?_; intro a726 hF727; clear hF725
      refine s1 hF727 79 (.bool (decide ((c716.toNat : Int) ≥ 48))) ?_; intro a728 hF729; clear hF727
      have hF730 := hF729.atom ((decide ((c716.toNat : Int) ≥ 48)) == true) (by kernel_rfl); clear hF729
      refine gp hF730 80 0 [] (decide ((c716.toNat : Int) ≥ 48)) (.int .u8 (c716.toNat : Int)) rfl rfl ?_; intro a731 hF732; clear hF730
      refine gp hF732 81 0 [] (decide ((c716.toNat : Int) ≥ 48)) (.bool (decide ((c716.toNat : Int) ≤ 57))) rfl rfl ?_; intro a733 hF734; clear hF732
      refine st hF734 (.bool ((decide ((c716.toNat : Int) ≥ 48)) && (decide ((c716.toNat : Int) ≤ 57)))) (nog rfl _) rfl (by kernel_rfl) (pk_and hF734 (g := []) (m := 0) (b := decide ((c716.toNat : Int) ≥ 48)) (v := decide ((c716.toNat : Int) ≤ 57)) rfl (by kernel_rfl) (by kernel_rfl) (by kernel_rfl) rfl) ?_; intro a735 hF736; clear hF734
      refine s1 hF736 76 (.bool ((decide ((c716.toNat : Int) ≥ 48)) && (decide ((c716.toNat : Int) ≤ 57)))) ?_; intro a737 hF738; clear hF736
      refine nlH (hQ723 _ _ ?_); clear hQ723 hQ723Q
      refine cd hF738 (t := (decide ((c716.toNat : Int) ≥ 48)) && (decide ((c716.toNat : Int) ≤ 57))) (by kernel_rfl) (fun hb739 => ?_) (fun hb739 => ?_)
      ·
       have hp740 := hp718.1 hb739; clear hp718
       have hF741 : Fr 124 [] [⟨0, [], .pointer (some ⟨b1, 0, none⟩)⟩, ⟨1, [], str (u1.drop (1 : Int).toNat)⟩, ⟨2, [], .int .i64 2⟩, ⟨8, [], .bool ((c591.toNat : Int) == 45)⟩, ⟨9, [], .slice aox9 x9.length capx9⟩, ⟨10, [], .int .i64 x10⟩, ⟨12, [], .int .u8 (c716.toNat : Int)⟩] a737 := hF738.reg; clear hF738
       refine rgH ?_; intro hQ742Q hQ742
       refine s1 hF741 83 (.int .u8 (c716.toNat : Int)) ?_; intro a743 hF744; clear hF741
       refine s1 hF744 84 (.int .u8 (w8 ((c716.toNat : Int) - 48))) ?_; intro a745 hF746; clear hF744
       refine s1 hF746 85 (.int .i64 (w64 (w8 ((c716.toNat : Int) - 48)))) ?_; intro a747 hF748; clear hF746
       refine s1 hF748 11 (.int .i64 (w64 (w8 ((c716.toNat : Int) - 48)))) ?_; intro a749 hF750; clear hF748
       refine nlH (hQ742 _ _ ?_); clear hQ742 hQ742Q
       refine ibn ?_
       refine thn ?_
       refine wp_seq ?_
       refine sqH ?_; intro hQ751Q hQ751
       refine s1 hF750 108 (.int .i64 (w64 (w8 ((c716.toNat : Int) - 48)))) ?_; intro a752 hF753; clear hF750
       refine s1 hF753 109 (.int .i64 2) ?_; intro a754 hF755; clear hF753
       refine s1 hF755 110 (.bool (decide ((w64 (w8 ((c716.toNat : Int) - 48))) ≥ 2))) ?_; intro a756 hF757; clear hF755
       refine nlH (hQ751 _ _ ?_); clear hQ751 hQ751Q
       refine cd hF757 (t := decide ((w64 (w8 ((c716.toNat : Int) - 48))) ≥ 2)) (by kernel_rfl) (fun hb758 => ?_) (fun hb758 => ?_)
       ·
        have hp759 := hp740.1 hb758; clear hp740
        refine sqH ?_; intro hQ760Q hQ760
        refine s1 hF757 6 (.pointer none) ?_; intro a761 hF762; clear hF757
        refine s1 hF762 7 (.bool false) ?_; intro a763 hF764; clear hF762
        refine nlH (hQ760 _ _ ?_); clear hQ760 hQ760Q
        refine wp_ret ?_
        refine thr ?_
        refine ibr ?_
        refine thr ?_
        refine thr ?_
        refine ibr ?_
        refine thr ?_
        refine rt (fn := Tryd.f90) (v := .tuple #[.pointer none, .bool false]) hF764 (re2 hF764 (fn := Tryd.f90) rfl (by kernel_rfl) (by kernel_rfl)) ?_
        exact ⟨(false, false, u0), ao2, cap3, ZL656, rfl, hp759, hle0, hs669, hM667.keep (List.Sublist.cons_cons _ (List.Sublist.refl _))⟩
       ·
        have hp765 := hp740.2 hb758; clear hp740
        refine wp_skip ?_
        refine thn ?_
        refine rgH ?_; intro hQ766Q hQ766
        refine s1 hF757 111 (.slice aox9 x9.length capx9) ?_; intro a767 hF768; clear hF757
        refine s1 hF768 112 (.int .i64 2) ?_; intro a769 hF770; clear hF768
        refine s1 hF770 113 (.int .u64 2) ?_; intro a771 hF772; clear hF770
        have hc773 := hp765.1; have hp774 := hp765.2; clear hp765
        refine cl hF772 123 #[.int .u64 2] (nog rfl _) rfl (by kernel_rfl) (by kernel_rfl) ?_
        refine (gwords_fun 2 hc773 _ _ hM667.fz).mono ?_; rintro _ wd775 ⟨ao779, cap780, Z782, rfl, hs781, hm⟩; refine ⟨_, rfl, ?_⟩; intro a776 hF777; have hM778 := hM667.callZ hm; have hle783 := hm.ext.le; clear hm hM667 hF772
        replace hs669 := hs669.mono hle783
        replace hsx9 := hsx9.mono hle783
        replace hleL656 := hleL656.mono hle783
        replace hle705 := hle705.mono hle783
        replace hle0 := Fz.le.trans hle0 hle783
        have hM784 : Mem B [] w0 Z0 ((.row b1 [.bool u0.neg, .slice ao2 u0.abs.length cap3] 93) :: Rr) Z782 wd775 := hM778; clear hM778
        have hp785 := hp774 (hs781.small); clear hp774
        have hc786 := hp785.1; have hp787 := hp785.2; clear hp785
        refine cl hF777 122 #[.slice aox9 x9.length capx9, .slice ao779 (gwordsS 2).length cap780] (nog rfl _) rfl (by kernel_rfl) (by kernel_rfl) ?_
        refine (gmul_fun x9 (gwordsS 2) hc786 aox9 capx9 ao779 cap780 _ _ hsx9 hs781 hM784.fz).mono ?_; rintro _ wd788 ⟨ao792, cap793, Z795, rfl, hs794, hm⟩; refine ⟨_, rfl, ?_⟩; intro a789 hF790; have hM791 := hM784.callZ hm; have hle796 := hm.ext.le; clear hm hM784 hF777
        replace hs669 := hs669.mono hle796
        replace hsx9 := hsx9.mono hle796
        replace hleL656 := hleL656.mono hle796
        replace hle705 := hle705.mono hle796
        replace hs781 := hs781.mono hle796
        replace hle0 := Fz.le.trans hle0 hle796
        have hM797 : Mem B [] w0 Z0 ((.row b1 [.bool u0.neg, .slice ao2 u0.abs.length cap3] 93) :: Rr) Z795 wd788 := hM791; clear hM791
        have hp798 := hp787 (hs794.small); clear hp787
        refine s1 hF790 116 (.int .i64 (w64 (w8 ((c716.toNat : Int) - 48)))) ?_; intro a799 hF800; clear hF790
        refine s1 hF800 117 (.int .u64 (wu64 (w64 (w8 ((c716.toNat : Int) - 48))))) ?_; intro a801 hF802; clear hF800
        have hc803 := hp798.1; have hp804 := hp798.2; clear hp798
        refine cl hF802 123 #[.int .u64 (wu64 (w64 (w8 ((c716.toNat : Int) - 48))))] (nog rfl _) rfl (by kernel_rfl) (by kernel_rfl) ?_
        refine (gwords_fun (wu64 (w64 (w8 ((c716.toNat : Int) - 48)))) hc803 _ _ hM797.fz).mono ?_; rintro _ wd805 ⟨ao809, cap810, Z812, rfl, hs811, hm⟩; refine ⟨_, rfl, ?_⟩; intro a806 hF807; have hM808 := hM797.callZ hm; have hle813 := hm.ext.le; clear hm hM797 hF802
        replace hs669 := hs669.mono hle813
        replace hsx9 := hsx9.mono hle813
        replace hleL656 := hleL656.mono hle813
        replace hle705 := hle705.mono hle813
        replace hs781 := hs781.mono hle813
        replace hs794 := hs794.mono hle813
        replace hle0 := Fz.le.trans hle0 hle813
        have hM814 : Mem B [] w0 Z0 ((.row b1 [.bool u0.neg, .slice ao2 u0.abs.length cap3] 93) :: Rr) Z812 wd805 := hM808; clear hM808
        have hp815 := hp804 (hs811.small); clear hp804
        have hc816 := hp815.1; have hp817 := hp815.2; clear hp815
        refine cl hF807 121 #[.slice ao792 (gmulS x9 (gwordsS 2)).length cap793, .slice ao809 (gwordsS (wu64 (w64 (w8 ((c716.toNat : Int) - 48))))).length cap810] (nog rfl _) rfl (by kernel_rfl) (by kernel_rfl) ?_
        refine (gadd_fun (gmulS x9 (gwordsS 2)) (gwordsS (wu64 (w64 (w8 ((c716.toNat : Int) - 48))))) hc816 ao792 cap793 ao809 cap810 _ _ hs794 hs811 hM814.fz).mono ?_; rintro _ wd818 ⟨ao822, cap823, Z825, rfl, hs824, hm⟩; refine ⟨_, rfl, ?_⟩; intro a819 hF820; have hM821 := hM814.callZ hm; have hle826 := hm.ext.le; clear hm hM814 hF807
        replace hs669 := hs669.mono hle826
        replace hsx9 := hsx9.mono hle826
        replace hleL656 := hleL656.mono hle826
        replace hle705 := hle705.mono hle826
        replace hs781 := hs781.mono hle826
        replace hs794 := hs794.mono hle826
        replace hs811 := hs811.mono hle826
        replace hle0 := Fz.le.trans hle0 hle826
        have hM827 : Mem B [] w0 Z0 ((.row b1 [.bool u0.neg, .slice ao2 u0.abs.length cap3] 93) :: Rr) Z825 wd818 := hM821; clear hM821
        have hp828 := hp817 (hs824.small); clear hp817
        refine s1 hF820 9 (.slice ao822 (gaddS (gmulS x9 (gwordsS 2)) (gwordsS (wu64 (w64 (w8 ((c716.toNat : Int) - 48)))))).length cap823) ?_; intro a829 hF830; clear hF820
        refine nlH (hQ766 _ _ ?_); clear hQ766 hQ766Q
        refine ibn ?_
        refine rd ?_
        exact hJ688 (gaddS (gmulS x9 (gwordsS 2)) (gwordsS (wu64 (w64 (w8 ((c716.toNat : Int) - 48)))))) ao822 cap823 Z825 ⟨hp828, hs824, hle705⟩ _ _ ((hF830.reg).anyβ _ (by kernel_rfl)) (hM827.keep (List.Sublist.cons_cons _ (List.Sublist.refl _)))
      ·
       have hp831 := hp718.2 hb739; clear hp718
       have hF832 : Fr 124 [] [⟨0, [], .pointer (some ⟨b1, 0, none⟩)⟩, ⟨1, [], str (u1.drop (1 : Int).toNat)⟩, ⟨2, [], .int .i64 2⟩, ⟨8, [], .bool ((c591.toNat : Int) == 45)⟩, ⟨9, [], .slice aox9 x9.length capx9⟩, ⟨10, [], .int .i64 x10⟩, ⟨11, [], .int .i64 99⟩, ⟨12, [], .int .u8 (c716.toNat : Int)⟩] a737 := hF738.reg; clear hF738
       refine sqH ?_; intro hQ833Q hQ833
       refine s1 hF832 87 (.int .u8 (c716.toNat : Int)) ?_; intro a834 hF835; clear hF832
       refine s1 hF835 88 (.bool (decide ((c716.toNat : Int) ≥ 97))) ?_; intro a836 hF837; clear hF835
       refine s1 hF837 89 (.bool (decide ((c716.toNat : Int) ≥ 97))) ?_; intro a838 hF839; clear hF837
       have hF840 := hF839.atom ((decide ((c716.toNat : Int) ≥ 97)) == true) (by kernel_rfl); clear hF839
       refine gp hF840 90 0 [] (decide ((c716.toNat : Int) ≥ 97)) (.int .u8 (c716.toNat : Int)) rfl rfl ?_; intro a841 hF842; clear hF840
       refine gp hF842 91 0 [] (decide ((c716.toNat : Int) ≥ 97)) (.bool (decide ((c716.toNat : Int) ≤ 122))) rfl rfl ?_; intro a843 hF844; clear hF842
       refine st hF844 (.bool ((decide ((c716.toNat : Int) ≥ 97)) && (decide ((c716.toNat : Int) ≤ 122)))) (nog rfl _) rfl (by kernel_rfl) (pk_and hF844 (g := []) (m := 0) (b := decide ((c716.toNat : Int) ≥ 97)) (v := decide ((c716.toNat : Int) ≤ 122)) rfl (by kernel_rfl) (by kernel_rfl) (by kernel_rfl) rfl) ?_; intro a845 hF846; clear hF844
       refine s1 hF846 86 (.bool ((decide ((c716.toNat : Int) ≥ 97)) && (decide ((c716.toNat : Int) ≤ 122)))) ?_; intro a847 hF848; clear hF846
       refine nlH (hQ833 _ _ ?_); clear hQ833 hQ833Q
       refine cd hF848 (t := (decide ((c716.toNat : Int) ≥ 97)) && (decide ((c716.toNat : Int) ≤ 122))) (by kernel_rfl) (fun hb849 => ?_) (fun hb849 => ?_)
       ·
        have hp850 := hp831.1 hb849; clear hp831
        have hF851 : Fr 124 [] [⟨0, [], .pointer (some ⟨b1, 0, none⟩)⟩, ⟨1, [], str (u1.drop (1 : Int).toNat)⟩, ⟨2, [], .int .i64 2⟩, ⟨8, [], .bool ((c591.toNat : Int) == 45)⟩, ⟨9, [], .slice aox9 x9.length capx9⟩, ⟨10, [], .int .i64 x10⟩, ⟨12, [], .int .u8 (c716.toNat : Int)⟩] a847 := hF848.reg; clear hF848
        refine rgH ?_; intro hQ852Q hQ852
        refine s1 hF851 93 (.int .u8 (c716.toNat : Int)) ?_; intro a853 hF854; clear hF851
        refine s1 hF854 94 (.int .u8 (w8 ((c716.toNat : Int) - 97))) ?_; intro a855 hF856; clear hF854
        refine s1 hF856 95 (.int .i64 (w64 (w8 ((c716.toNat : Int) - 97)))) ?_; intro a857 hF858; clear hF856
        refine s1 hF858 96 (.int .i64 (w64 ((w64 (w8 ((c716.toNat : Int) - 97))) + 10))) ?_; intro a859 hF860; clear hF858
        refine s1 hF860 11 (.int .i64 (w64 ((w64 (w8 ((c716.toNat : Int) - 97))) + 10))) ?_; intro a861 hF862; clear hF860
        refine nlH (hQ852 _ _ ?_); clear hQ852 hQ852Q
        refine ibn ?_
        refine thn ?_
        refine wp_seq ?_
        refine sqH ?_; intro hQ863Q hQ863
        refine s1 hF862 108 (.int .i64 (w64 ((w64 (w8 ((c716.toNat : Int) - 97))) + 10))) ?_; intro a864 hF865; clear hF862
        refine s1 hF865 109 (.int .i64 2) ?_; intro a866 hF867; clear hF865
        refine s1 hF867 110 (.bool (decide ((w64 ((w64 (w8 ((c716.toNat : Int) - 97))) + 10)) ≥ 2))) ?_; intro a868 hF869; clear hF867
        refine nlH (hQ863 _ _ ?_); clear hQ863 hQ863Q
        refine cd hF869 (t := decide ((w64 ((w64 (w8 ((c716.toNat : Int) - 97))) + 10)) ≥ 2)) (by kernel_rfl) (fun hb870 => ?_) (fun hb870 => ?_)
        ·
         have hp871 := hp850.1 hb870; clear hp850
         refine sqH ?_; intro hQ872Q hQ872
         refine s1 hF869 6 (.pointer none) ?_; intro a873 hF874; clear hF869
         refine s1 hF874 7 (.bool false) ?_; intro a875 hF876; clear hF874
         refine nlH (hQ872 _ _ ?_); clear hQ872 hQ872Q
         refine wp_ret ?_
         refine thr ?_
         refine ibr ?_
         refine thr ?_
         refine thr ?_
         refine ibr ?_
         refine thr ?_
         refine rt (fn := Tryd.f90) (v := .tuple #[.pointer none, .bool false]) hF876 (re2 hF876 (fn := Tryd.f90) rfl (by kernel_rfl) (by kernel_rfl)) ?_
         exact ⟨(false, false, u0), ao2, cap3, ZL656, rfl, hp871, hle0, hs669, hM667.keep (List.Sublist.cons_cons _ (List.Sublist.refl _))⟩
        ·
         have hp877 := hp850.2 hb870; clear hp850
         refine wp_skip ?_
         refine thn ?_
         refine rgH ?_; intro hQ878Q hQ878
         refine s1 hF869 111 (.slice aox9 x9.length capx9) ?_; intro a879 hF880; clear hF869
         refine s1 hF880 112 (.int .i64 2) ?_; intro a881 hF882; clear hF880
         refine s1 hF882 113 (.int .u64 2) ?_; intro a883 hF884; clear hF882
         have hc885 := hp877.1; have hp886 := hp877.2; clear hp877
         refine cl hF884 123 #[.int .u64 2] (nog rfl _) rfl (by kernel_rfl) (by kernel_rfl) ?_
         refine (gwords_fun 2 hc885 _ _ hM667.fz).mono ?_; rintro _ wd887 ⟨ao891, cap892, Z894, rfl, hs893, hm⟩; refine ⟨_, rfl, ?_⟩; intro a888 hF889; have hM890 := hM667.callZ hm; have hle895 := hm.ext.le; clear hm hM667 hF884
         replace hs669 := hs669.mono hle895
         replace hsx9 := hsx9.mono hle895
         replace hleL656 := hleL656.mono hle895
         replace hle705 := hle705.mono hle895
         replace hle0 := Fz.le.trans hle0 hle895
         have hM896 : Mem B [] w0 Z0 ((.row b1 [.bool u0.neg, .slice ao2 u0.abs.length cap3] 93) :: Rr) Z894 wd887 := hM890; clear hM890
         have hp897 := hp886 (hs893.small); clear hp886
         have hc898 := hp897.1; have hp899 := hp897.2; clear hp897
         refine cl hF889 122 #[.slice aox9 x9.length capx9, .slice ao891 (gwordsS 2).length cap892] (nog rfl _) rfl (by kernel_rfl) (by kernel_rfl) ?_
         refine (gmul_fun x9 (gwordsS 2) hc898 aox9 capx9 ao891 cap892 _ _ hsx9 hs893 hM896.fz).mono ?_; rintro _ wd900 ⟨ao904, cap905, Z907, rfl, hs906, hm⟩; refine ⟨_, rfl, ?_⟩; intro a901 hF902; have hM903 := hM896.callZ hm; have hle908 := hm.ext.le; clear hm hM896 hF889
         replace hs669 := hs669.mono hle908
         replace hsx9 := hsx9.mono hle908
         replace hleL656 := hleL656.mono hle908
         replace hle705 := hle705.mono hle908
         replace hs893 := hs893.mono hle908
         replace hle0 := Fz.le.trans hle0 hle908
         have hM909 : Mem B [] w0 Z0 ((.row b1 [.bool u0.neg, .slice ao2 u0.abs.length cap3] 93) :: Rr) Z907 wd900 := hM903; clear hM903
         have hp910 := hp899 (hs906.small); clear hp899
         refine s1 hF902 116 (.int .i64 (w64 ((w64 (w8 ((c716.toNat : Int) - 97))) + 10))) ?_; intro a911 hF912; clear hF902
         refine s1 hF912 117 (.int .u64 (wu64 (w64 ((w64 (w8 ((c716.toNat : Int) - 97))) + 10)))) ?_; intro a913 hF914; clear hF912
         have hc915 := hp910.1; have hp916 := hp910.2; clear hp910
         refine cl hF914 123 #[.int .u64 (wu64 (w64 ((w64 (w8 ((c716.toNat : Int) - 97))) + 10)))] (nog rfl _) rfl (by kernel_rfl) (by kernel_rfl) ?_
         refine (gwords_fun (wu64 (w64 ((w64 (w8 ((c716.toNat : Int) - 97))) + 10))) hc915 _ _ hM909.fz).mono ?_; rintro _ wd917 ⟨ao921, cap922, Z924, rfl, hs923, hm⟩; refine ⟨_, rfl, ?_⟩; intro a918 hF919; have hM920 := hM909.callZ hm; have hle925 := hm.ext.le; clear hm hM909 hF914
         replace hs669 := hs669.mono hle925
         replace hsx9 := hsx9.mono hle925
         replace hleL656 := hleL656.mono hle925
         replace hle705 := hle705.mono hle925
         replace hs893 := hs893.mono hle925
         replace hs906 := hs906.mono hle925
         replace hle0 := Fz.le.trans hle0 hle925
         have hM926 : Mem B [] w0 Z0 ((.row b1 [.bool u0.neg, .slice ao2 u0.abs.length cap3] 93) :: Rr) Z924 wd917 := hM920; clear hM920
         have hp927 := hp916 (hs923.small); clear hp916
         have hc928 := hp927.1; have hp929 := hp927.2; clear hp927
         refine cl hF919 121 #[.slice ao904 (gmulS x9 (gwordsS 2)).length cap905, .slice ao921 (gwordsS (wu64 (w64 ((w64 (w8 ((c716.toNat : Int) - 97))) + 10)))).length cap922] (nog rfl _) rfl (by kernel_rfl) (by kernel_rfl) ?_
         refine (gadd_fun (gmulS x9 (gwordsS 2)) (gwordsS (wu64 (w64 ((w64 (w8 ((c716.toNat : Int) - 97))) + 10)))) hc928 ao904 cap905 ao921 cap922 _ _ hs906 hs923 hM926.fz).mono ?_; rintro _ wd930 ⟨ao934, cap935, Z937, rfl, hs936, hm⟩; refine ⟨_, rfl, ?_⟩; intro a931 hF932; have hM933 := hM926.callZ hm; have hle938 := hm.ext.le; clear hm hM926 hF919
         replace hs669 := hs669.mono hle938
         replace hsx9 := hsx9.mono hle938
         replace hleL656 := hleL656.mono hle938
         replace hle705 := hle705.mono hle938
         replace hs893 := hs893.mono hle938
         replace hs906 := hs906.mono hle938
         replace hs923 := hs923.mono hle938
         replace hle0 := Fz.le.trans hle0 hle938
         have hM939 : Mem B [] w0 Z0 ((.row b1 [.bool u0.neg, .slice ao2 u0.abs.length cap3] 93) :: Rr) Z937 wd930 := hM933; clear hM933
         have hp940 := hp929 (hs936.small); clear hp929
         refine s1 hF932 9 (.slice ao934 (gaddS (gmulS x9 (gwordsS 2)) (gwordsS (wu64 (w64 ((w64 (w8 ((c716.toNat : Int) - 97))) + 10))))).length cap935) ?_; intro a941 hF942; clear hF932
         refine nlH (hQ878 _ _ ?_); clear hQ878 hQ878Q
         refine ibn ?_
         refine rd ?_
         exact hJ688 (gaddS (gmulS x9 (gwordsS 2)) (gwordsS (wu64 (w64 ((w64 (w8 ((c716.toNat : Int) - 97))) + 10))))) ao934 cap935 Z937 ⟨hp940, hs936, hle705⟩ _ _ ((hF942.reg).anyβ _ (by kernel_rfl)) (hM939.keep (List.Sublist.cons_cons _ (List.Sublist.refl _)))
       ·
        have hp943 := hp831.2 hb849; clear hp831
        have hF944 : Fr 124 [] [⟨0, [], .pointer (some ⟨b1, 0, none⟩)⟩, ⟨1, [], str (u1.drop (1 : Int).toNat)⟩, ⟨2, [], .int .i64 2⟩, ⟨8, [], .bool ((c591.toNat : Int) == 45)⟩, ⟨9, [], .slice aox9 x9.length capx9⟩, ⟨10, [], .int .i64 x10⟩, ⟨11, [], .int .i64 99⟩, ⟨12, [], .int .u8 (c716.toNat : Int)⟩] a847 := hF848.reg; clear hF848
        refine sqH ?_; intro hQ945Q hQ945
        refine s1 hF944 98 (.int .u8 (c716.toNat : Int)) ?_; intro a946 hF947; clear hF944
        refine s1 hF947 99 (.bool (decide ((c716.toNat : Int) ≥ 65))) ?_; intro a948 hF949; clear hF947
        refine s1 hF949 100 (.bool (decide ((c716.toNat : Int) ≥ 65))) ?_; intro a950 hF951; clear hF949
        have hF952 := hF951.atom ((decide ((c716.toNat : Int) ≥ 65)) == true) (by kernel_rfl); clear hF951
        refine gp hF952 101 0 [] (decide ((c716.toNat : Int) ≥ 65)) (.int .u8 (c716.toNat : Int)) rfl rfl ?_; intro a953 hF954; clear hF952
        refine gp hF954 102 0 [] (decide ((c716.toNat : Int) ≥ 65)) (.bool (decide ((c716.toNat : Int) ≤ 90))) rfl rfl ?_; intro a955 hF956; clear hF954
        refine st hF956 (.bool ((decide ((c716.toNat : Int) ≥ 65)) && (decide ((c716.toNat : Int) ≤ 90)))) (nog rfl _) rfl (by kernel_rfl) (pk_and hF956 (g := []) (m := 0) (b := decide ((c716.toNat : Int) ≥ 65)) (v := decide ((c716.toNat : Int) ≤ 90)) rfl (by kernel_rfl) (by kernel_rfl) (by kernel_rfl) rfl) ?_; intro a957 hF958; clear hF956
        refine s1 hF958 97 (.bool ((decide ((c716.toNat : Int) ≥ 65)) && (decide ((c716.toNat : Int) ≤ 90)))) ?_; intro a959 hF960; clear hF958
        refine nlH (hQ945 _ _ ?_); clear hQ945 hQ945Q
        refine cd hF960 (t := (decide ((c716.toNat : Int) ≥ 65)) && (decide ((c716.toNat : Int) ≤ 90))) (by kernel_rfl) (fun hb961 => ?_) (fun hb961 => ?_)
        ·
         have hp962 := hp943.1 hb961; clear hp943
         have hF963 : Fr 124 [] [⟨0, [], .pointer (some ⟨b1, 0, none⟩)⟩, ⟨1, [], str (u1.drop (1 : Int).toNat)⟩, ⟨2, [], .int .i64 2⟩, ⟨8, [], .bool ((c591.toNat : Int) == 45)⟩, ⟨9, [], .slice aox9 x9.length capx9⟩, ⟨10, [], .int .i64 x10⟩, ⟨12, [], .int .u8 (c716.toNat : Int)⟩] a959 := hF960.reg; clear hF960
         refine rgH ?_; intro hQ964Q hQ964
         refine s1 hF963 104 (.int .u8 (c716.toNat : Int)) ?_; intro a965 hF966; clear hF963
         refine s1 hF966 105 (.int .u8 (w8 ((c716.toNat : Int) - 65))) ?_; intro a967 hF968; clear hF966
         refine s1 hF968 106 (.int .i64 (w64 (w8 ((c716.toNat : Int) - 65)))) ?_; intro a969 hF970; clear hF968
         refine s1 hF970 107 (.int .i64 (w64 ((w64 (w8 ((c716.toNat : Int) - 65))) + 10))) ?_; intro a971 hF972; clear hF970
         refine s1 hF972 11 (.int .i64 (w64 ((w64 (w8 ((c716.toNat : Int) - 65))) + 10))) ?_; intro a973 hF974; clear hF972
         refine nlH (hQ964 _ _ ?_); clear hQ964 hQ964Q
         refine ibn ?_
         refine thn ?_
         refine wp_seq ?_
         refine sqH ?_; intro hQ975Q hQ975
         refine s1 hF974 108 (.int .i64 (w64 ((w64 (w8 ((c716.toNat : Int) - 65))) + 10))) ?_; intro a976 hF977; clear hF974
         refine s1 hF977 109 (.int .i64 2) ?_; intro a978 hF979; clear hF977
         refine s1 hF979 110 (.bool (decide ((w64 ((w64 (w8 ((c716.toNat : Int) - 65))) + 10)) ≥ 2))) ?_; intro a980 hF981; clear hF979
         refine nlH (hQ975 _ _ ?_); clear hQ975 hQ975Q
         refine cd hF981 (t := decide ((w64 ((w64 (w8 ((c716.toNat : Int) - 65))) + 10)) ≥ 2)) (by kernel_rfl) (fun hb982 => ?_) (fun hb982 => ?_)
         ·
          have hp983 := hp962.1 hb982; clear hp962
          refine sqH ?_; intro hQ984Q hQ984
          refine s1 hF981 6 (.pointer none) ?_; intro a985 hF986; clear hF981
          refine s1 hF986 7 (.bool false) ?_; intro a987 hF988; clear hF986
          refine nlH (hQ984 _ _ ?_); clear hQ984 hQ984Q
          refine wp_ret ?_
          refine thr ?_
          refine ibr ?_
          refine thr ?_
          refine thr ?_
          refine ibr ?_
          refine thr ?_
          refine rt (fn := Tryd.f90) (v := .tuple #[.pointer none, .bool false]) hF988 (re2 hF988 (fn := Tryd.f90) rfl (by kernel_rfl) (by kernel_rfl)) ?_
          exact ⟨(false, false, u0), ao2, cap3, ZL656, rfl, hp983, hle0, hs669, hM667.keep (List.Sublist.cons_cons _ (List.Sublist.refl _))⟩
         ·
          have hp989 := hp962.2 hb982; clear hp962
          refine wp_skip ?_
          refine thn ?_
          refine rgH ?_; intro hQ990Q hQ990
          refine s1 hF981 111 (.slice aox9 x9.length capx9) ?_; intro a991 hF992; clear hF981
          refine s1 hF992 112 (.int .i64 2) ?_; intro a993 hF994; clear hF992
          refine s1 hF994 113 (.int .u64 2) ?_; intro a995 hF996; clear hF994
          have hc997 := hp989.1; have hp998 := hp989.2; clear hp989
          refine cl hF996 123 #[.int .u64 2] (nog rfl _) rfl (by kernel_rfl) (by kernel_rfl) ?_
          refine (gwords_fun 2 hc997 _ _ hM667.fz).mono ?_; rintro _ wd999 ⟨ao1003, cap1004, Z1006, rfl, hs1005, hm⟩; refine ⟨_, rfl, ?_⟩; intro a1000 hF1001; have hM1002 := hM667.callZ hm; have hle1007 := hm.ext.le; clear hm hM667 hF996
          replace hs669 := hs669.mono hle1007
          replace hsx9 := hsx9.mono hle1007
          replace hleL656 := hleL656.mono hle1007
          replace hle705 := hle705.mono hle1007
          replace hle0 := Fz.le.trans hle0 hle1007
          have hM1008 : Mem B [] w0 Z0 ((.row b1 [.bool u0.neg, .slice ao2 u0.abs.length cap3] 93) :: Rr) Z1006 wd999 := hM1002; clear hM1002
          have hp1009 := hp998 (hs1005.small); clear hp998
          have hc1010 := hp1009.1; have hp1011 := hp1009.2; clear hp1009
          refine cl hF1001 122 #[.slice aox9 x9.length capx9, .slice ao1003 (gwordsS 2).length cap1004] (nog rfl _) rfl (by kernel_rfl) (by kernel_rfl) ?_
          refine (gmul_fun x9 (gwordsS 2) hc1010 aox9 capx9 ao1003 cap1004 _ _ hsx9 hs1005 hM1008.fz).mono ?_; rintro _ wd1012 ⟨ao1016, cap1017, Z1019, rfl, hs1018, hm⟩; refine ⟨_, rfl, ?_⟩; intro a1013 hF1014; have hM1015 := hM1008.callZ hm; have hle1020 := hm.ext.le; clear hm hM1008 hF1001
          replace hs669 := hs669.mono hle1020
          replace hsx9 := hsx9.mono hle1020
          replace hleL656 := hleL656.mono hle1020
          replace hle705 := hle705.mono hle1020
          replace hs1005 := hs1005.mono hle1020
          replace hle0 := Fz.le.trans hle0 hle1020
          have hM1021 : Mem B [] w0 Z0 ((.row b1 [.bool u0.neg, .slice ao2 u0.abs.length cap3] 93) :: Rr) Z1019 wd1012 := hM1015; clear hM1015
          have hp1022 := hp1011 (hs1018.small); clear hp1011
          refine s1 hF1014 116 (.int .i64 (w64 ((w64 (w8 ((c716.toNat : Int) - 65))) + 10))) ?_; intro a1023 hF1024; clear hF1014
          refine s1 hF1024 117 (.int .u64 (wu64 (w64 ((w64 (w8 ((c716.toNat : Int) - 65))) + 10)))) ?_; intro a1025 hF1026; clear hF1024
          have hc1027 := hp1022.1; have hp1028 := hp1022.2; clear hp1022
          refine cl hF1026 123 #[.int .u64 (wu64 (w64 ((w64 (w8 ((c716.toNat : Int) - 65))) + 10)))] (nog rfl _) rfl (by kernel_rfl) (by kernel_rfl) ?_
          refine (gwords_fun (wu64 (w64 ((w64 (w8 ((c716.toNat : Int) - 65))) + 10))) hc1027 _ _ hM1021.fz).mono ?_; rintro _ wd1029 ⟨ao1033, cap1034, Z1036, rfl, hs1035, hm⟩; refine ⟨_, rfl, ?_⟩; intro a1030 hF1031; have hM1032 := hM1021.callZ hm; have hle1037 := hm.ext.le; clear hm hM1021 hF1026
          replace hs669 := hs669.mono hle1037
          replace hsx9 := hsx9.mono hle1037
          replace hleL656 := hleL656.mono hle1037
          replace hle705 := hle705.mono hle1037
          replace hs1005 := hs1005.mono hle1037
          replace hs1018 := hs1018.mono hle1037
          replace hle0 := Fz.le.trans hle0 hle1037
          have hM1038 : Mem B [] w0 Z0 ((.row b1 [.bool u0.neg, .slice ao2 u0.abs.length cap3] 93) :: Rr) Z1036 wd1029 := hM1032; clear hM1032
          have hp1039 := hp1028 (hs1035.small); clear hp1028
          have hc1040 := hp1039.1; have hp1041 := hp1039.2; clear hp1039
          refine cl hF1031 121 #[.slice ao1016 (gmulS x9 (gwordsS 2)).length cap1017, .slice ao1033 (gwordsS (wu64 (w64 ((w64 (w8 ((c716.toNat : Int) - 65))) + 10)))).length cap1034] (nog rfl _) rfl (by kernel_rfl) (by kernel_rfl) ?_
          refine (gadd_fun (gmulS x9 (gwordsS 2)) (gwordsS (wu64 (w64 ((w64 (w8 ((c716.toNat : Int) - 65))) + 10)))) hc1040 ao1016 cap1017 ao1033 cap1034 _ _ hs1018 hs1035 hM1038.fz).mono ?_; rintro _ wd1042 ⟨ao1046, cap1047, Z1049, rfl, hs1048, hm⟩; refine ⟨_, rfl, ?_⟩; intro a1043 hF1044; have hM1045 := hM1038.callZ hm; have hle1050 := hm.ext.le; clear hm hM1038 hF1031
          replace hs669 := hs669.mono hle1050
          replace hsx9 := hsx9.mono hle1050
          replace hleL656 := hleL656.mono hle1050
          replace hle705 := hle705.mono hle1050
          replace hs1005 := hs1005.mono hle1050
          replace hs1018 := hs1018.mono hle1050
          replace hs1035 := hs1035.mono hle1050
          replace hle0 := Fz.le.trans hle0 hle1050
          have hM1051 : Mem B [] w0 Z0 ((.row b1 [.bool u0.neg, .slice ao2 u0.abs.length cap3] 93) :: Rr) Z1049 wd1042 := hM1045; clear hM1045
          have hp1052 := hp1041 (hs1048.small); clear hp1041
          refine s1 hF1044 9 (.slice ao1046 (gaddS (gmulS x9 (gwordsS 2)) (gwordsS (wu64 (w64 ((w64 (w8 ((c716.toNat : Int) - 65))) + 10))))).length cap1047) ?_; intro a1053 hF1054; clear hF1044
          refine nlH (hQ990 _ _ ?_); clear hQ990 hQ990Q
          refine ibn ?_
          refine rd ?_
          exact hJ688 (gaddS (gmulS x9 (gwordsS 2)) (gwordsS (wu64 (w64 ((w64 (w8 ((c716.toNat : Int) - 65))) + 10))))) ao1046 cap1047 Z1049 ⟨hp1052, hs1048, hle705⟩ _ _ ((hF1054.reg).anyβ _ (by kernel_rfl)) (hM1051.keep (List.Sublist.cons_cons _ (List.Sublist.refl _)))
        ·
         have hp1055 := hp943.2 hb961; clear hp943
         refine wp_skip ?_
         refine ibn ?_
         refine thn ?_
         refine wp_seq ?_
         have hF1056 : Fr 124 [] [⟨0, [], .pointer (some ⟨b1, 0, none⟩)⟩, ⟨1, [], str (u1.drop (1 : Int).toNat)⟩, ⟨2, [], .int .i64 2⟩, ⟨8, [], .bool ((c591.toNat : Int) == 45)⟩, ⟨9, [], .slice aox9 x9.length capx9⟩, ⟨10, [], .int .i64 x10⟩, ⟨11, [], .int .i64 99⟩] a959 := hF960.reg; clear hF960
         refine sqH ?_; intro hQ1057Q hQ1057
         refine s1 hF1056 108 (.int .i64 99) ?_; intro a1058 hF1059; clear hF1056
         refine s1 hF1059 109 (.int .i64 2) ?_; intro a1060 hF1061; clear hF1059
         refine s1 hF1061 110 (.bool true) ?_; intro a1062 hF1063; clear hF1061
         refine nlH (hQ1057 _ _ ?_); clear hQ1057 hQ1057Q
         refine cdT hF1063 (by kernel_rfl) ?_
         refine sqH ?_; intro hQ1064Q hQ1064
         refine s1 hF1063 6 (.pointer none) ?_; intro a1065 hF1066; clear hF1063
         refine s1 hF1066 7 (.bool false) ?_; intro a1067 hF1068; clear hF1066
         refine nlH (hQ1064 _ _ ?_); clear hQ1064 hQ1064Q
         refine wp_ret ?_
         refine thr ?_
         refine ibr ?_
         refine thr ?_
         refine thr ?_
         refine ibr ?_
         refine thr ?_
         refine rt (fn := Tryd.f90) (v := .tuple #[.pointer none, .bool false]) hF1068 (re2 hF1068 (fn := Tryd.f90) rfl (by kernel_rfl) (by kernel_rfl)) ?_
         exact ⟨(false, false, u0), ao2, cap3, ZL656, rfl, hp1055, hle0, hs669, hM667.keep (List.Sublist.cons_cons _ (List.Sublist.refl _))⟩
     ·
      have hp1069 := hp668.2 hb679; clear hp668
      refine wp_exit ?_
      refine thx ?_
      refine thx ?_
      refine ibx ?_
      refine thn ?_
      refine sqH ?_; intro hQ1070Q hQ1070
      refine s1 hF678 120 (.pointer (some ⟨b1, 0, none⟩)) ?_; intro a1071 hF1072; clear hF678
      refine s1 hF1072 121 (.bool ((c591.toNat : Int) == 45)) ?_; intro a1073 hF1074; clear hF1072
      refine s1 hF1074 122 (.slice aox9 x9.length capx9) ?_; intro a1075 hF1076; clear hF1074
      refine cl hF1076 91 #[.pointer (some ⟨b1, 0, none⟩), .bool ((c591.toNat : Int) == 45), .slice aox9 x9.length capx9] (nog rfl _) rfl (by kernel_rfl) (by kernel_rfl) ?_
      obtain ⟨r1081, hr1082⟩ : ∃ x, (ggive u0 ((c591.toNat : Int) == 45) x9) = x := ⟨_, rfl⟩; have hp1083 := hp1069 r1081 hr1082; clear hp1069
      have h9 := ggive_fun u0 ((c591.toNat : Int) == 45) x9 b1 ao2 cap3 aox9 capx9 _ _ _ _ _ _ hs669 hsx9 hM667 hM667.fz; rw [hr1082] at h9; refine h9.mono ?_; clear h9; rintro _ wd1077 ⟨ao1085, cap1086, Z1088, rfl, hle1089, hs1087, hm⟩; refine ⟨_, rfl, ?_⟩; intro a1078 hF1079; have hM1080 := hm; clear hm hM667 hF1076
      replace hs669 := hs669.mono hle1089
      replace hsx9 := hsx9.mono hle1089
      replace hleL656 := hleL656.mono hle1089
      replace hle0 := Fz.le.trans hle0 hle1089
      have hM1090 : Mem B [] w0 Z0 ((.row b1 [.bool r1081.neg, .slice ao1085 r1081.abs.length cap1086] 93) :: Rr) Z1088 wd1077 := hM1080; clear hM1080
      have hp1091 := hp1083 (hs1087.small); clear hp1083
      refine s1 hF1079 6 (.pointer (some ⟨b1, 0, none⟩)) ?_; intro a1092 hF1093; clear hF1079
      refine s1 hF1093 7 (.bool true) ?_; intro a1094 hF1095; clear hF1093
      refine nlH (hQ1070 _ _ ?_); clear hQ1070 hQ1070Q
      refine wp_ret ?_
      refine rt (fn := Tryd.f90) (v := .tuple #[.pointer (some ⟨b1, 0, none⟩), .bool true]) hF1095 (re2 hF1095 (fn := Tryd.f90) rfl (by kernel_rfl) (by kernel_rfl)) ?_
      exact ⟨(true, true, r1081), ao1085, cap1086, Z1088, rfl, hp1091, hle0, hs1087, hM1090.keep (List.Sublist.cons_cons _ (List.Sublist.refl _))⟩
   ·
    have hp1096 := hp574.2 hb583; clear hp574
    refine wp_skip ?_
    refine thn ?_
    refine wp_seq ?_
    have hF1097 : Fr 124 [] [⟨0, [], .pointer (some ⟨b1, 0, none⟩)⟩, ⟨1, [], str u1⟩, ⟨2, [], .int .i64 2⟩, ⟨8, [], .bool false⟩] a581 := hF582.reg; clear hF582
    refine sqH ?_; intro hQ1098Q hQ1098
    refine s1 hF1097 31 (.int .i64 2) ?_; intro a1099 hF1100; clear hF1097
    refine s1 hF1100 32 (.bool false) ?_; intro a1101 hF1102; clear hF1100
    refine nlH (hQ1098 _ _ ?_); clear hQ1098 hQ1098Q
    refine cdF hF1102 (by kernel_rfl) ?_
    refine wp_skip ?_
    refine thn ?_
    refine wp_seq ?_
    refine sqH ?_; intro hQ1103Q hQ1103
    refine s1 hF1102 56 (str u1) ?_; intro a1104 hF1105; clear hF1102
    refine s1 hF1105 57 (.int .i64 (u1.length : Int)) ?_; intro a1106 hF1107; clear hF1105
    refine s1 hF1107 58 (.bool ((u1.length : Int) == 0)) ?_; intro a1108 hF1109; clear hF1107
    refine s1 hF1109 59 (.bool ((u1.length : Int) == 0)) ?_; intro a1110 hF1111; clear hF1109
    have hF1112 := hF1111.atom (((u1.length : Int) == 0) == false) (by kernel_rfl); clear hF1111
    refine gp hF1112 60 0 [] ((u1.length : Int) == 0) (.int .i64 2) rfl rfl ?_; intro a1113 hF1114; clear hF1112
    refine gp hF1114 61 0 [] ((u1.length : Int) == 0) (.bool false) rfl rfl ?_; intro a1115 hF1116; clear hF1114
    refine st hF1116 (.bool (((u1.length : Int) == 0) || false)) (nog rfl _) rfl (by kernel_rfl) (pk_or hF1116 (g := []) (m := 0) (b := (u1.length : Int) == 0) (v := false) rfl (by kernel_rfl) (by kernel_rfl) (by kernel_rfl) rfl) ?_; intro a1117 hF1118; clear hF1116
    refine s1 hF1118 63 (.bool (((u1.length : Int) == 0) || false)) ?_; intro a1119 hF1120; clear hF1118
    have hF1121 := hF1120.atom ((((u1.length : Int) == 0) || false) == false) (by kernel_rfl); clear hF1120
    refine gp hF1121 64 1 [] (((u1.length : Int) == 0) || false) (.int .i64 2) rfl rfl ?_; intro a1122 hF1123; clear hF1121
    refine gp hF1123 65 1 [] (((u1.length : Int) == 0) || false) (.bool false) rfl rfl ?_; intro a1124 hF1125; clear hF1123
    refine st hF1125 (.bool ((((u1.length : Int) == 0) || false) || false)) (nog rfl _) rfl (by kernel_rfl) (pk_or hF1125 (g := []) (m := 1) (b := ((u1.length : Int) == 0) || false) (v := false) rfl (by kernel_rfl) (by kernel_rfl) (by kernel_rfl) rfl) ?_; intro a1126 hF1127; clear hF1125
    refine nlH (hQ1103 _ _ ?_); clear hQ1103 hQ1103Q
    refine cd hF1127 (t := (((u1.length : Int) == 0) || false) || false) (by kernel_rfl) (fun hb1128 => ?_) (fun hb1128 => ?_)
    ·
     have hp1129 := hp1096.1 hb1128; clear hp1096
     have hF1130 : Fr 124 [] [] a1126 := hF1127.reg; clear hF1127
     refine sqH ?_; intro hQ1131Q hQ1131
     refine s1 hF1130 6 (.pointer none) ?_; intro a1132 hF1133; clear hF1130
     refine s1 hF1133 7 (.bool false) ?_; intro a1134 hF1135; clear hF1133
     refine nlH (hQ1131 _ _ ?_); clear hQ1131 hQ1131Q
     refine wp_ret ?_
     refine thr ?_
     refine rt (fn := Tryd.f90) (v := .tuple #[.pointer none, .bool false]) hF1135 (re2 hF1135 (fn := Tryd.f90) rfl (by kernel_rfl) (by kernel_rfl)) ?_
     exact ⟨(false, false, u0), ao2, cap3, Z, rfl, hp1129, hle0, hs4, hM0.keep (List.Sublist.cons_cons _ (List.Sublist.refl _))⟩
    ·
     have hp1136 := hp1096.2 hb1128; clear hp1096
     refine wp_skip ?_
     refine thn ?_
     have hF1137 : Fr 124 [] [⟨0, [], .pointer (some ⟨b1, 0, none⟩)⟩, ⟨1, [], str u1⟩, ⟨2, [], .int .i64 2⟩, ⟨8, [], .bool false⟩] a1126 := hF1127.reg; clear hF1127
     refine sqH ?_; intro hQ1138Q hQ1138
     refine s1 hF1137 9 (.slice none 0 0) ?_; intro a1139 hF1140; clear hF1137
     refine nlH (hQ1138 _ _ ?_); clear hQ1138 hQ1138Q
     refine wp_seq ?_
     refine sqH ?_; intro hQ1141Q hQ1141
     refine s1 hF1140 10 (.int .i64 0) ?_; intro a1142 hF1143; clear hF1140
     refine nlH (hQ1141 _ _ ?_); clear hQ1141 hQ1141Q
     refine wp_block ?_
     have hF1144 : Fr 124 [] [⟨0, [], .pointer (some ⟨b1, 0, none⟩)⟩, ⟨1, [], str u1⟩, ⟨2, [], .int .i64 2⟩, ⟨8, [], .bool false⟩, ⟨9, [], .slice none 0 0⟩, ⟨10, [], .int .i64 0⟩] a1142 := hF1143.reg; clear hF1143
     have hF1146 : Fr 124 [] [⟨0, [], .pointer (some ⟨b1, 0, none⟩)⟩, ⟨1, [], str u1⟩, ⟨2, [], .int .i64 2⟩, ⟨8, [], .bool false⟩, ⟨9, [], .slice none 0 0⟩, ⟨10, [], .int .i64 0⟩] a1142 := hF1144.reg; clear hF1144
     obtain ⟨inv1145, mu1145, hI1149, hr1148⟩ := hp1136
     have hle1150 := hle0
     refine lp (ι := (List Int) × Int × (Option Addr) × Nat × Fz) (fun (s : (List Int) × Int × (Option Addr) × Nat × Fz) => [⟨0, [], .pointer (some ⟨b1, 0, none⟩)⟩, ⟨1, [], str u1⟩, ⟨2, [], .int .i64 2⟩, ⟨8, [], .bool false⟩, ⟨9, [], .slice s.2.2.1 s.1.length s.2.2.2.1⟩, ⟨10, [], .int .i64 s.2.1⟩]) (fun (s : (List Int) × Int × (Option Addr) × Nat × Fz) => ((.row b1 [.bool u0.neg, .slice ao2 u0.abs.length cap3] 93) :: Rr)) (fun (s : (List Int) × Int × (Option Addr) × Nat × Fz) => s.2.2.2.2) (fun (s : (List Int) × Int × (Option Addr) × Nat × Fz) => inv1145 s.1 s.2.1 ∧ SlR (tyInt .u32) s.2.2.2.2 s.2.2.1 s.2.2.2.1 s.1 ∧ Fz.le Z s.2.2.2.2) (fun (s : (List Int) × Int × (Option Addr) × Nat × Fz) => mu1145 s.1 s.2.1) ⟨([] : List Int), 0, none, 0, Z⟩ ⟨hI1149, (SlR.nil _ _), Fz.le.refl _⟩ (by exact hF1146.reg) (by exact hM0) ?_
     rintro ⟨x9, x10, aox9, capx9, ZL1145⟩ ⟨hI1147, hsx9, hleL1145⟩ a1151 wd1152 hF1153 hM1154
     have hF1155 : Fr 124 [] [⟨0, [], .pointer (some ⟨b1, 0, none⟩)⟩, ⟨1, [], str u1⟩, ⟨2, [], .int .i64 2⟩, ⟨8, [], .bool false⟩, ⟨9, [], .slice aox9 x9.length capx9⟩, ⟨10, [], .int .i64 x10⟩] a1151 := hF1153; clear hF1153 hF1146
     have hM1156 : Mem B [] w0 Z0 ((.row b1 [.bool u0.neg, .slice ao2 u0.abs.length cap3] 93) :: Rr) ZL1145 wd1152 := hM1154; clear hM1154 hM0
     have hp1157 := hr1148 x9 x10 hI1147
     replace hle0 := Fz.le.trans hle0 hleL1145
     have hs1158 := hs4.mono hleL1145
     refine wp_seq ?_
     refine sqH ?_; intro hQ1159Q hQ1159
     refine s1 hF1155 67 (.int .i64 x10) ?_; intro a1160 hF1161; clear hF1155
     refine s1 hF1161 68 (str u1) ?_; intro a1162 hF1163; clear hF1161
     refine s1 hF1163 69 (.int .i64 (u1.length : Int)) ?_; intro a1164 hF1165; clear hF1163
     refine s1 hF1165 70 (.bool (decide (x10 < (u1.length : Int)))) ?_; intro a1166 hF1167; clear hF1165
     refine nlH (hQ1159 _ _ ?_); clear hQ1159 hQ1159Q
     refine cd hF1167 (t := decide (x10 < (u1.length : Int))) (by kernel_rfl) (fun hb1168 => ?_) (fun hb1168 => ?_)
     ·
      have hp1169 := hp1157.1 hb1168; clear hp1157
      refine wp_skip ?_
      refine thn ?_
      have hF1170 : Fr 124 [] [⟨0, [], .pointer (some ⟨b1, 0, none⟩)⟩, ⟨1, [], str u1⟩, ⟨2, [], .int .i64 2⟩, ⟨8, [], .bool false⟩, ⟨9, [], .slice aox9 x9.length capx9⟩, ⟨10, [], .int .i64 x10⟩] a1166 := hF1167.reg; clear hF1167
      have hF1172 : Fr 124 [] [⟨0, [], .pointer (some ⟨b1, 0, none⟩)⟩, ⟨1, [], str u1⟩, ⟨2, [], .int .i64 2⟩, ⟨8, [], .bool false⟩, ⟨9, [], .slice aox9 x9.length capx9⟩, ⟨10, [], .int .i64 x10⟩] a1166 := hF1170.reg; clear hF1170
      obtain ⟨inv1171, hp1173, hp1174⟩ := hp1169
      refine wp_seq_k fun KJ1175 hKJ1176 => ?_
      have hJ1177 : ∀ (x9v : List Int) (aox9v : Option Addr) (capx9v : Nat) (ZJ1171 : Fz), inv1171 x9v ∧ SlR (tyInt .u32) ZJ1171 aox9v capx9v x9v ∧ Fz.le ZL1145 ZJ1171 → ∀ a1 w1, Fr 124 [] [⟨0, [], .pointer (some ⟨b1, 0, none⟩)⟩, ⟨1, [], str u1⟩, ⟨2, [], .int .i64 2⟩, ⟨8, [], .bool false⟩, ⟨9, [], .slice aox9v x9v.length capx9v⟩, ⟨10, [], .int .i64 x10⟩] a1 → Mem B [] w0 Z0 ((.row b1 [.bool u0.neg, .slice ao2 u0.abs.length cap3] 93) :: Rr) ZJ1171 w1 → KJ1175 a1 w1 := by
       rintro x9v aox9v capx9v ZJ1171 ⟨hI1182, hsx9v, hleJ1171⟩ a1178 wd1179 hF1180 hM1181; clear hF1172 hM1156
       refine hKJ1176 _ _ ?_; clear hKJ1176
       have hp1183 := hp1174 x9v hI1182
       replace hle0 := Fz.le.trans hle0 hleJ1171
       have hs1184 := hs1158.mono hleJ1171
       have hs1185 := hsx9.mono hleJ1171
       have hs1186 := hleL1145.mono hleJ1171
       refine rgH ?_; intro hQ1187Q hQ1187
       refine s1 hF1180 71 (.int .i64 x10) ?_; intro a1188 hF1189; clear hF1180
       refine s1 hF1189 72 (.int .i64 (w64 (x10 + 1))) ?_; intro a1190 hF1191; clear hF1189
       refine s1 hF1191 10 (.int .i64 (w64 (x10 + 1))) ?_; intro a1192 hF1193; clear hF1191
       refine nlH (hQ1187 _ _ ?_); clear hQ1187 hQ1187Q
       refine rd ?_
       exact ⟨⟨x9v, w64 (x10 + 1), aox9v, capx9v, ZJ1171⟩, ⟨hp1183.1, hsx9v, hs1186⟩, hp1183.2, (hF1193.reg).anyβ _ (by kernel_rfl), hM1181.keep (List.Sublist.cons_cons _ (List.Sublist.refl _))⟩
      have hle1194 := Fz.le.refl ZL1145
      refine wp_block ?_
      refine sqH ?_; intro hQ1195Q hQ1195
      refine s1 hF1172 11 (.int .i64 99) ?_; intro a1196 hF1197; clear hF1172
      refine nlH (hQ1195 _ _ ?_); clear hQ1195 hQ1195Q
      refine wp_seq ?_
      refine sqH ?_; intro hQ1198Q hQ1198
      refine s1 hF1197 73 (str u1) ?_; intro a1199 hF1200; clear hF1197
      refine s1 hF1200 74 (.int .i64 x10) ?_; intro a1201 hF1202; clear hF1200
      have hc1203 := hp1173.1; have hp1204 := hp1173.2; clear hp1173
      obtain ⟨c1205, hq1206⟩ : ∃ q, u1[x10.toNat]? = some q := ⟨_, List.getElem?_eq_getElem (by omega)⟩; have hp1207 := hp1204 c1205 hq1206
      refine st hF1202 (.int .u8 (c1205.toNat : Int)) (nog rfl _) rfl (by kernel_rfl) (stridx_run hF1202 (k := .i64) rfl (by kernel_rfl) (by kernel_rfl) (by kernel_rfl) hc1203.1 hq1206) ?_; intro a1208 hF1209; clear hF1202
      refine s1 hF1209 12 (.int .u8 (c1205.toNat : Int)) ?_; intro a1210 hF1211; clear hF1209
      refine nlH (hQ1198 _ _ ?_); clear hQ1198 hQ1198Q
      refine wp_block ?_
      refine sqH ?_; intro hQ1212Q hQ1212
      refine s1 hF1211 77 (.int .u8 (c1205.toNat : Int)) ?_; intro a1213 hF1214; clear hF1211
      refine s1 hF1214 78 (.bool (decide ((c1205.toNat : Int) ≥ 48))) ?_; intro a1215 hF1216; clear hF1214
      refine s1 hF1216 79 (.bool (decide ((c1205.toNat : Int) ≥ 48))) ?_; intro a1217 hF1218; clear hF1216
      have hF1219 := hF1218.atom ((decide ((c1205.toNat : Int) ≥ 48)) == true) (by kernel_rfl); clear hF1218
      refine gp hF1219 80 0 [] (decide ((c1205.toNat : Int) ≥ 48)) (.int .u8 (c1205.toNat : Int)) rfl rfl ?_; intro a1220 hF1221; clear hF1219
      refine gp hF1221 81 0 [] (decide ((c1205.toNat : Int) ≥ 48)) (.bool (decide ((c1205.toNat : Int) ≤ 57))) rfl rfl ?_; intro a1222 hF1223; clear hF1221
      refine st hF1223 (.bool ((decide ((c1205.toNat : Int) ≥ 48)) && (decide ((c1205.toNat : Int) ≤ 57)))) (nog rfl _) rfl (by kernel_rfl) (pk_and hF1223 (g := []) (m := 0) (b := decide ((c1205.toNat : Int) ≥ 48)) (v := decide ((c1205.toNat : Int) ≤ 57)) rfl (by kernel_rfl) (by kernel_rfl) (by kernel_rfl) rfl) ?_; intro a1224 hF1225; clear hF1223
      refine s1 hF1225 76 (.bool ((decide ((c1205.toNat : Int) ≥ 48)) && (decide ((c1205.toNat : Int) ≤ 57)))) ?_; intro a1226 hF1227; clear hF1225
      refine nlH (hQ1212 _ _ ?_); clear hQ1212 hQ1212Q
      refine cd hF1227 (t := (decide ((c1205.toNat : Int) ≥ 48)) && (decide ((c1205.toNat : Int) ≤ 57))) (by kernel_rfl) (fun hb1228 => ?_) (fun hb1228 => ?_)
      ·
       have hp1229 := hp1207.1 hb1228; clear hp1207
       have hF1230 : Fr 124 [] [⟨0, [], .pointer (some ⟨b1, 0, none⟩)⟩, ⟨1, [], str u1⟩, ⟨2, [], .int .i64 2⟩, ⟨8, [], .bool false⟩, ⟨9, [], .slice aox9 x9.length capx9⟩, ⟨10, [], .int .i64 x10⟩, ⟨12, [], .int .u8 (c1205.toNat : Int)⟩] a1226 := hF1227.reg; clear hF1227
       refine rgH ?_; intro hQ1231Q hQ1231
       refine s1 hF1230 83 (.int .u8 (c1205.toNat : Int)) ?_; intro a1232 hF1233; clear hF1230
       refine s1 hF1233 84 (.int .u8 (w8 ((c1205.toNat : Int) - 48))) ?_; intro a1234 hF1235; clear hF1233
       refine s1 hF1235 85 (.int .i64 (w64 (w8 ((c1205.toNat : Int) - 48)))) ?_; intro a1236 hF1237; clear hF1235
       refine s1 hF1237 11 (.int .i64 (w64 (w8 ((c1205.toNat : Int) - 48)))) ?_; intro a1238 hF1239; clear hF1237
       refine nlH (hQ1231 _ _ ?_); clear hQ1231 hQ1231Q
       refine ibn ?_
       refine thn ?_
       refine wp_seq ?_
       refine sqH ?_; intro hQ1240Q hQ1240
       refine s1 hF1239 108 (.int .i64 (w64 (w8 ((c1205.toNat : Int) - 48)))) ?_; intro a1241 hF1242; clear hF1239
       refine s1 hF1242 109 (.int .i64 2) ?_; intro a1243 hF1244; clear hF1242
       refine s1 hF1244 110 (.bool (decide ((w64 (w8 ((c1205.toNat : Int) - 48))) ≥ 2))) ?_; intro a1245 hF1246; clear hF1244
       refine nlH (hQ1240 _ _ ?_); clear hQ1240 hQ1240Q
       refine cd hF1246 (t := decide ((w64 (w8 ((c1205.toNat : Int) - 48))) ≥ 2)) (by kernel_rfl) (fun hb1247 => ?_) (fun hb1247 => ?_)
       ·
        have hp1248 := hp1229.1 hb1247; clear hp1229
        refine sqH ?_; intro hQ1249Q hQ1249
        refine s1 hF1246 6 (.pointer none) ?_; intro a1250 hF1251; clear hF1246
        refine s1 hF1251 7 (.bool false) ?_; intro a1252 hF1253; clear hF1251
        refine nlH (hQ1249 _ _ ?_); clear hQ1249 hQ1249Q
        refine wp_ret ?_
        refine thr ?_
        refine ibr ?_
        refine thr ?_
        refine thr ?_
        refine ibr ?_
        refine thr ?_
        refine rt (fn := Tryd.f90) (v := .tuple #[.pointer none, .bool false]) hF1253 (re2 hF1253 (fn := Tryd.f90) rfl (by kernel_rfl) (by kernel_rfl)) ?_
        exact ⟨(false, false, u0), ao2, cap3, ZL1145, rfl, hp1248, hle0, hs1158, hM1156.keep (List.Sublist.cons_cons _ (List.Sublist.refl _))⟩
       ·
        have hp1254 := hp1229.2 hb1247; clear hp1229
        refine wp_skip ?_
        refine thn ?_
        refine rgH ?_; intro hQ1255Q hQ1255
        refine s1 hF1246 111 (.slice aox9 x9.length capx9) ?_; intro a1256 hF1257; clear hF1246
        refine s1 hF1257 112 (.int .i64 2) ?_; intro a1258 hF1259; clear hF1257
        refine s1 hF1259 113 (.int .u64 2) ?_; intro a1260 hF1261; clear hF1259
        have hc1262 := hp1254.1; have hp1263 := hp1254.2; clear hp1254
        refine cl hF1261 123 #[.int .u64 2] (nog rfl _) rfl (by kernel_rfl) (by kernel_rfl) ?_
        refine (gwords_fun 2 hc1262 _ _ hM1156.fz).mono ?_; rintro _ wd1264 ⟨ao1268, cap1269, Z1271, rfl, hs1270, hm⟩; refine ⟨_, rfl, ?_⟩; intro a1265 hF1266; have hM1267 := hM1156.callZ hm; have hle1272 := hm.ext.le; clear hm hM1156 hF1261
        replace hs1158 := hs1158.mono hle1272
        replace hsx9 := hsx9.mono hle1272
        replace hleL1145 := hleL1145.mono hle1272
        replace hle1194 := hle1194.mono hle1272
        replace hle0 := Fz.le.trans hle0 hle1272
        have hM1273 : Mem B [] w0 Z0 ((.row b1 [.bool u0.neg, .slice ao2 u0.abs.length cap3] 93) :: Rr) Z1271 wd1264 := hM1267; clear hM1267
        have hp1274 := hp1263 (hs1270.small); clear hp1263
        have hc1275 := hp1274.1; have hp1276 := hp1274.2; clear hp1274
        refine cl hF1266 122 #[.slice aox9 x9.length capx9, .slice ao1268 (gwordsS 2).length cap1269] (nog rfl _) rfl (by kernel_rfl) (by kernel_rfl) ?_
        refine (gmul_fun x9 (gwordsS 2) hc1275 aox9 capx9 ao1268 cap1269 _ _ hsx9 hs1270 hM1273.fz).mono ?_; rintro _ wd1277 ⟨ao1281, cap1282, Z1284, rfl, hs1283, hm⟩; refine ⟨_, rfl, ?_⟩; intro a1278 hF1279; have hM1280 := hM1273.callZ hm; have hle1285 := hm.ext.le; clear hm hM1273 hF1266
        replace hs1158 := hs1158.mono hle1285
        replace hsx9 := hsx9.mono hle1285
        replace hleL1145 := hleL1145.mono hle1285
        replace hle1194 := hle1194.mono hle1285
        replace hs1270 := hs1270.mono hle1285
        replace hle0 := Fz.le.trans hle0 hle1285
        have hM1286 : Mem B [] w0 Z0 ((.row b1 [.bool u0.neg, .slice ao2 u0.abs.length cap3] 93) :: Rr) Z1284 wd1277 := hM1280; clear hM1280
        have hp1287 := hp1276 (hs1283.small); clear hp1276
        refine s1 hF1279 116 (.int .i64 (w64 (w8 ((c1205.toNat : Int) - 48)))) ?_; intro a1288 hF1289; clear hF1279
        refine s1 hF1289 117 (.int .u64 (wu64 (w64 (w8 ((c1205.toNat : Int) - 48))))) ?_; intro a1290 hF1291; clear hF1289
        have hc1292 := hp1287.1; have hp1293 := hp1287.2; clear hp1287
        refine cl hF1291 123 #[.int .u64 (wu64 (w64 (w8 ((c1205.toNat : Int) - 48))))] (nog rfl _) rfl (by kernel_rfl) (by kernel_rfl) ?_
        refine (gwords_fun (wu64 (w64 (w8 ((c1205.toNat : Int) - 48)))) hc1292 _ _ hM1286.fz).mono ?_; rintro _ wd1294 ⟨ao1298, cap1299, Z1301, rfl, hs1300, hm⟩; refine ⟨_, rfl, ?_⟩; intro a1295 hF1296; have hM1297 := hM1286.callZ hm; have hle1302 := hm.ext.le; clear hm hM1286 hF1291
        replace hs1158 := hs1158.mono hle1302
        replace hsx9 := hsx9.mono hle1302
        replace hleL1145 := hleL1145.mono hle1302
        replace hle1194 := hle1194.mono hle1302
        replace hs1270 := hs1270.mono hle1302
        replace hs1283 := hs1283.mono hle1302
        replace hle0 := Fz.le.trans hle0 hle1302
        have hM1303 : Mem B [] w0 Z0 ((.row b1 [.bool u0.neg, .slice ao2 u0.abs.length cap3] 93) :: Rr) Z1301 wd1294 := hM1297; clear hM1297
        have hp1304 := hp1293 (hs1300.small); clear hp1293
        have hc1305 := hp1304.1; have hp1306 := hp1304.2; clear hp1304
        refine cl hF1296 121 #[.slice ao1281 (gmulS x9 (gwordsS 2)).length cap1282, .slice ao1298 (gwordsS (wu64 (w64 (w8 ((c1205.toNat : Int) - 48))))).length cap1299] (nog rfl _) rfl (by kernel_rfl) (by kernel_rfl) ?_
        refine (gadd_fun (gmulS x9 (gwordsS 2)) (gwordsS (wu64 (w64 (w8 ((c1205.toNat : Int) - 48))))) hc1305 ao1281 cap1282 ao1298 cap1299 _ _ hs1283 hs1300 hM1303.fz).mono ?_; rintro _ wd1307 ⟨ao1311, cap1312, Z1314, rfl, hs1313, hm⟩; refine ⟨_, rfl, ?_⟩; intro a1308 hF1309; have hM1310 := hM1303.callZ hm; have hle1315 := hm.ext.le; clear hm hM1303 hF1296
        replace hs1158 := hs1158.mono hle1315
        replace hsx9 := hsx9.mono hle1315
        replace hleL1145 := hleL1145.mono hle1315
        replace hle1194 := hle1194.mono hle1315
        replace hs1270 := hs1270.mono hle1315
        replace hs1283 := hs1283.mono hle1315
        replace hs1300 := hs1300.mono hle1315
        replace hle0 := Fz.le.trans hle0 hle1315
        have hM1316 : Mem B [] w0 Z0 ((.row b1 [.bool u0.neg, .slice ao2 u0.abs.length cap3] 93) :: Rr) Z1314 wd1307 := hM1310; clear hM1310
        have hp1317 := hp1306 (hs1313.small); clear hp1306
        refine s1 hF1309 9 (.slice ao1311 (gaddS (gmulS x9 (gwordsS 2)) (gwordsS (wu64 (w64 (w8 ((c1205.toNat : Int) - 48)))))).length cap1312) ?_; intro a1318 hF1319; clear hF1309
        refine nlH (hQ1255 _ _ ?_); clear hQ1255 hQ1255Q
        refine ibn ?_
        refine rd ?_
        exact hJ1177 (gaddS (gmulS x9 (gwordsS 2)) (gwordsS (wu64 (w64 (w8 ((c1205.toNat : Int) - 48)))))) ao1311 cap1312 Z1314 ⟨hp1317, hs1313, hle1194⟩ _ _ ((hF1319.reg).anyβ _ (by kernel_rfl)) (hM1316.keep (List.Sublist.cons_cons _ (List.Sublist.refl _)))
      ·
       have hp1320 := hp1207.2 hb1228; clear hp1207
       have hF1321 : Fr 124 [] [⟨0, [], .pointer (some ⟨b1, 0, none⟩)⟩, ⟨1, [], str u1⟩, ⟨2, [], .int .i64 2⟩, ⟨8, [], .bool false⟩, ⟨9, [], .slice aox9 x9.length capx9⟩, ⟨10, [], .int .i64 x10⟩, ⟨11, [], .int .i64 99⟩, ⟨12, [], .int .u8 (c1205.toNat : Int)⟩] a1226 := hF1227.reg; clear hF1227
       refine sqH ?_; intro hQ1322Q hQ1322
       refine s1 hF1321 87 (.int .u8 (c1205.toNat : Int)) ?_; intro a1323 hF1324; clear hF1321
       refine s1 hF1324 88 (.bool (decide ((c1205.toNat : Int) ≥ 97))) ?_; intro a1325 hF1326; clear hF1324
       refine s1 hF1326 89 (.bool (decide ((c1205.toNat : Int) ≥ 97))) ?_; intro a1327 hF1328; clear hF1326
       have hF1329 := hF1328.atom ((decide ((c1205.toNat : Int) ≥ 97)) == true) (by kernel_rfl); clear hF1328
       refine gp hF1329 90 0 [] (decide ((c1205.toNat : Int) ≥ 97)) (.int .u8 (c1205.toNat : Int)) rfl rfl ?_; intro a1330 hF1331; clear hF1329
       refine gp hF1331 91 0 [] (decide ((c1205.toNat : Int) ≥ 97)) (.bool (decide ((c1205.toNat : Int) ≤ 122))) rfl rfl ?_; intro a1332 hF1333; clear hF1331
       refine st hF1333 (.bool ((decide ((c1205.toNat : Int) ≥ 97)) && (decide ((c1205.toNat : Int) ≤ 122)))) (nog rfl _) rfl (by kernel_rfl) (pk_and hF1333 (g := []) (m := 0) (b := decide ((c1205.toNat : Int) ≥ 97)) (v := decide ((c1205.toNat : Int) ≤ 122)) rfl (by kernel_rfl) (by kernel_rfl) (by kernel_rfl) rfl) ?_; intro a1334 hF1335; clear hF1333
       refine s1 hF1335 86 (.bool ((decide ((c1205.toNat : Int) ≥ 97)) && (decide ((c1205.toNat : Int) ≤ 122)))) ?_; intro a1336 hF1337; clear hF1335
       refine nlH (hQ1322 _ _ ?_); clear hQ1322 hQ1322Q
       refine cd hF1337 (t := (decide ((c1205.toNat : Int) ≥ 97)) && (decide ((c1205.toNat : Int) ≤ 122))) (by kernel_rfl) (fun hb1338 => ?_) (fun hb1338 => ?_)
       ·
        have hp1339 := hp1320.1 hb1338; clear hp1320
        have hF1340 : Fr 124 [] [⟨0, [], .pointer (some ⟨b1, 0, none⟩)⟩, ⟨1, [], str u1⟩, ⟨2, [], .int .i64 2⟩, ⟨8, [], .bool false⟩, ⟨9, [], .slice aox9 x9.length capx9⟩, ⟨10, [], .int .i64 x10⟩, ⟨12, [], .int .u8 (c1205.toNat : Int)⟩] a1336 := hF1337.reg; clear hF1337
        refine rgH ?_; intro hQ1341Q hQ1341
        refine s1 hF1340 93 (.int .u8 (c1205.toNat : Int)) ?_; intro a1342 hF1343; clear hF1340
        refine s1 hF1343 94 (.int .u8 (w8 ((c1205.toNat : Int) - 97))) ?_; intro a1344 hF1345; clear hF1343
        refine s1 hF1345 95 (.int .i64 (w64 (w8 ((c1205.toNat : Int) - 97)))) ?_; intro a1346 hF1347; clear hF1345
        refine s1 hF1347 96 (.int .i64 (w64 ((w64 (w8 ((c1205.toNat : Int) - 97))) + 10))) ?_; intro a1348 hF1349; clear hF1347
        refine s1 hF1349 11 (.int .i64 (w64 ((w64 (w8 ((c1205.toNat : Int) - 97))) + 10))) ?_; intro a1350 hF1351; clear hF1349
        refine nlH (hQ1341 _ _ ?_); clear hQ1341 hQ1341Q
        refine ibn ?_
        refine thn ?_
        refine wp_seq ?_
        refine sqH ?_; intro hQ1352Q hQ1352
        refine s1 hF1351 108 (.int .i64 (w64 ((w64 (w8 ((c1205.toNat : Int) - 97))) + 10))) ?_; intro a1353 hF1354; clear hF1351
        refine s1 hF1354 109 (.int .i64 2) ?_; intro a1355 hF1356; clear hF1354
        refine s1 hF1356 110 (.bool (decide ((w64 ((w64 (w8 ((c1205.toNat : Int) - 97))) + 10)) ≥ 2))) ?_; intro a1357 hF1358; clear hF1356
        refine nlH (hQ1352 _ _ ?_); clear hQ1352 hQ1352Q
        refine cd hF1358 (t := decide ((w64 ((w64 (w8 ((c1205.toNat : Int) - 97))) + 10)) ≥ 2)) (by kernel_rfl) (fun hb1359 => ?_) (fun hb1359 => ?_)
        ·
         have hp1360 := hp1339.1 hb1359; clear hp1339
         refine sqH ?_; intro hQ1361Q hQ1361
         refine s1 hF1358 6 (.pointer none) ?_; intro a1362 hF1363; clear hF1358
         refine s1 hF1363 7 (.bool false) ?_; intro a1364 hF1365; clear hF1363
         refine nlH (hQ1361 _ _ ?_); clear hQ1361 hQ1361Q
         refine wp_ret ?_
         refine thr ?_
         refine ibr ?_
         refine thr ?_
         refine thr ?_
         refine ibr ?_
         refine thr ?_
         refine rt (fn := Tryd.f90) (v := .tuple #[.pointer none, .bool false]) hF1365 (re2 hF1365 (fn := Tryd.f90) rfl (by kernel_rfl) (by kernel_rfl)) ?_
         exact ⟨(false, false, u0), ao2, cap3, ZL1145, rfl, hp1360, hle0, hs1158, hM1156.keep (List.Sublist.cons_cons _ (List.Sublist.refl _))⟩
        ·
         have hp1366 := hp1339.2 hb1359; clear hp1339
         refine wp_skip ?_
         refine thn ?_
         refine rgH ?_; intro hQ1367Q hQ1367
         refine s1 hF1358 111 (.slice aox9 x9.length capx9) ?_; intro a1368 hF1369; clear hF1358
         refine s1 hF1369 112 (.int .i64 2) ?_; intro a1370 hF1371; clear hF1369
         refine s1 hF1371 113 (.int .u64 2) ?_; intro a1372 hF1373; clear hF1371
         have hc1374 := hp1366.1; have hp1375 := hp1366.2; clear hp1366
         refine cl hF1373 123 #[.int .u64 2] (nog rfl _) rfl (by kernel_rfl) (by kernel_rfl) ?_
         refine (gwords_fun 2 hc1374 _ _ hM1156.fz).mono ?_; rintro _ wd1376 ⟨ao1380, cap1381, Z1383, rfl, hs1382, hm⟩; refine ⟨_, rfl, ?_⟩; intro a1377 hF1378; have hM1379 := hM1156.callZ hm; have hle1384 := hm.ext.le; clear hm hM1156 hF1373
         replace hs1158 := hs1158.mono hle1384
         replace hsx9 := hsx9.mono hle1384
         replace hleL1145 := hleL1145.mono hle1384
         replace hle1194 := hle1194.mono hle1384
         replace hle0 := Fz.le.trans hle0 hle1384
         have hM1385 : Mem B [] w0 Z0 ((.row b1 [.bool u0.neg, .slice ao2 u0.abs.length cap3] 93) :: Rr) Z1383 wd1376 := hM1379; clear hM1379
         have hp1386 := hp1375 (hs1382.small); clear hp1375
         have hc1387 := hp1386.1; have hp1388 := hp1386.2; clear hp1386
         refine cl hF1378 122 #[.slice aox9 x9.length capx9, .slice ao1380 (gwordsS 2).length cap1381] (nog rfl _) rfl (by kernel_rfl) (by kernel_rfl) ?_
         refine (gmul_fun x9 (gwordsS 2) hc1387 aox9 capx9 ao1380 cap1381 _ _ hsx9 hs1382 hM1385.fz).mono ?_; rintro _ wd1389 ⟨ao1393, cap1394, Z1396, rfl, hs1395, hm⟩; refine ⟨_, rfl, ?_⟩; intro a1390 hF1391; have hM1392 := hM1385.callZ hm; have hle1397 := hm.ext.le; clear hm hM1385 hF1378
         replace hs1158 := hs1158.mono hle1397
         replace hsx9 := hsx9.mono hle1397
         replace hleL1145 := hleL1145.mono hle1397
         replace hle1194 := hle1194.mono hle1397
         replace hs1382 := hs1382.mono hle1397
         replace hle0 := Fz.le.trans hle0 hle1397
         have hM1398 : Mem B [] w0 Z0 ((.row b1 [.bool u0.neg, .slice ao2 u0.abs.length cap3] 93) :: Rr) Z1396 wd1389 := hM1392; clear hM1392
         have hp1399 := hp1388 (hs1395.small); clear hp1388
         refine s1 hF1391 116 (.int .i64 (w64 ((w64 (w8 ((c1205.toNat : Int) - 97))) + 10))) ?_; intro a1400 hF1401; clear hF1391
         refine s1 hF1401 117 (.int .u64 (wu64 (w64 ((w64 (w8 ((c1205.toNat : Int) - 97))) + 10)))) ?_; intro a1402 hF1403; clear hF1401
         have hc1404 := hp1399.1; have hp1405 := hp1399.2; clear hp1399
         refine cl hF1403 123 #[.int .u64 (wu64 (w64 ((w64 (w8 ((c1205.toNat : Int) - 97))) + 10)))] (nog rfl _) rfl (by kernel_rfl) (by kernel_rfl) ?_
         refine (gwords_fun (wu64 (w64 ((w64 (w8 ((c1205.toNat : Int) - 97))) + 10))) hc1404 _ _ hM1398.fz).mono ?_; rintro _ wd1406 ⟨ao1410, cap1411, Z1413, rfl, hs1412, hm⟩; refine ⟨_, rfl, ?_⟩; intro a1407 hF1408; have hM1409 := hM1398.callZ hm; have hle1414 := hm.ext.le; clear hm hM1398 hF1403
         replace hs1158 := hs1158.mono hle1414
         replace hsx9 := hsx9.mono hle1414
         replace hleL1145 := hleL1145.mono hle1414
         replace hle1194 := hle1194.mono hle1414
         replace hs1382 := hs1382.mono hle1414
         replace hs1395 := hs1395.mono hle1414
         replace hle0 := Fz.le.trans hle0 hle1414
         have hM1415 : Mem B [] w0 Z0 ((.row b1 [.bool u0.neg, .slice ao2 u0.abs.length cap3] 93) :: Rr) Z1413 wd1406 := hM1409; clear hM1409
         have hp1416 := hp1405 (hs1412.small); clear hp1405
         have hc1417 := hp1416.1; have hp1418 := hp1416.2; clear hp1416
         refine cl hF1408 121 #[.slice ao1393 (gmulS x9 (gwordsS 2)).length cap1394, .slice ao1410 (gwordsS (wu64 (w64 ((w64 (w8 ((c1205.toNat : Int) - 97))) + 10)))).length cap1411] (nog rfl _) rfl (by kernel_rfl) (by kernel_rfl) ?_
         refine (gadd_fun (gmulS x9 (gwordsS 2)) (gwordsS (wu64 (w64 ((w64 (w8 ((c1205.toNat : Int) - 97))) + 10)))) hc1417 ao1393 cap1394 ao1410 cap1411 _ _ hs1395 hs1412 hM1415.fz).mono ?_; rintro _ wd1419 ⟨ao1423, cap1424, Z1426, rfl, hs1425, hm⟩; refine ⟨_, rfl, ?_⟩; intro a1420 hF1421; have hM1422 := hM1415.callZ hm; have hle1427 := hm.ext.le; clear hm hM1415 hF1408
         replace hs1158 := hs1158.mono hle1427
         replace hsx9 := hsx9.mono hle1427
         replace hleL1145 := hleL1145.mono hle1427
         replace hle1194 := hle1194.mono hle1427
         replace hs1382 := hs1382.mono hle1427
         replace hs1395 := hs1395.mono hle1427
         replace hs1412 := hs1412.mono hle1427
         replace hle0 := Fz.le.trans hle0 hle1427
         have hM1428 : Mem B [] w0 Z0 ((.row b1 [.bool u0.neg, .slice ao2 u0.abs.length cap3] 93) :: Rr) Z1426 wd1419 := hM1422; clear hM1422
         have hp1429 := hp1418 (hs1425.small); clear hp1418
         refine s1 hF1421 9 (.slice ao1423 (gaddS (gmulS x9 (gwordsS 2)) (gwordsS (wu64 (w64 ((w64 (w8 ((c1205.toNat : Int) - 97))) + 10))))).length cap1424) ?_; intro a1430 hF1431; clear hF1421
         refine nlH (hQ1367 _ _ ?_); clear hQ1367 hQ1367Q
         refine ibn ?_
         refine rd ?_
         exact hJ1177 (gaddS (gmulS x9 (gwordsS 2)) (gwordsS (wu64 (w64 ((w64 (w8 ((c1205.toNat : Int) - 97))) + 10))))) ao1423 cap1424 Z1426 ⟨hp1429, hs1425, hle1194⟩ _ _ ((hF1431.reg).anyβ _ (by kernel_rfl)) (hM1428.keep (List.Sublist.cons_cons _ (List.Sublist.refl _)))
       ·
        have hp1432 := hp1320.2 hb1338; clear hp1320
        have hF1433 : Fr 124 [] [⟨0, [], .pointer (some ⟨b1, 0, none⟩)⟩, ⟨1, [], str u1⟩, ⟨2, [], .int .i64 2⟩, ⟨8, [], .bool false⟩, ⟨9, [], .slice aox9 x9.length capx9⟩, ⟨10, [], .int .i64 x10⟩, ⟨11, [], .int .i64 99⟩, ⟨12, [], .int .u8 (c1205.toNat : Int)⟩] a1336 := hF1337.reg; clear hF1337
        refine sqH ?_; intro hQ1434Q hQ1434
        refine s1 hF1433 98 (.int .u8 (c1205.toNat : Int)) ?_; intro a1435 hF1436; clear hF1433
        refine s1 hF1436 99 (.bool (decide ((c1205.toNat : Int) ≥ 65))) ?_; intro a1437 hF1438; clear hF1436
        refine s1 hF1438 100 (.bool (decide ((c1205.toNat : Int) ≥ 65))) ?_; intro a1439 hF1440; clear hF1438
        have hF1441 := hF1440.atom ((decide ((c1205.toNat : Int) ≥ 65)) == true) (by kernel_rfl); clear hF1440
        refine gp hF1441 101 0 [] (decide ((c1205.toNat : Int) ≥ 65)) (.int .u8 (c1205.toNat : Int)) rfl rfl ?_; intro a1442 hF1443; clear hF1441
        refine gp hF1443 102 0 [] (decide ((c1205.toNat : Int) ≥ 65)) (.bool (decide ((c1205.toNat : Int) ≤ 90))) rfl rfl ?_; intro a1444 hF1445; clear hF1443
        refine st hF1445 (.bool ((decide ((c1205.toNat : Int) ≥ 65)) && (decide ((c1205.toNat : Int) ≤ 90)))) (nog rfl _) rfl (by kernel_rfl) (pk_and hF1445 (g := []) (m := 0) (b := decide ((c1205.toNat : Int) ≥ 65)) (v := decide ((c1205.toNat : Int) ≤ 90)) rfl (by kernel_rfl) (by kernel_rfl) (by kernel_rfl) rfl) ?_; intro a1446 hF1447; clear hF1445
        refine s1 hF1447 97 (.bool ((decide ((c1205.toNat : Int) ≥ 65)) && (decide ((c1205.toNat : Int) ≤ 90)))) ?_; intro a1448 hF1449; clear hF1447
        refine nlH (hQ1434 _ _ ?_); clear hQ1434 hQ1434Q
        refine cd hF1449 (t := (decide ((c1205.toNat : Int) ≥ 65)) && (decide ((c1205.toNat : Int) ≤ 90))) (by kernel_rfl) (fun hb1450 => ?_) (fun hb1450 => ?_)
        ·
         have hp1451 := hp1432.1 hb1450; clear hp1432
         have hF1452 : Fr 124 [] [⟨0, [], .pointer (some ⟨b1, 0, none⟩)⟩, ⟨1, [], str u1⟩, ⟨2, [], .int .i64 2⟩, ⟨8, [], .bool false⟩, ⟨9, [], .slice aox9 x9.length capx9⟩, ⟨10, [], .int .i64 x10⟩, ⟨12, [], .int .u8 (c1205.toNat : Int)⟩] a1448 := hF1449.reg; clear hF1449
         refine rgH ?_; intro hQ1453Q hQ1453
         refine s1 hF1452 104 (.int .u8 (c1205.toNat : Int)) ?_; intro a1454 hF1455; clear hF1452
         refine s1 hF1455 105 (.int .u8 (w8 ((c1205.toNat : Int) - 65))) ?_; intro a1456 hF1457; clear hF1455
         refine s1 hF1457 106 (.int .i64 (w64 (w8 ((c1205.toNat : Int) - 65)))) ?_; intro a1458 hF1459; clear hF1457
         refine s1 hF1459 107 (.int .i64 (w64 ((w64 (w8 ((c1205.toNat : Int) - 65))) + 10))) ?_; intro a1460 hF1461; clear hF1459
         refine s1 hF1461 11 (.int .i64 (w64 ((w64 (w8 ((c1205.toNat : Int) - 65))) + 10))) ?_; intro a1462 hF1463; clear hF1461
         refine nlH (hQ1453 _ _ ?_); clear hQ1453 hQ1453Q
         refine ibn ?_
         refine thn ?_
         refine wp_seq ?_
         refine sqH ?_; intro hQ1464Q hQ1464
         refine s1 hF1463 108 (.int .i64 (w64 ((w64 (w8 ((c1205.toNat : Int) - 65))) + 10))) ?_; intro a1465 hF1466; clear hF1463
         refine s1 hF1466 109 (.int .i64 2) ?_; intro a1467 hF1468; clear hF1466
         refine s1 hF1468 110 (.bool (decide ((w64 ((w64 (w8 ((c1205.toNat : Int) - 65))) + 10)) ≥ 2))) ?_; intro a1469 hF1470; clear hF1468
         refine nlH (hQ1464 _ _ ?_); clear hQ1464 hQ1464Q
         refine cd hF1470 (t := decide ((w64 ((w64 (w8 ((c1205.toNat : Int) - 65))) + 10)) ≥ 2)) (by kernel_rfl) (fun hb1471 => ?_) (fun hb1471 => ?_)
         ·
          have hp1472 := hp1451.1 hb1471; clear hp1451
          refine sqH ?_; intro hQ1473Q hQ1473
          refine s1 hF1470 6 (.pointer none) ?_; intro a1474 hF1475; clear hF1470
          refine s1 hF1475 7 (.bool false) ?_; intro a1476 hF1477; clear hF1475
          refine nlH (hQ1473 _ _ ?_); clear hQ1473 hQ1473Q
          refine wp_ret ?_
          refine thr ?_
          refine ibr ?_
          refine thr ?_
          refine thr ?_
          refine ibr ?_
          refine thr ?_
          refine rt (fn := Tryd.f90) (v := .tuple #[.pointer none, .bool false]) hF1477 (re2 hF1477 (fn := Tryd.f90) rfl (by kernel_rfl) (by kernel_rfl)) ?_
          exact ⟨(false, false, u0), ao2, cap3, ZL1145, rfl, hp1472, hle0, hs1158, hM1156.keep (List.Sublist.cons_cons _ (List.Sublist.refl _))⟩
         ·
          have hp1478 := hp1451.2 hb1471; clear hp1451
          refine wp_skip ?_
          refine thn ?_
          refine rgH ?_; intro hQ1479Q hQ1479
          refine s1 hF1470 111 (.slice aox9 x9.length capx9) ?_; intro a1480 hF1481; clear hF1470
          refine s1 hF1481 112 (.int .i64 2) ?_; intro a1482 hF1483; clear hF1481
          refine s1 hF1483 113 (.int .u64 2) ?_; intro a1484 hF1485; clear hF1483
          have hc1486 := hp1478.1; have hp1487 := hp1478.2; clear hp1478
          refine cl hF1485 123 #[.int .u64 2] (nog rfl _) rfl (by kernel_rfl) (by kernel_rfl) ?_
          refine (gwords_fun 2 hc1486 _ _ hM1156.fz).mono ?_; rintro _ wd1488 ⟨ao1492, cap1493, Z1495, rfl, hs1494, hm⟩; refine ⟨_, rfl, ?_⟩; intro a1489 hF1490; have hM1491 := hM1156.callZ hm; have hle1496 := hm.ext.le; clear hm hM1156 hF1485
          replace hs1158 := hs1158.mono hle1496
          replace hsx9 := hsx9.mono hle1496
          replace hleL1145 := hleL1145.mono hle1496
          replace hle1194 := hle1194.mono hle1496
          replace hle0 := Fz.le.trans hle0 hle1496
          have hM1497 : Mem B [] w0 Z0 ((.row b1 [.bool u0.neg, .slice ao2 u0.abs.length cap3] 93) :: Rr) Z1495 wd1488 := hM1491; clear hM1491
          have hp1498 := hp1487 (hs1494.small); clear hp1487
          have hc1499 := hp1498.1; have hp1500 := hp1498.2; clear hp1498
          refine cl hF1490 122 #[.slice aox9 x9.length capx9, .slice ao1492 (gwordsS 2).length cap1493] (nog rfl _) rfl (by kernel_rfl) (by kernel_rfl) ?_
          refine (gmul_fun x9 (gwordsS 2) hc1499 aox9 capx9 ao1492 cap1493 _ _ hsx9 hs1494 hM1497.fz).mono ?_; rintro _ wd1501 ⟨ao1505, cap1506, Z1508, rfl, hs1507, hm⟩; refine ⟨_, rfl, ?_⟩; intro a1502 hF1503; have hM1504 := hM1497.callZ hm; have hle1509 := hm.ext.le; clear hm hM1497 hF1490
          replace hs1158 := hs1158.mono hle1509
          replace hsx9 := hsx9.mono hle1509
          replace hleL1145 := hleL1145.mono hle1509
          replace hle1194 := hle1194.mono hle1509
          replace hs1494 := hs1494.mono hle1509
          replace hle0 := Fz.le.trans hle0 hle1509
          have hM1510 : Mem B [] w0 Z0 ((.row b1 [.bool u0.neg, .slice ao2 u0.abs.length cap3] 93) :: Rr) Z1508 wd1501 := hM1504; clear hM1504
          have hp1511 := hp1500 (hs1507.small); clear hp1500
          refine s1 hF1503 116 (.int .i64 (w64 ((w64 (w8 ((c1205.toNat : Int) - 65))) + 10))) ?_; intro a1512 hF1513; clear hF1503
          refine s1 hF1513 117 (.int .u64 (wu64 (w64 ((w64 (w8 ((c1205.toNat : Int) - 65))) + 10)))) ?_; intro a1514 hF1515; clear hF1513
          have hc1516 := hp1511.1; have hp1517 := hp1511.2; clear hp1511
          refine cl hF1515 123 #[.int .u64 (wu64 (w64 ((w64 (w8 ((c1205.toNat : Int) - 65))) + 10)))] (nog rfl _) rfl (by kernel_rfl) (by kernel_rfl) ?_
          refine (gwords_fun (wu64 (w64 ((w64 (w8 ((c1205.toNat : Int) - 65))) + 10))) hc1516 _ _ hM1510.fz).mono ?_; rintro _ wd1518 ⟨ao1522, cap1523, Z1525, rfl, hs1524, hm⟩; refine ⟨_, rfl, ?_⟩; intro a1519 hF1520; have hM1521 := hM1510.callZ hm; have hle1526 := hm.ext.le; clear hm hM1510 hF1515
          replace hs1158 := hs1158.mono hle1526
          replace hsx9 := hsx9.mono hle1526
          replace hleL1145 := hleL1145.mono hle1526
          replace hle1194 := hle1194.mono hle1526
          replace hs1494 := hs1494.mono hle1526
          replace hs1507 := hs1507.mono hle1526
          replace hle0 := Fz.le.trans hle0 hle1526
          have hM1527 : Mem B [] w0 Z0 ((.row b1 [.bool u0.neg, .slice ao2 u0.abs.length cap3] 93) :: Rr) Z1525 wd1518 := hM1521; clear hM1521
          have hp1528 := hp1517 (hs1524.small); clear hp1517
          have hc1529 := hp1528.1; have hp1530 := hp1528.2; clear hp1528
          refine cl hF1520 121 #[.slice ao1505 (gmulS x9 (gwordsS 2)).length cap1506, .slice ao1522 (gwordsS (wu64 (w64 ((w64 (w8 ((c1205.toNat : Int) - 65))) + 10)))).length cap1523] (nog rfl _) rfl (by kernel_rfl) (by kernel_rfl) ?_
          refine (gadd_fun (gmulS x9 (gwordsS 2)) (gwordsS (wu64 (w64 ((w64 (w8 ((c1205.toNat : Int) - 65))) + 10)))) hc1529 ao1505 cap1506 ao1522 cap1523 _ _ hs1507 hs1524 hM1527.fz).mono ?_; rintro _ wd1531 ⟨ao1535, cap1536, Z1538, rfl, hs1537, hm⟩; refine ⟨_, rfl, ?_⟩; intro a1532 hF1533; have hM1534 := hM1527.callZ hm; have hle1539 := hm.ext.le; clear hm hM1527 hF1520
          replace hs1158 := hs1158.mono hle1539
          replace hsx9 := hsx9.mono hle1539
          replace hleL1145 := hleL1145.mono hle1539
          replace hle1194 := hle1194.mono hle1539
          replace hs1494 := hs1494.mono hle1539
          replace hs1507 := hs1507.mono hle1539
          replace hs1524 := hs1524.mono hle1539
          replace hle0 := Fz.le.trans hle0 hle1539
          have hM1540 : Mem B [] w0 Z0 ((.row b1 [.bool u0.neg, .slice ao2 u0.abs.length cap3] 93) :: Rr) Z1538 wd1531 := hM1534; clear hM1534
          have hp1541 := hp1530 (hs1537.small); clear hp1530
          refine s1 hF1533 9 (.slice ao1535 (gaddS (gmulS x9 (gwordsS 2)) (gwordsS (wu64 (w64 ((w64 (w8 ((c1205.toNat : Int) - 65))) + 10))))).length cap1536) ?_; intro a1542 hF1543; clear hF1533
          refine nlH (hQ1479 _ _ ?_); clear hQ1479 hQ1479Q
          refine ibn ?_
          refine rd ?_
          exact hJ1177 (gaddS (gmulS x9 (gwordsS 2)) (gwordsS (wu64 (w64 ((w64 (w8 ((c1205.toNat : Int) - 65))) + 10))))) ao1535 cap1536 Z1538 ⟨hp1541, hs1537, hle1194⟩ _ _ ((hF1543.reg).anyβ _ (by kernel_rfl)) (hM1540.keep (List.Sublist.cons_cons _ (List.Sublist.refl _)))
        ·
         have hp1544 := hp1432.2 hb1450; clear hp1432
         refine wp_skip ?_
         refine ibn ?_
         refine thn ?_
         refine wp_seq ?_
         have hF1545 : Fr 124 [] [⟨0, [], .pointer (some ⟨b1, 0, none⟩)⟩, ⟨1, [], str u1⟩, ⟨2, [], .int .i64 2⟩, ⟨8, [], .bool false⟩, ⟨9, [], .slice aox9 x9.length capx9⟩, ⟨10, [], .int .i64 x10⟩, ⟨11, [], .int .i64 99⟩] a1448 := hF1449.reg; clear hF1449
         refine sqH ?_; intro hQ1546Q hQ1546
         refine s1 hF1545 108 (.int .i64 99) ?_; intro a1547 hF1548; clear hF1545
         refine s1 hF1548 109 (.int .i64 2) ?_; intro a1549 hF1550; clear hF1548
         refine s1 hF1550 110 (.bool true) ?_; intro a1551 hF1552; clear hF1550
         refine nlH (hQ1546 _ _ ?_); clear hQ1546 hQ1546Q
         refine cdT hF1552 (by kernel_rfl) ?_
         refine sqH ?_; intro hQ1553Q hQ1553
         refine s1 hF1552 6 (.pointer none) ?_; intro a1554 hF1555; clear hF1552
         refine s1 hF1555 7 (.bool false) ?_; intro a1556 hF1557; clear hF1555
         refine nlH (hQ1553 _ _ ?_); clear hQ1553 hQ1553Q
         refine wp_ret ?_
         refine thr ?_
         refine ibr ?_
         refine thr ?_
         refine thr ?_
         refine ibr ?_
         refine thr ?_
         refine rt (fn := Tryd.f90) (v := .tuple #[.pointer none, .bool false]) hF1557 (re2 hF1557 (fn := Tryd.f90) rfl (by kernel_rfl) (by kernel_rfl)) ?_
         exact ⟨(false, false, u0), ao2, cap3, ZL1145, rfl, hp1544, hle0, hs1158, hM1156.keep (List.Sublist.cons_cons _ (List.Sublist.refl _))⟩
     ·
      have hp1558 := hp1157.2 hb1168; clear hp1157
      refine wp_exit ?_
      refine thx ?_
      refine thx ?_
      refine ibx ?_
      refine thn ?_
      refine sqH ?_; intro hQ1559Q hQ1559
      refine s1 hF1167 120 (.pointer (some ⟨b1, 0, none⟩)) ?_; intro a1560 hF1561; clear hF1167
      refine s1 hF1561 121 (.bool false) ?_; intro a1562 hF1563; clear hF1561
      refine s1 hF1563 122 (.slice aox9 x9.length capx9) ?_; intro a1564 hF1565; clear hF1563
      refine cl hF1565 91 #[.pointer (some ⟨b1, 0, none⟩), .bool false, .slice aox9 x9.length capx9] (nog rfl _) rfl (by kernel_rfl) (by kernel_rfl) ?_
      obtain ⟨r1570, hr1571⟩ : ∃ x, (ggive u0 false x9) = x := ⟨_, rfl⟩; have hp1572 := hp1558 r1570 hr1571; clear hp1558
      have h9 := ggive_fun u0 false x9 b1 ao2 cap3 aox9 capx9 _ _ _ _ _ _ hs1158 hsx9 hM1156 hM1156.fz; rw [hr1571] at h9; refine h9.mono ?_; clear h9; rintro _ wd1566 ⟨ao1574, cap1575, Z1577, rfl, hle1578, hs1576, hm⟩; refine ⟨_, rfl, ?_⟩; intro a1567 hF1568; have hM1569 := hm; clear hm hM1156 hF1565
      replace hs1158 := hs1158.mono hle1578
      replace hsx9 := hsx9.mono hle1578
      replace hleL1145 := hleL1145.mono hle1578
      replace hle0 := Fz.le.trans hle0 hle1578
      have hM1579 : Mem B [] w0 Z0 ((.row b1 [.bool r1570.neg, .slice ao1574 r1570.abs.length cap1575] 93) :: Rr) Z1577 wd1566 := hM1569; clear hM1569
      have hp1580 := hp1572 (hs1576.small); clear hp1572
      refine s1 hF1568 6 (.pointer (some ⟨b1, 0, none⟩)) ?_; intro a1581 hF1582; clear hF1568
      refine s1 hF1582 7 (.bool true) ?_; intro a1583 hF1584; clear hF1582
      refine nlH (hQ1559 _ _ ?_); clear hQ1559 hQ1559Q
      refine wp_ret ?_
      refine rt (fn := Tryd.f90) (v := .tuple #[.pointer (some ⟨b1, 0, none⟩), .bool true]) hF1584 (re2 hF1584 (fn := Tryd.f90) rfl (by kernel_rfl) (by kernel_rfl)) ?_
      exact ⟨(true, true, r1570), ao1574, cap1575, Z1577, rfl, hp1580, hle0, hs1576, hM1579.keep (List.Sublist.cons_cons _ (List.Sublist.refl _))⟩
 ·
  have hp1585 := hp5.2 hb26; clear hp5
  have hF1586 := hF25.reval (d := 16) (c := []) (v := .bool (decide ((u1.length : Int) > 0))) (by kernel_rfl) (.bool false) (by rw [hb26]); clear hF25
  have hF1587 := hF1586.setc (d := 17) (c := [0]) (v := str u1) (by kernel_rfl) (v' := undef) (by rw [hb26]; kernel_rfl); clear hF1586
  refine sk hF1587 (b := false) rfl rfl (by kernel_rfl) (by kernel_rfl) rfl rfl (by kernel_rfl) ?_; intro a1588 hF1589; clear hF1587
  refine sk hF1589 (b := false) rfl rfl (by kernel_rfl) (by kernel_rfl) rfl rfl (by kernel_rfl) ?_; intro a1590 hF1591; clear hF1589
  refine sk hF1591 (b := false) rfl rfl (by kernel_rfl) (by kernel_rfl) rfl rfl (by kernel_rfl) ?_; intro a1592 hF1593; clear hF1591
  refine sku hF1593 rfl rfl (by kernel_rfl) (by kernel_rfl) rfl (by kernel_rfl) ?_; intro a1594 hF1595; clear hF1593
  refine sku hF1595 rfl rfl (by kernel_rfl) (by kernel_rfl) rfl (by kernel_rfl) ?_; intro a1596 hF1597; clear hF1595
  refine sku hF1597 rfl rfl (by kernel_rfl) (by kernel_rfl) rfl (by kernel_rfl) ?_; intro a1598 hF1599; clear hF1597
  refine sk hF1599 (b := false) rfl rfl (by kernel_rfl) (by kernel_rfl) rfl rfl (by kernel_rfl) ?_; intro a1600 hF1601; clear hF1599
  refine s1 hF1601 25 (.bool false) ?_; intro a1602 hF1603; clear hF1601
  refine nlH (hQ14 _ _ ?_); clear hQ14 hQ14Q
  refine cdF hF1603 (by kernel_rfl) ?_
  refine wp_skip ?_
  refine thn ?_
  refine wp_seq ?_
  have hF1604 : Fr 124 [] [⟨0, [], .pointer (some ⟨b1, 0, none⟩)⟩, ⟨1, [], str u1⟩, ⟨2, [], .int .i64 2⟩, ⟨8, [], .bool false⟩] a1602 := hF1603.reg; clear hF1603
  refine sqH ?_; intro hQ1605Q hQ1605
  refine s1 hF1604 31 (.int .i64 2) ?_; intro a1606 hF1607; clear hF1604
  refine s1 hF1607 32 (.bool false) ?_; intro a1608 hF1609; clear hF1607
  refine nlH (hQ1605 _ _ ?_); clear hQ1605 hQ1605Q
  refine cdF hF1609 (by kernel_rfl) ?_
  refine wp_skip ?_
  refine thn ?_
  refine wp_seq ?_
  refine sqH ?_; intro hQ1610Q hQ1610
  refine s1 hF1609 56 (str u1) ?_; intro a1611 hF1612; clear hF1609
  refine s1 hF1612 57 (.int .i64 (u1.length : Int)) ?_; intro a1613 hF1614; clear hF1612
  refine s1 hF1614 58 (.bool ((u1.length : Int) == 0)) ?_; intro a1615 hF1616; clear hF1614
  refine s1 hF1616 59 (.bool ((u1.length : Int) == 0)) ?_; intro a1617 hF1618; clear hF1616
  have hF1619 := hF1618.atom (((u1.length : Int) == 0) == false) (by kernel_rfl); clear hF1618
  refine gp hF1619 60 0 [] ((u1.length : Int) == 0) (.int .i64 2) rfl rfl ?_; intro a1620 hF1621; clear hF1619
  refine gp hF1621 61 0 [] ((u1.length : Int) == 0) (.bool false) rfl rfl ?_; intro a1622 hF1623; clear hF1621
  refine st hF1623 (.bool (((u1.length : Int) == 0) || false)) (nog rfl _) rfl (by kernel_rfl) (pk_or hF1623 (g := []) (m := 0) (b := (u1.length : Int) == 0) (v := false) rfl (by kernel_rfl) (by kernel_rfl) (by kernel_rfl) rfl) ?_; intro a1624 hF1625; clear hF1623
  refine s1 hF1625 63 (.bool (((u1.length : Int) == 0) || false)) ?_; intro a1626 hF1627; clear hF1625
  have hF1628 := hF1627.atom ((((u1.length : Int) == 0) || false) == false) (by kernel_rfl); clear hF1627
  refine gp hF1628 64 1 [] (((u1.length : Int) == 0) || false) (.int .i64 2) rfl rfl ?_; intro a1629 hF1630; clear hF1628
  refine gp hF1630 65 1 [] (((u1.length : Int) == 0) || false) (.bool false) rfl rfl ?_; intro a1631 hF1632; clear hF1630
  refine st hF1632 (.bool ((((u1.length : Int) == 0) || false) || false)) (nog rfl _) rfl (by kernel_rfl) (pk_or hF1632 (g := []) (m := 1) (b := ((u1.length : Int) == 0) || false) (v := false) rfl (by kernel_rfl) (by kernel_rfl) (by kernel_rfl) rfl) ?_; intro a1633 hF1634; clear hF1632
  refine nlH (hQ1610 _ _ ?_); clear hQ1610 hQ1610Q
  refine cd hF1634 (t := (((u1.length : Int) == 0) || false) || false) (by kernel_rfl) (fun hb1635 => ?_) (fun hb1635 => ?_)
  ·
   have hp1636 := hp1585.1 hb1635; clear hp1585
   have hF1637 : Fr 124 [] [] a1633 := hF1634.reg; clear hF1634
   refine sqH ?_; intro hQ1638Q hQ1638
   refine s1 hF1637 6 (.pointer none) ?_; intro a1639 hF1640; clear hF1637
   refine s1 hF1640 7 (.bool false) ?_; intro a1641 hF1642; clear hF1640
   refine nlH (hQ1638 _ _ ?_); clear hQ1638 hQ1638Q
   refine wp_ret ?_
   refine thr ?_
   refine rt (fn := Tryd.f90) (v := .tuple #[.pointer none, .bool false]) hF1642 (re2 hF1642 (fn := Tryd.f90) rfl (by kernel_rfl) (by kernel_rfl)) ?_
   exact ⟨(false, false, u0), ao2, cap3, Z, rfl, hp1636, hle0, hs4, hM0.keep (List.Sublist.cons_cons _ (List.Sublist.refl _))⟩
  ·
   have hp1643 := hp1585.2 hb1635; clear hp1585
   refine wp_skip ?_
   refine thn ?_
   have hF1644 : Fr 124 [] [⟨0, [], .pointer (some ⟨b1, 0, none⟩)⟩, ⟨1, [], str u1⟩, ⟨2, [], .int .i64 2⟩, ⟨8, [], .bool false⟩] a1633 := hF1634.reg; clear hF1634
   refine sqH ?_; intro hQ1645Q hQ1645
   refine s1 hF1644 9 (.slice none 0 0) ?_; intro a1646 hF1647; clear hF1644
   refine nlH (hQ1645 _ _ ?_); clear hQ1645 hQ1645Q
   refine wp_seq ?_
   refine sqH ?_; intro hQ1648Q hQ1648
   refine s1 hF1647 10 (.int .i64 0) ?_; intro a1649 hF1650; clear hF1647
   refine nlH (hQ1648 _ _ ?_); clear hQ1648 hQ1648Q
   refine wp_block ?_
   have hF1651 : Fr 124 [] [⟨0, [], .pointer (some ⟨b1, 0, none⟩)⟩, ⟨1, [], str u1⟩, ⟨2, [], .int .i64 2⟩, ⟨8, [], .bool false⟩, ⟨9, [], .slice none 0 0⟩, ⟨10, [], .int .i64 0⟩] a1649 := hF1650.reg; clear hF1650
   have hF1653 : Fr 124 [] [⟨0, [], .pointer (some ⟨b1, 0, none⟩)⟩, ⟨1, [], str u1⟩, ⟨2, [], .int .i64 2⟩, ⟨8, [], .bool false⟩, ⟨9, [], .slice none 0 0⟩, ⟨10, [], .int .i64 0⟩] a1649 := hF1651.reg; clear hF1651
   obtain ⟨inv1652, mu1652, hI1656, hr1655⟩ := hp1643
   have hle1657 := hle0
   refine lp (ι := (List Int) × Int × (Option Addr) × Nat × Fz) (fun (s : (List Int) × Int × (Option Addr) × Nat × Fz) => [⟨0, [], .pointer (some ⟨b1, 0, none⟩)⟩, ⟨1, [], str u1⟩, ⟨2, [], .int .i64 2⟩, ⟨8, [], .bool false⟩, ⟨9, [], .slice s.2.2.1 s.1.length s.2.2.2.1⟩, ⟨10, [], .int .i64 s.2.1⟩]) (fun (s : (List Int) × Int × (Option Addr) × Nat × Fz) => ((.row b1 [.bool u0.neg, .slice ao2 u0.abs.length cap3] 93) :: Rr)) (fun (s : (List Int) × Int × (Option Addr) × Nat × Fz) => s.2.2.2.2) (fun (s : (List Int) × Int × (Option Addr) × Nat × Fz) => inv1652 s.1 s.2.1 ∧ SlR (tyInt .u32) s.2.2.2.2 s.2.2.1 s.2.2.2.1 s.1 ∧ Fz.le Z s.2.2.2.2) (fun (s : (List Int) × Int × (Option Addr) × Nat × Fz) => mu1652 s.1 s.2.1) ⟨([] : List Int), 0, none, 0, Z⟩ ⟨hI1656, (SlR.nil _ _), Fz.le.refl _⟩ (by exact hF1653.reg) (by exact hM0) ?_
   rintro ⟨x9, x10, aox9, capx9, ZL1652⟩ ⟨hI1654, hsx9, hleL1652⟩ a1658 wd1659 hF1660 hM1661
   have hF1662 : Fr 124 [] [⟨0, [], .pointer (some ⟨b1, 0, none⟩)⟩, ⟨1, [], str u1⟩, ⟨2, [], .int .i64 2⟩, ⟨8, [], .bool false⟩, ⟨9, [], .slice aox9 x9.length capx9⟩, ⟨10, [], .int .i64 x10⟩] a1658 := hF1660; clear hF1660 hF1653
   have hM1663 : Mem B [] w0 Z0 ((.row b1 [.bool u0.neg, .slice ao2 u0.abs.length cap3] 93) :: Rr) ZL1652 wd1659 := hM1661; clear hM1661 hM0
   have hp1664 := hr1655 x9 x10 hI1654
   replace hle0 := Fz.le.trans hle0 hleL1652
   have hs1665 := hs4.mono hleL1652
   refine wp_seq ?_
   refine sqH ?_; intro hQ1666Q hQ1666
   refine s1 hF1662 67 (.int .i64 x10) ?_; intro a1667 hF1668; clear hF1662
   refine s1 hF1668 68 (str u1) ?_; intro a1669 hF1670; clear hF1668
   refine s1 hF1670 69 (.int .i64 (u1.length : Int)) ?_; intro a1671 hF1672; clear hF1670
   refine s1 hF1672 70 (.bool (decide (x10 < (u1.length : Int)))) ?_; intro a1673 hF1674; clear hF1672
   refine nlH (hQ1666 _ _ ?_); clear hQ1666 hQ1666Q
   refine cd hF1674 (t := decide (x10 < (u1.length : Int))) (by kernel_rfl) (fun hb1675 => ?_) (fun hb1675 => ?_)
   ·
    have hp1676 := hp1664.1 hb1675; clear hp1664
    refine wp_skip ?_
    refine thn ?_
    have hF1677 : Fr 124 [] [⟨0, [], .pointer (some ⟨b1, 0, none⟩)⟩, ⟨1, [], str u1⟩, ⟨2, [], .int .i64 2⟩, ⟨8, [], .bool false⟩, ⟨9, [], .slice aox9 x9.length capx9⟩, ⟨10, [], .int .i64 x10⟩] a1673 := hF1674.reg; clear hF1674
    have hF1679 : Fr 124 [] [⟨0, [], .pointer (some ⟨b1, 0, none⟩)⟩, ⟨1, [], str u1⟩, ⟨2, [], .int .i64 2⟩, ⟨8, [], .bool false⟩, ⟨9, [], .slice aox9 x9.length capx9⟩, ⟨10, [], .int .i64 x10⟩] a1673 := hF1677.reg; clear hF1677
    obtain ⟨inv1678, hp1680, hp1681⟩ := hp1676
    refine wp_seq_k fun KJ1682 hKJ1683 => ?_
    have hJ1684 : ∀ (x9v : List Int) (aox9v : Option Addr) (capx9v : Nat) (ZJ1678 : Fz), inv1678 x9v ∧ SlR (tyInt .u32) ZJ1678 aox9v capx9v x9v ∧ Fz.le ZL1652 ZJ1678 → ∀ a1 w1, Fr 124 [] [⟨0, [], .pointer (some ⟨b1, 0, none⟩)⟩, ⟨1, [], str u1⟩, ⟨2, [], .int .i64 2⟩, ⟨8, [], .bool false⟩, ⟨9, [], .slice aox9v x9v.length capx9v⟩, ⟨10, [], .int .i64 x10⟩] a1 → Mem B [] w0 Z0 ((.row b1 [.bool u0.neg, .slice ao2 u0.abs.length cap3] 93) :: Rr) ZJ1678 w1 → KJ1682 a1 w1 := by
     rintro x9v aox9v capx9v ZJ1678 ⟨hI1689, hsx9v, hleJ1678⟩ a1685 wd1686 hF1687 hM1688; clear hF1679 hM1663
     refine hKJ1683 _ _ ?_; clear hKJ1683
     have hp1690 := hp1681 x9v hI1689
     replace hle0 := Fz.le.trans hle0 hleJ1678
     have hs1691 := hs1665.mono hleJ1678
     have hs1692 := hsx9.mono hleJ1678
     have hs1693 := hleL1652.mono hleJ1678
     refine rgH ?_; intro hQ1694Q hQ1694
     refine s1 hF1687 71 (.int .i64 x10) ?_; intro a1695 hF1696; clear hF1687
     refine s1 hF1696 72 (.int .i64 (w64 (x10 + 1))) ?_; intro a1697 hF1698; clear hF1696
     refine s1 hF1698 10 (.int .i64 (w64 (x10 + 1))) ?_; intro a1699 hF1700; clear hF1698
     refine nlH (hQ1694 _ _ ?_); clear hQ1694 hQ1694Q
     refine rd ?_
     exact ⟨⟨x9v, w64 (x10 + 1), aox9v, capx9v, ZJ1678⟩, ⟨hp1690.1, hsx9v, hs1693⟩, hp1690.2, (hF1700.reg).anyβ _ (by kernel_rfl), hM1688.keep (List.Sublist.cons_cons _ (List.Sublist.refl _))⟩
    have hle1701 := Fz.le.refl ZL1652
    refine wp_block ?_
    refine sqH ?_; intro hQ1702Q hQ1702
    refine s1 hF1679 11 (.int .i64 99) ?_; intro a1703 hF1704; clear hF1679
    refine nlH (hQ1702 _ _ ?_); clear hQ1702 hQ1702Q
    refine wp_seq ?_
    refine sqH ?_; intro hQ1705Q hQ1705
    refine s1 hF1704 73 (str u1) ?_; intro a1706 hF1707; clear hF1704
    refine s1 hF1707 74 (.int .i64 x10) ?_; intro a1708 hF1709; clear hF1707
    have hc1710 := hp1680.1; have hp1711 := hp1680.2; clear hp1680
    obtain ⟨c1712, hq1713⟩ : ∃ q, u1[x10.toNat]? = some q := ⟨_, List.getElem?_eq_getElem (by omega)⟩; have hp1714 := hp1711 c1712 hq1713
    refine st hF1709 (.int .u8 (c1712.toNat : Int)) (nog rfl _) rfl (by kernel_rfl) (stridx_run hF1709 (k := .i64) rfl (by kernel_rfl) (by kernel_rfl) (by kernel_rfl) hc1710.1 hq1713) ?_; intro a1715 hF1716; clear hF1709
    refine s1 hF1716 12 (.int .u8 (c1712.toNat : Int)) ?_; intro a1717 hF1718; clear hF1716
    refine nlH (hQ1705 _ _ ?_); clear hQ1705 hQ1705Q
    refine wp_block ?_
    refine sqH ?_; intro hQ1719Q hQ1719
    refine s1 hF1718 77 (.int .u8 (c1712.toNat : Int)) ?_; intro a1720 hF1721; clear hF1718
    refine s1 hF1721 78 (.bool (decide ((c1712.toNat : Int) ≥ 48))) ?_; intro a1722 hF1723; clear hF1721
    refine s1 hF1723 79 (.bool (decide ((c1712.toNat : Int) ≥ 48))) ?_; intro a1724 hF1725; clear hF1723
    have hF1726 := hF1725.atom ((decide ((c1712.toNat : Int) ≥ 48)) == true) (by kernel_rfl); clear hF1725
    refine gp hF1726 80 0 [] (decide ((c1712.toNat : Int) ≥ 48)) (.int .u8 (c1712.toNat : Int)) rfl rfl ?_; intro a1727 hF1728; clear hF1726
    refine gp hF1728 81 0 [] (decide ((c1712.toNat : Int) ≥ 48)) (.bool (decide ((c1712.toNat : Int) ≤ 57))) rfl rfl ?_; intro a1729 hF1730; clear hF1728
    refine st hF1730 (.bool ((decide ((c1712.toNat : Int) ≥ 48)) && (decide ((c1712.toNat : Int) ≤ 57)))) (nog rfl _) rfl (by kernel_rfl) (pk_and hF1730 (g := []) (m := 0) (b := decide ((c1712.toNat : Int) ≥ 48)) (v := decide ((c1712.toNat : Int) ≤ 57)) rfl (by kernel_rfl) (by kernel_rfl) (by kernel_rfl) rfl) ?_; intro a1731 hF1732; clear hF1730
    refine s1 hF1732 76 (.bool ((decide ((c1712.toNat : Int) ≥ 48)) && (decide ((c1712.toNat : Int) ≤ 57)))) ?_; intro a1733 hF1734; clear hF1732
    refine nlH (hQ1719 _ _ ?_); clear hQ1719 hQ1719Q
    refine cd hF1734 (t := (decide ((c1712.toNat : Int) ≥ 48)) && (decide ((c1712.toNat : Int) ≤ 57))) (by kernel_rfl) (fun hb1735 => ?_) (fun hb1735 => ?_)
    ·
     have hp1736 := hp1714.1 hb1735; clear hp1714
     have hF1737 : Fr 124 [] [⟨0, [], .pointer (some ⟨b1, 0, none⟩)⟩, ⟨1, [], str u1⟩, ⟨2, [], .int .i64 2⟩, ⟨8, [], .bool false⟩, ⟨9, [], .slice aox9 x9.length capx9⟩, ⟨10, [], .int .i64 x10⟩, ⟨12, [], .int .u8 (c1712.toNat : Int)⟩] a1733 := hF1734.reg; clear hF1734
     refine rgH ?_; intro hQ1738Q hQ1738
     refine s1 hF1737 83 (.int .u8 (c1712.toNat : Int)) ?_; intro a1739 hF1740; clear hF1737
     refine s1 hF1740 84 (.int .u8 (w8 ((c1712.toNat : Int) - 48))) ?_; intro a1741 hF1742; clear hF1740
     refine s1 hF1742 85 (.int .i64 (w64 (w8 ((c1712.toNat : Int) - 48)))) ?_; intro a1743 hF1744; clear hF1742
     refine s1 hF1744 11 (.int .i64 (w64 (w8 ((c1712.toNat : Int) - 48)))) ?_; intro a1745 hF1746; clear hF1744
     refine nlH (hQ1738 _ _ ?_); clear hQ1738 hQ1738Q
     refine ibn ?_
     refine thn ?_
     refine wp_seq ?_
     refine sqH ?_; intro hQ1747Q hQ1747
     refine s1 hF1746 108 (.int .i64 (w64 (w8 ((c1712.toNat : Int) - 48)))) ?_; intro a1748 hF1749; clear hF1746
     refine s1 hF1749 109 (.int .i64 2) ?_; intro a1750 hF1751; clear hF1749
     refine s1 hF1751 110 (.bool (decide ((w64 (w8 ((c1712.toNat : Int) - 48))) ≥ 2))) ?_; intro a1752 hF1753; clear hF1751
     refine nlH (hQ1747 _ _ ?_); clear hQ1747 hQ1747Q
     refine cd hF1753 (t := decide ((w64 (w8 ((c1712.toNat : Int) - 48))) ≥ 2)) (by kernel_rfl) (fun hb1754 => ?_) (fun hb1754 => ?_)
     ·
      have hp1755 := hp1736.1 hb1754; clear hp1736
      refine sqH ?_; intro hQ1756Q hQ1756
      refine s1 hF1753 6 (.pointer none) ?_; intro a1757 hF1758; clear hF1753
      refine s1 hF1758 7 (.bool false) ?_; intro a1759 hF1760; clear hF1758
      refine nlH (hQ1756 _ _ ?_); clear hQ1756 hQ1756Q
      refine wp_ret ?_
      refine thr ?_
      refine ibr ?_
      refine thr ?_
      refine thr ?_
      refine ibr ?_
      refine thr ?_
      refine rt (fn := Tryd.f90) (v := .tuple #[.pointer none, .bool false]) hF1760 (re2 hF1760 (fn := Tryd.f90) rfl (by kernel_rfl) (by kernel_rfl)) ?_
      exact ⟨(false, false, u0), ao2, cap3, ZL1652, rfl, hp1755, hle0, hs1665, hM1663.keep (List.Sublist.cons_cons _ (List.Sublist.refl _))⟩
     ·
      have hp1761 := hp1736.2 hb1754; clear hp1736
      refine wp_skip ?_
      refine thn ?_
      refine rgH ?_; intro hQ1762Q hQ1762
      refine s1 hF1753 111 (.slice aox9 x9.length capx9) ?_; intro a1763 hF1764; clear hF1753
      refine s1 hF1764 112 (.int .i64 2) ?_; intro a1765 hF1766; clear hF1764
      refine s1 hF1766 113 (.int .u64 2) ?_; intro a1767 hF1768; clear hF1766
      have hc1769 := hp1761.1; have hp1770 := hp1761.2; clear hp1761
      refine cl hF1768 123 #[.int .u64 2] (nog rfl _) rfl (by kernel_rfl) (by kernel_rfl) ?_
      refine (gwords_fun 2 hc1769 _ _ hM1663.fz).mono ?_; rintro _ wd1771 ⟨ao1775, cap1776, Z1778, rfl, hs1777, hm⟩; refine ⟨_, rfl, ?_⟩; intro a1772 hF1773; have hM1774 := hM1663.callZ hm; have hle1779 := hm.ext.le; clear hm hM1663 hF1768
      replace hs1665 := hs1665.mono hle1779
      replace hsx9 := hsx9.mono hle1779
      replace hleL1652 := hleL1652.mono hle1779
      replace hle1701 := hle1701.mono hle1779
      replace hle0 := Fz.le.trans hle0 hle1779
      have hM1780 : Mem B [] w0 Z0 ((.row b1 [.bool u0.neg, .slice ao2 u0.abs.length cap3] 93) :: Rr) Z1778 wd1771 := hM1774; clear hM1774
      have hp1781 := hp1770 (hs1777.small); clear hp1770
      have hc1782 := hp1781.1; have hp1783 := hp1781.2; clear hp1781
      refine cl hF1773 122 #[.slice aox9 x9.length capx9, .slice ao1775 (gwordsS 2).length cap1776] (nog rfl _) rfl (by kernel_rfl) (by kernel_rfl) ?_
      refine (gmul_fun x9 (gwordsS 2) hc1782 aox9 capx9 ao1775 cap1776 _ _ hsx9 hs1777 hM1780.fz).mono ?_; rintro _ wd1784 ⟨ao1788, cap1789, Z1791, rfl, hs1790, hm⟩; refine ⟨_, rfl, ?_⟩; intro a1785 hF1786; have hM1787 := hM1780.callZ hm; have hle1792 := hm.ext.le; clear hm hM1780 hF1773
      replace hs1665 := hs1665.mono hle1792
      replace hsx9 := hsx9.mono hle1792
      replace hleL1652 := hleL1652.mono hle1792
      replace hle1701 := hle1701.mono hle1792
      replace hs1777 := hs1777.mono hle1792
      replace hle0 := Fz.le.trans hle0 hle1792
      have hM1793 : Mem B [] w0 Z0 ((.row b1 [.bool u0.neg, .slice ao2 u0.abs.length cap3] 93) :: Rr) Z1791 wd1784 := hM1787; clear hM1787
      have hp1794 := hp1783 (hs1790.small); clear hp1783
      refine s1 hF1786 116 (.int .i64 (w64 (w8 ((c1712.toNat : Int) - 48)))) ?_; intro a1795 hF1796; clear hF1786
      refine s1 hF1796 117 (.int .u64 (wu64 (w64 (w8 ((c1712.toNat : Int) - 48))))) ?_; intro a1797 hF1798; clear hF1796
      have hc1799 := hp1794.1; have hp1800 := hp1794.2; clear hp1794
      refine cl hF1798 123 #[.int .u64 (wu64 (w64 (w8 ((c1712.toNat : Int) - 48))))] (nog rfl _) rfl (by kernel_rfl) (by kernel_rfl) ?_
      refine (gwords_fun (wu64 (w64 (w8 ((c1712.toNat : Int) - 48)))) hc1799 _ _ hM1793.fz).mono ?_; rintro _ wd1801 ⟨ao1805, cap1806, Z1808, rfl, hs1807, hm⟩; refine ⟨_, rfl, ?_⟩; intro a1802 hF1803; have hM1804 := hM1793.callZ hm; have hle1809 := hm.ext.le; clear hm hM1793 hF1798
      replace hs1665 := hs1665.mono hle1809
      replace hsx9 := hsx9.mono hle1809
      replace hleL1652 := hleL1652.mono hle1809
      replace hle1701 := hle1701.mono hle1809
      replace hs1777 := hs1777.mono hle1809
      replace hs1790 := hs1790.mono hle1809
      replace hle0 := Fz.le.trans hle0 hle1809
      have hM1810 : Mem B [] w0 Z0 ((.row b1 [.bool u0.neg, .slice ao2 u0.abs.length cap3] 93) :: Rr) Z1808 wd1801 := hM1804; clear hM1804
      have hp1811 := hp1800 (hs1807.small); clear hp1800
      have hc1812 := hp1811.1; have hp1813 := hp1811.2; clear hp1811
      refine cl hF1803 121 #[.slice ao1788 (gmulS x9 (gwordsS 2)).length cap1789, .slice ao1805 (gwordsS (wu64 (w64 (w8 ((c1712.toNat : Int) - 48))))).length cap1806] (nog rfl _) rfl (by kernel_rfl) (by kernel_rfl) ?_
      refine (gadd_fun (gmulS x9 (gwordsS 2)) (gwordsS (wu64 (w64 (w8 ((c1712.toNat : Int) - 48))))) hc1812 ao1788 cap1789 ao1805 cap1806 _ _ hs1790 hs1807 hM1810.fz).mono ?_; rintro _ wd1814 ⟨ao1818, cap1819, Z1821, rfl, hs1820, hm⟩; refine ⟨_, rfl, ?_⟩; intro a1815 hF1816; have hM1817 := hM1810.callZ hm; have hle1822 := hm.ext.le; clear hm hM1810 hF1803
      replace hs1665 := hs1665.mono hle1822
      replace hsx9 := hsx9.mono hle1822
      replace hleL1652 := hleL1652.mono hle1822
      replace hle1701 := hle1701.mono hle1822
      replace hs1777 := hs1777.mono hle1822
      replace hs1790 := hs1790.mono hle1822
      replace hs1807 := hs1807.mono hle1822
      replace hle0 := Fz.le.trans hle0 hle1822
      have hM1823 : Mem B [] w0 Z0 ((.row b1 [.bool u0.neg, .slice ao2 u0.abs.length cap3] 93) :: Rr) Z1821 wd1814 := hM1817; clear hM1817
      have hp1824 := hp1813 (hs1820.small); clear hp1813
      refine s1 hF1816 9 (.slice ao1818 (gaddS (gmulS x9 (gwordsS 2)) (gwordsS (wu64 (w64 (w8 ((c1712.toNat : Int) - 48)))))).length cap1819) ?_; intro a1825 hF1826; clear hF1816
      refine nlH (hQ1762 _ _ ?_); clear hQ1762 hQ1762Q
      refine ibn ?_
      refine rd ?_
      exact hJ1684 (gaddS (gmulS x9 (gwordsS 2)) (gwordsS (wu64 (w64 (w8 ((c1712.toNat : Int) - 48)))))) ao1818 cap1819 Z1821 ⟨hp1824, hs1820, hle1701⟩ _ _ ((hF1826.reg).anyβ _ (by kernel_rfl)) (hM1823.keep (List.Sublist.cons_cons _ (List.Sublist.refl _)))
    ·
     have hp1827 := hp1714.2 hb1735; clear hp1714
     have hF1828 : Fr 124 [] [⟨0, [], .pointer (some ⟨b1, 0, none⟩)⟩, ⟨1, [], str u1⟩, ⟨2, [], .int .i64 2⟩, ⟨8, [], .bool false⟩, ⟨9, [], .slice aox9 x9.length capx9⟩, ⟨10, [], .int .i64 x10⟩, ⟨11, [], .int .i64 99⟩, ⟨12, [], .int .u8 (c1712.toNat : Int)⟩] a1733 := hF1734.reg; clear hF1734
     refine sqH ?_; intro hQ1829Q hQ1829
     refine s1 hF1828 87 (.int .u8 (c1712.toNat : Int)) ?_; intro a1830 hF1831; clear hF1828
     refine s1 hF1831 88 (.bool (decide ((c1712.toNat : Int) ≥ 97))) ?_; intro a1832 hF1833; clear hF1831
     refine s1 hF1833 89 (.bool (decide ((c1712.toNat : Int) ≥ 97))) ?_; intro a1834 hF1835; clear hF1833
     have hF1836 := hF1835.atom ((decide ((c1712.toNat : Int) ≥ 97)) == true) (by kernel_rfl); clear hF1835
     refine gp hF1836 90 0 [] (decide ((c1712.toNat : Int) ≥ 97)) (.int .u8 (c1712.toNat : Int)) rfl rfl ?_; intro a1837 hF1838; clear hF1836
     refine gp hF1838 91 0 [] (decide ((c1712.toNat : Int) ≥ 97)) (.bool (decide ((c1712.toNat : Int) ≤ 122))) rfl rfl ?_; intro a1839 hF1840; clear hF1838
     refine st hF1840 (.bool ((decide ((c1712.toNat : Int) ≥ 97)) && (decide ((c1712.toNat : Int) ≤ 122)))) (nog rfl _) rfl (by kernel_rfl) (pk_and hF1840 (g := []) (m := 0) (b := decide ((c1712.toNat : Int) ≥ 97)) (v := decide ((c1712.toNat : Int) ≤ 122)) rfl (by kernel_rfl) (by kernel_rfl) (by kernel_rfl) rfl) ?_; intro a1841 hF1842; clear hF1840
     refine s1 hF1842 86 (.bool ((decide ((c1712.toNat : Int) ≥ 97)) && (decide ((c1712.toNat : Int) ≤ 122)))) ?_; intro a1843 hF1844; clear hF1842
     refine nlH (hQ1829 _ _ ?_); clear hQ1829 hQ1829Q
     refine cd hF1844 (t := (decide ((c1712.toNat : Int) ≥ 97)) && (decide ((c1712.toNat : Int) ≤ 122))) (by kernel_rfl) (fun hb1845 => ?_) (fun hb1845 => ?_)
     ·
      have hp1846 := hp1827.1 hb1845; clear hp1827
      have hF1847 : Fr 124 [] [⟨0, [], .pointer (some ⟨b1, 0, none⟩)⟩, ⟨1, [], str u1⟩, ⟨2, [], .int .i64 2⟩, ⟨8, [], .bool false⟩, ⟨9, [], .slice aox9 x9.length capx9⟩, ⟨10, [], .int .i64 x10⟩, ⟨12, [], .int .u8 (c1712.toNat : Int)⟩] a1843 := hF1844.reg; clear hF1844
      refine rgH ?_; intro hQ1848Q hQ1848
      refine s1 hF1847 93 (.int .u8 (c1712.toNat : Int)) ?_; intro a1849 hF1850; clear hF1847
      refine s1 hF1850 94 (.int .u8 (w8 ((c1712.toNat : Int) - 97))) ?_; intro a1851 hF1852; clear hF1850
      refine s1 hF1852 95 (.int .i64 (w64 (w8 ((c1712.toNat : Int) - 97)))) ?_; intro a1853 hF1854; clear hF1852
      refine s1 hF1854 96 (.int .i64 (w64 ((w64 (w8 ((c1712.toNat : Int) - 97))) + 10))) ?_; intro a1855 hF1856; clear hF1854
      refine s1 hF1856 11 (.int .i64 (w64 ((w64 (w8 ((c1712.toNat : Int) - 97))) + 10))) ?_; intro a1857 hF1858; clear hF1856
      refine nlH (hQ1848 _ _ ?_); clear hQ1848 hQ1848Q
      refine ibn ?_
      refine thn ?_
      refine wp_seq ?_
      refine sqH ?_; intro hQ1859Q hQ1859
      refine s1 hF1858 108 (.int .i64 (w64 ((w64 (w8 ((c1712.toNat : Int) - 97))) + 10))) ?_; intro a1860 hF1861; clear hF1858
      refine s1 hF1861 109 (.int .i64 2) ?_; intro a1862 hF1863; clear hF1861
      refine s1 hF1863 110 (.bool (decide ((w64 ((w64 (w8 ((c1712.toNat : Int) - 97))) + 10)) ≥ 2))) ?_; intro a1864 hF1865; clear hF1863
      refine nlH (hQ1859 _ _ ?_); clear hQ1859 hQ1859Q
      refine cd hF1865 (t := decide ((w64 ((w64 (w8 ((c1712.toNat : Int) - 97))) + 10)) ≥ 2)) (by kernel_rfl) (fun hb1866 => ?_) (fun hb1866 => ?_)
      ·
       have hp1867 := hp1846.1 hb1866; clear hp1846
       refine sqH ?_; intro hQ1868Q hQ1868
       refine s1 hF1865 6 (.pointer none) ?_; intro a1869 hF1870; clear hF1865
       refine s1 hF1870 7 (.bool false) ?_; intro a1871 hF1872; clear hF1870
       refine nlH (hQ1868 _ _ ?_); clear hQ1868 hQ1868Q
       refine wp_ret ?_
       refine thr ?_
       refine ibr ?_
       refine thr ?_
       refine thr ?_
       refine ibr ?_
       refine thr ?_
       refine rt (fn := Tryd.f90) (v := .tuple #[.pointer none, .bool false]) hF1872 (re2 hF1872 (fn := Tryd.f90) rfl (by kernel_rfl) (by kernel_rfl)) ?_
       exact ⟨(false, false, u0), ao2, cap3, ZL1652, rfl, hp1867, hle0, hs1665, hM1663.keep (List.Sublist.cons_cons _ (List.Sublist.refl _))⟩
      ·
       have hp1873 := hp1846.2 hb1866; clear hp1846
       refine wp_skip ?_
       refine thn ?_
       refine rgH ?_; intro hQ1874Q hQ1874
       refine s1 hF1865 111 (.slice aox9 x9.length capx9) ?_; intro a1875 hF1876; clear hF1865
       refine s1 hF1876 112 (.int .i64 2) ?_; intro a1877 hF1878; clear hF1876
       refine s1 hF1878 113 (.int .u64 2) ?_; intro a1879 hF1880; clear hF1878
       have hc1881 := hp1873.1; have hp1882 := hp1873.2; clear hp1873
       refine cl hF1880 123 #[.int .u64 2] (nog rfl _) rfl (by kernel_rfl) (by kernel_rfl) ?_
       refine (gwords_fun 2 hc1881 _ _ hM1663.fz).mono ?_; rintro _ wd1883 ⟨ao1887, cap1888, Z1890, rfl, hs1889, hm⟩; refine ⟨_, rfl, ?_⟩; intro a1884 hF1885; have hM1886 := hM1663.callZ hm; have hle1891 := hm.ext.le; clear hm hM1663 hF1880
       replace hs1665 := hs1665.mono hle1891
       replace hsx9 := hsx9.mono hle1891
       replace hleL1652 := hleL1652.mono hle1891
       replace hle1701 := hle1701.mono hle1891
       replace hle0 := Fz.le.trans hle0 hle1891
       have hM1892 : Mem B [] w0 Z0 ((.row b1 [.bool u0.neg, .slice ao2 u0.abs.length cap3] 93) :: Rr) Z1890 wd1883 := hM1886; clear hM1886
       have hp1893 := hp1882 (hs1889.small); clear hp1882
       have hc1894 := hp1893.1; have hp1895 := hp1893.2; clear hp1893
       refine cl hF1885 122 #[.slice aox9 x9.length capx9, .slice ao1887 (gwordsS 2).length cap1888] (nog rfl _) rfl (by kernel_rfl) (by kernel_rfl) ?_
       refine (gmul_fun x9 (gwordsS 2) hc1894 aox9 capx9 ao1887 cap1888 _ _ hsx9 hs1889 hM1892.fz).mono ?_; rintro _ wd1896 ⟨ao1900, cap1901, Z1903, rfl, hs1902, hm⟩; refine ⟨_, rfl, ?_⟩; intro a1897 hF1898; have hM1899 := hM1892.callZ hm; have hle1904 := hm.ext.le; clear hm hM1892 hF1885
       replace hs1665 := hs1665.mono hle1904
       replace hsx9 := hsx9.mono hle1904
       replace hleL1652 := hleL1652.mono hle1904
       replace hle1701 := hle1701.mono hle1904
       replace hs1889 := hs1889.mono hle1904
       replace hle0 := Fz.le.trans hle0 hle1904
       have hM1905 : Mem B [] w0 Z0 ((.row b1 [.bool u0.neg, .slice ao2 u0.abs.length cap3] 93) :: Rr) Z1903 wd1896 := hM1899; clear hM1899
       have hp1906 := hp1895 (hs1902.small); clear hp1895
       refine s1 hF1898 116 (.int .i64 (w64 ((w64 (w8 ((c1712.toNat : Int) - 97))) + 10))) ?_; intro a1907 hF1908; clear hF1898
       refine s1 hF1908 117 (.int .u64 (wu64 (w64 ((w64 (w8 ((c1712.toNat : Int) - 97))) + 10)))) ?_; intro a1909 hF1910; clear hF1908
       have hc1911 := hp1906.1; have hp1912 := hp1906.2; clear hp1906
       refine cl hF1910 123 #[.int .u64 (wu64 (w64 ((w64 (w8 ((c1712.toNat : Int) - 97))) + 10)))] (nog rfl _) rfl (by kernel_rfl) (by kernel_rfl) ?_
       refine (gwords_fun (wu64 (w64 ((w64 (w8 ((c1712.toNat : Int) - 97))) + 10))) hc1911 _ _ hM1905.fz).mono ?_; rintro _ wd1913 ⟨ao1917, cap1918, Z1920, rfl, hs1919, hm⟩; refine ⟨_, rfl, ?_⟩; intro a1914 hF1915; have hM1916 := hM1905.callZ hm; have hle1921 := hm.ext.le; clear hm hM1905 hF1910
       replace hs1665 := hs1665.mono hle1921
       replace hsx9 := hsx9.mono hle1921
       replace hleL1652 := hleL1652.mono hle1921
       replace hle1701 := hle1701.mono hle1921
       replace hs1889 := hs1889.mono hle1921
       replace hs1902 := hs1902.mono hle1921
       replace hle0 := Fz.le.trans hle0 hle1921
       have hM1922 : Mem B [] w0 Z0 ((.row b1 [.bool u0.neg, .slice ao2 u0.abs.length cap3] 93) :: Rr) Z1920 wd1913 := hM1916; clear hM1916
       have hp1923 := hp1912 (hs1919.small); clear hp1912
       have hc1924 := hp1923.1; have hp1925 := hp1923.2; clear hp1923
       refine cl hF1915 121 #[.slice ao1900 (gmulS x9 (gwordsS 2)).length cap1901, .slice ao1917 (gwordsS (wu64 (w64 ((w64 (w8 ((c1712.toNat : Int) - 97))) + 10)))).length cap1918] (nog rfl _) rfl (by kernel_rfl) (by kernel_rfl) ?_
       refine (gadd_fun (gmulS x9 (gwordsS 2)) (gwordsS (wu64 (w64 ((w64 (w8 ((c1712.toNat : Int) - 97))) + 10)))) hc1924 ao1900 cap1901 ao1917 cap1918 _ _ hs1902 hs1919 hM1922.fz).mono ?_; rintro _ wd1926 ⟨ao1930, cap1931, Z1933, rfl, hs1932, hm⟩; refine ⟨_, rfl, ?_⟩; intro a1927 hF1928; have hM1929 := hM1922.callZ hm; have hle1934 := hm.ext.le; clear hm hM1922 hF1915
       replace hs1665 := hs1665.mono hle1934
       replace hsx9 := hsx9.mono hle1934
       replace hleL1652 := hleL1652.mono hle1934
       replace hle1701 := hle1701.mono hle1934
       replace hs1889 := hs1889.mono hle1934
       replace hs1902 := hs1902.mono hle1934
       replace hs1919 := hs1919.mono hle1934
       replace hle0 := Fz.le.trans hle0 hle1934
       have hM1935 : Mem B [] w0 Z0 ((.row b1 [.bool u0.neg, .slice ao2 u0.abs.length cap3] 93) :: Rr) Z1933 wd1926 := hM1929; clear hM1929
       have hp1936 := hp1925 (hs1932.small); clear hp1925
       refine s1 hF1928 9 (.slice ao1930 (gaddS (gmulS x9 (gwordsS 2)) (gwordsS (wu64 (w64 ((w64 (w8 ((c1712.toNat : Int) - 97))) + 10))))).length cap1931) ?_; intro a1937 hF1938; clear hF1928
       refine nlH (hQ1874 _ _ ?_); clear hQ1874 hQ1874Q
       refine ibn ?_
       refine rd ?_
       exact hJ1684 (gaddS (gmulS x9 (gwordsS 2)) (gwordsS (wu64 (w64 ((w64 (w8 ((c1712.toNat : Int) - 97))) + 10))))) ao1930 cap1931 Z1933 ⟨hp1936, hs1932, hle1701⟩ _ _ ((hF1938.reg).anyβ _ (by kernel_rfl)) (hM1935.keep (List.Sublist.cons_cons _ (List.Sublist.refl _)))
     ·
      have hp1939 := hp1827.2 hb1845; clear hp1827
      have hF1940 : Fr 124 [] [⟨0, [], .pointer (some ⟨b1, 0, none⟩)⟩, ⟨1, [], str u1⟩, ⟨2, [], .int .i64 2⟩, ⟨8, [], .bool false⟩, ⟨9, [], .slice aox9 x9.length capx9⟩, ⟨10, [], .int .i64 x10⟩, ⟨11, [], .int .i64 99⟩, ⟨12, [], .int .u8 (c1712.toNat : Int)⟩] a1843 := hF1844.reg; clear hF1844
      refine sqH ?_; intro hQ1941Q hQ1941
      refine s1 hF1940 98 (.int .u8 (c1712.toNat : Int)) ?_; intro a1942 hF1943; clear hF1940
      refine s1 hF1943 99 (.bool (decide ((c1712.toNat : Int) ≥ 65))) ?_; intro a1944 hF1945; clear hF1943
      refine s1 hF1945 100 (.bool (decide ((c1712.toNat : Int) ≥ 65))) ?_; intro a1946 hF1947; clear hF1945
      have hF1948 := hF1947.atom ((decide ((c1712.toNat : Int) ≥ 65)) == true) (by kernel_rfl); clear hF1947
      refine gp hF1948 101 0 [] (decide ((c1712.toNat : Int) ≥ 65)) (.int .u8 (c1712.toNat : Int)) rfl rfl ?_; intro a1949 hF1950; clear hF1948
      refine gp hF1950 102 0 [] (decide ((c1712.toNat : Int) ≥ 65)) (.bool (decide ((c1712.toNat : Int) ≤ 90))) rfl rfl ?_; intro a1951 hF1952; clear hF1950
      refine st hF1952 (.bool ((decide ((c1712.toNat : Int) ≥ 65)) && (decide ((c1712.toNat : Int) ≤ 90)))) (nog rfl _) rfl (by kernel_rfl) (pk_and hF1952 (g := []) (m := 0) (b := decide ((c1712.toNat : Int) ≥ 65)) (v := decide ((c1712.toNat : Int) ≤ 90)) rfl (by kernel_rfl) (by kernel_rfl) (by kernel_rfl) rfl) ?_; intro a1953 hF1954; clear hF1952
      refine s1 hF1954 97 (.bool ((decide ((c1712.toNat : Int) ≥ 65)) && (decide ((c1712.toNat : Int) ≤ 90)))) ?_; intro a1955 hF1956; clear hF1954
      refine nlH (hQ1941 _ _ ?_); clear hQ1941 hQ1941Q
      refine cd hF1956 (t := (decide ((c1712.toNat : Int) ≥ 65)) && (decide ((c1712.toNat : Int) ≤ 90))) (by kernel_rfl) (fun hb1957 => ?_) (fun hb1957 => ?_)
      ·
       have hp1958 := hp1939.1 hb1957; clear hp1939
       have hF1959 : Fr 124 [] [⟨0, [], .pointer (some ⟨b1, 0, none⟩)⟩, ⟨1, [], str u1⟩, ⟨2, [], .int .i64 2⟩, ⟨8, [], .bool false⟩, ⟨9, [], .slice aox9 x9.length capx9⟩, ⟨10, [], .int .i64 x10⟩, ⟨12, [], .int .u8 (c1712.toNat : Int)⟩] a1955 := hF1956.reg; clear hF1956
       refine rgH ?_; intro hQ1960Q hQ1960
       refine s1 hF1959 104 (.int .u8 (c1712.toNat : Int)) ?_; intro a1961 hF1962; clear hF1959
       refine s1 hF1962 105 (.int .u8 (w8 ((c1712.toNat : Int) - 65))) ?_; intro a1963 hF1964; clear hF1962
       refine s1 hF1964 106 (.int .i64 (w64 (w8 ((c1712.toNat : Int) - 65)))) ?_; intro a1965 hF1966; clear hF1964
       refine s1 hF1966 107 (.int .i64 (w64 ((w64 (w8 ((c1712.toNat : Int) - 65))) + 10))) ?_; intro a1967 hF1968; clear hF1966
       refine s1 hF1968 11 (.int .i64 (w64 ((w64 (w8 ((c1712.toNat : Int) - 65))) + 10))) ?_; intro a1969 hF1970; clear hF1968
       refine nlH (hQ1960 _ _ ?_); clear hQ1960 hQ1960Q
       refine ibn ?_
       refine thn ?_
       refine wp_seq ?_
       refine sqH ?_; intro hQ1971Q hQ1971
       refine s1 hF1970 108 (.int .i64 (w64 ((w64 (w8 ((c1712.toNat : Int) - 65))) + 10))) ?_; intro a1972 hF1973; clear hF1970
       refine s1 hF1973 109 (.int .i64 2) ?_; intro a1974 hF1975; clear hF1973
       refine s1 hF1975 110 (.bool (decide ((w64 ((w64 (w8 ((c1712.toNat : Int) - 65))) + 10)) ≥ 2))) ?_; intro a1976 hF1977; clear hF1975
       refine nlH (hQ1971 _ _ ?_); clear hQ1971 hQ1971Q
       refine cd hF1977 (t := decide ((w64 ((w64 (w8 ((c1712.toNat : Int) - 65))) + 10)) ≥ 2)) (by kernel_rfl) (fun hb1978 => ?_) (fun hb1978 => ?_)
       ·
        have hp1979 := hp1958.1 hb1978; clear hp1958
        refine sqH ?_; intro hQ1980Q hQ1980
        refine s1 hF1977 6 (.pointer none) ?_; intro a1981 hF1982; clear hF1977
        refine s1 hF1982 7 (.bool false) ?_; intro a1983 hF1984; clear hF1982
        refine nlH (hQ1980 _ _ ?_); clear hQ1980 hQ1980Q
        refine wp_ret ?_
        refine thr ?_
        refine ibr ?_
        refine thr ?_
        refine thr ?_
        refine ibr ?_
        refine thr ?_
        refine rt (fn := Tryd.f90) (v := .tuple #[.pointer none, .bool false]) hF1984 (re2 hF1984 (fn := Tryd.f90) rfl (by kernel_rfl) (by kernel_rfl)) ?_
        exact ⟨(false, false, u0), ao2, cap3, ZL1652, rfl, hp1979, hle0, hs1665, hM1663.keep (List.Sublist.cons_cons _ (List.Sublist.refl _))⟩
       ·
        have hp1985 := hp1958.2 hb1978; clear hp1958
        refine wp_skip ?_
        refine thn ?_
        refine rgH ?_; intro hQ1986Q hQ1986
        refine s1 hF1977 111 (.slice aox9 x9.length capx9) ?_; intro a1987 hF1988; clear hF1977
        refine s1 hF1988 112 (.int .i64 2) ?_; intro a1989 hF1990; clear hF1988
        refine s1 hF1990 113 (.int .u64 2) ?_; intro a1991 hF1992; clear hF1990
        have hc1993 := hp1985.1; have hp1994 := hp1985.2; clear hp1985
        refine cl hF1992 123 #[.int .u64 2] (nog rfl _) rfl (by kernel_rfl) (by kernel_rfl) ?_
        refine (gwords_fun 2 hc1993 _ _ hM1663.fz).mono ?_; rintro _ wd1995 ⟨ao1999, cap2000, Z2002, rfl, hs2001, hm⟩; refine ⟨_, rfl, ?_⟩; intro a1996 hF1997; have hM1998 := hM1663.callZ hm; have hle2003 := hm.ext.le; clear hm hM1663 hF1992
        replace hs1665 := hs1665.mono hle2003
        replace hsx9 := hsx9.mono hle2003
        replace hleL1652 := hleL1652.mono hle2003
        replace hle1701 := hle1701.mono hle2003
        replace hle0 := Fz.le.trans hle0 hle2003
        have hM2004 : Mem B [] w0 Z0 ((.row b1 [.bool u0.neg, .slice ao2 u0.abs.length cap3] 93) :: Rr) Z2002 wd1995 := hM1998; clear hM1998
        have hp2005 := hp1994 (hs2001.small); clear hp1994
        have hc2006 := hp2005.1; have hp2007 := hp2005.2; clear hp2005
        refine cl hF1997 122 #[.slice aox9 x9.length capx9, .slice ao1999 (gwordsS 2).length cap2000] (nog rfl _) rfl (by kernel_rfl) (by kernel_rfl) ?_
        refine (gmul_fun x9 (gwordsS 2) hc2006 aox9 capx9 ao1999 cap2000 _ _ hsx9 hs2001 hM2004.fz).mono ?_; rintro _ wd2008 ⟨ao2012, cap2013, Z2015, rfl, hs2014, hm⟩; refine ⟨_, rfl, ?_⟩; intro a2009 hF2010; have hM2011 := hM2004.callZ hm; have hle2016 := hm.ext.le; clear hm hM2004 hF1997
        replace hs1665 := hs1665.mono hle2016
        replace hsx9 := hsx9.mono hle2016
        replace hleL1652 := hleL1652.mono hle2016
        replace hle1701 := hle1701.mono hle2016
        replace hs2001 := hs2001.mono hle2016
        replace hle0 := Fz.le.trans hle0 hle2016
        have hM2017 : Mem B [] w0 Z0 ((.row b1 [.bool u0.neg, .slice ao2 u0.abs.length cap3] 93) :: Rr) Z2015 wd2008 := hM2011; clear hM2011
        have hp2018 := hp2007 (hs2014.small); clear hp2007
        refine s1 hF2010 116 (.int .i64 (w64 ((w64 (w8 ((c1712.toNat : Int) - 65))) + 10))) ?_; intro a2019 hF2020; clear hF2010
        refine s1 hF2020 117 (.int .u64 (wu64 (w64 ((w64 (w8 ((c1712.toNat : Int) - 65))) + 10)))) ?_; intro a2021 hF2022; clear hF2020
        have hc2023 := hp2018.1; have hp2024 := hp2018.2; clear hp2018
        refine cl hF2022 123 #[.int .u64 (wu64 (w64 ((w64 (w8 ((c1712.toNat : Int) - 65))) + 10)))] (nog rfl _) rfl (by kernel_rfl) (by kernel_rfl) ?_
        refine (gwords_fun (wu64 (w64 ((w64 (w8 ((c1712.toNat : Int) - 65))) + 10))) hc2023 _ _ hM2017.fz).mono ?_; rintro _ wd2025 ⟨ao2029, cap2030, Z2032, rfl, hs2031, hm⟩; refine ⟨_, rfl, ?_⟩; intro a2026 hF2027; have hM2028 := hM2017.callZ hm; have hle2033 := hm.ext.le; clear hm hM2017 hF2022
        replace hs1665 := hs1665.mono hle2033
        replace hsx9 := hsx9.mono hle2033
        replace hleL1652 := hleL1652.mono hle2033
        replace hle1701 := hle1701.mono hle2033
        replace hs2001 := hs2001.mono hle2033
        replace hs2014 := hs2014.mono hle2033
        replace hle0 := Fz.le.trans hle0 hle2033
        have hM2034 : Mem B [] w0 Z0 ((.row b1 [.bool u0.neg, .slice ao2 u0.abs.length cap3] 93) :: Rr) Z2032 wd2025 := hM2028; clear hM2028
        have hp2035 := hp2024 (hs2031.small); clear hp2024
        have hc2036 := hp2035.1; have hp2037 := hp2035.2; clear hp2035
        refine cl hF2027 121 #[.slice ao2012 (gmulS x9 (gwordsS 2)).length cap2013, .slice ao2029 (gwordsS (wu64 (w64 ((w64 (w8 ((c1712.toNat : Int) - 65))) + 10)))).length cap2030] (nog rfl _) rfl (by kernel_rfl) (by kernel_rfl) ?_
        refine (gadd_fun (gmulS x9 (gwordsS 2)) (gwordsS (wu64 (w64 ((w64 (w8 ((c1712.toNat : Int) - 65))) + 10)))) hc2036 ao2012 cap2013 ao2029 cap2030 _ _ hs2014 hs2031 hM2034.fz).mono ?_; rintro _ wd2038 ⟨ao2042, cap2043, Z2045, rfl, hs2044, hm⟩; refine ⟨_, rfl, ?_⟩; intro a2039 hF2040; have hM2041 := hM2034.callZ hm; have hle2046 := hm.ext.le; clear hm hM2034 hF2027
        replace hs1665 := hs1665.mono hle2046
        replace hsx9 := hsx9.mono hle2046
        replace hleL1652 := hleL1652.mono hle2046
        replace hle1701 := hle1701.mono hle2046
        replace hs2001 := hs2001.mono hle2046
        replace hs2014 := hs2014.mono hle2046
        replace hs2031 := hs2031.mono hle2046
        replace hle0 := Fz.le.trans hle0 hle2046
        have hM2047 : Mem B [] w0 Z0 ((.row b1 [.bool u0.neg, .slice ao2 u0.abs.length cap3] 93) :: Rr) Z2045 wd2038 := hM2041; clear hM2041
        have hp2048 := hp2037 (hs2044.small); clear hp2037
        refine s1 hF2040 9 (.slice ao2042 (gaddS (gmulS x9 (gwordsS 2)) (gwordsS (wu64 (w64 ((w64 (w8 ((c1712.toNat : Int) - 65))) + 10))))).length cap2043) ?_; intro a2049 hF2050; clear hF2040
        refine nlH (hQ1986 _ _ ?_); clear hQ1986 hQ1986Q
        refine ibn ?_
        refine rd ?_
        exact hJ1684 (gaddS (gmulS x9 (gwordsS 2)) (gwordsS (wu64 (w64 ((w64 (w8 ((c1712.toNat : Int) - 65))) + 10))))) ao2042 cap2043 Z2045 ⟨hp2048, hs2044, hle1701⟩ _ _ ((hF2050.reg).anyβ _ (by kernel_rfl)) (hM2047.keep (List.Sublist.cons_cons _ (List.Sublist.refl _)))
      ·
       have hp2051 := hp1939.2 hb1957; clear hp1939
       refine wp_skip ?_
       refine ibn ?_
       refine thn ?_
       refine wp_seq ?_
       have hF2052 : Fr 124 [] [⟨0, [], .pointer (some ⟨b1, 0, none⟩)⟩, ⟨1, [], str u1⟩, ⟨2, [], .int .i64 2⟩, ⟨8, [], .bool false⟩, ⟨9, [], .slice aox9 x9.length capx9⟩, ⟨10, [], .int .i64 x10⟩, ⟨11, [], .int .i64 99⟩] a1955 := hF1956.reg; clear hF1956
       refine sqH ?_; intro hQ2053Q hQ2053
       refine s1 hF2052 108 (.int .i64 99) ?_; intro a2054 hF2055; clear hF2052
       refine s1 hF2055 109 (.int .i64 2) ?_; intro a2056 hF2057; clear hF2055
       refine s1 hF2057 110 (.bool true) ?_; intro a2058 hF2059; clear hF2057
       refine nlH (hQ2053 _ _ ?_); clear hQ2053 hQ2053Q
       refine cdT hF2059 (by kernel_rfl) ?_
       refine sqH ?_; intro hQ2060Q hQ2060
       refine s1 hF2059 6 (.pointer none) ?_; intro a2061 hF2062; clear hF2059
       refine s1 hF2062 7 (.bool false) ?_; intro a2063 hF2064; clear hF2062
       refine nlH (hQ2060 _ _ ?_); clear hQ2060 hQ2060Q
       refine wp_ret ?_
       refine thr ?_
       refine ibr ?_
       refine thr ?_
       refine thr ?_
       refine ibr ?_
       refine thr ?_
       refine rt (fn := Tryd.f90) (v := .tuple #[.pointer none, .bool false]) hF2064 (re2 hF2064 (fn := Tryd.f90) rfl (by kernel_rfl) (by kernel_rfl)) ?_
       exact ⟨(false, false, u0), ao2, cap3, ZL1652, rfl, hp2051, hle0, hs1665, hM1663.keep (List.Sublist.cons_cons _ (List.Sublist.refl _))⟩
   ·
    have hp2065 := hp1664.2 hb1675; clear hp1664
    refine wp_exit ?_
    refine thx ?_
    refine thx ?_
    refine ibx ?_
    refine thn ?_
    refine sqH ?_; intro hQ2066Q hQ2066
    refine s1 hF1674 120 (.pointer (some ⟨b1, 0, none⟩)) ?_; intro a2067 hF2068; clear hF1674
    refine s1 hF2068 121 (.bool false) ?_; intro a2069 hF2070; clear hF2068
    refine s1 hF2070 122 (.slice aox9 x9.length capx9) ?_; intro a2071 hF2072; clear hF2070
    refine cl hF2072 91 #[.pointer (some ⟨b1, 0, none⟩), .bool false, .slice aox9 x9.length capx9] (nog rfl _) rfl (by kernel_rfl) (by kernel_rfl) ?_
    obtain ⟨r2077, hr2078⟩ : ∃ x, (ggive u0 false x9) = x := ⟨_, rfl⟩; have hp2079 := hp2065 r2077 hr2078; clear hp2065
    have h9 := ggive_fun u0 false x9 b1 ao2 cap3 aox9 capx9 _ _ _ _ _ _ hs1665 hsx9 hM1663 hM1663.fz; rw [hr2078] at h9; refine h9.mono ?_; clear h9; rintro _ wd2073 ⟨ao2081, cap2082, Z2084, rfl, hle2085, hs2083, hm⟩; refine ⟨_, rfl, ?_⟩; intro a2074 hF2075; have hM2076 := hm; clear hm hM1663 hF2072
    replace hs1665 := hs1665.mono hle2085
    replace hsx9 := hsx9.mono hle2085
    replace hleL1652 := hleL1652.mono hle2085
    replace hle0 := Fz.le.trans hle0 hle2085
    have hM2086 : Mem B [] w0 Z0 ((.row b1 [.bool r2077.neg, .slice ao2081 r2077.abs.length cap2082] 93) :: Rr) Z2084 wd2073 := hM2076; clear hM2076
    have hp2087 := hp2079 (hs2083.small); clear hp2079
    refine s1 hF2075 6 (.pointer (some ⟨b1, 0, none⟩)) ?_; intro a2088 hF2089; clear hF2075
    refine s1 hF2089 7 (.bool true) ?_; intro a2090 hF2091; clear hF2089
    refine nlH (hQ2066 _ _ ?_); clear hQ2066 hQ2066Q
    refine wp_ret ?_
    refine rt (fn := Tryd.f90) (v := .tuple #[.pointer (some ⟨b1, 0, none⟩), .bool true]) hF2091 (re2 hF2091 (fn := Tryd.f90) rfl (by kernel_rfl) (by kernel_rfl)) ?_
    exact ⟨(true, true, r2077), ao2081, cap2082, Z2084, rfl, hp2087, hle0, hs2083, hM2086.keep (List.Sublist.cons_cons _ (List.Sublist.refl _))⟩

set_option maxRecDepth 100000 in
set_option maxHeartbeats 0 in
theorem gset_walk (u0 : BInt) (b1 : Nat) (ao2 : Option Addr) (cap3 : Nat) (B : Nat) (w0 : World) (Z0 : Fz) (Rr : List Res) (Z : Fz) (w : World) (hs4 : SlR (tyInt .u32) Z ao2 cap3 u0.abs) (hM0 : Mem B [] w0 Z0 ((.row b1 [.bool u0.neg, .slice ao2 u0.abs.length cap3] 93) :: Rr) Z w) (hZ : Z.on w) {K : BInt → Prop} (hp : gset_vc u0 K) : Calls Tryd.prog 96 #[.pointer (some ⟨b1, 0, none⟩), .pointer (some ⟨b1, 0, none⟩)] w fun e w' => ∃ (r : BInt) (ao1001 : Option Addr) (cap1002 : Nat) (Z' : Fz), e = .returned (.pointer (some ⟨b1, 0, none⟩)) ∧ K r ∧ Fz.le Z Z' ∧ SlR (tyInt .u32) Z' ao1001 cap1002 r.abs ∧ Mem B [] w0 Z0 ((.row b1 [.bool r.neg, .slice ao1001 r.abs.length cap1002] 93) :: Rr) Z' w' := by
 refine enter0 Tryd.func96 rfl rfl (by kernel_rfl) ?_; intro a0 hF0; have hle0 := Fz.le.refl Z
 have hp5 := hp (hs4.small); clear hp
 refine sqH ?_; intro hQ6Q hQ6
 refine s1 hF0 4 (.pointer none) ?_; intro a7 hF8; clear hF0
 refine nlH (hQ6 _ _ ?_); clear hQ6 hQ6Q
 have hF9 : Fr 16 [] [⟨0, [], .pointer (some ⟨b1, 0, none⟩)⟩, ⟨1, [], .pointer (some ⟨b1, 0, none⟩)⟩] a7 := hF8.reg; clear hF8
 have hcd9_0 := hp5.1; have hp54 := hp5.2; clear hp5
 refine wp_seq (any_invE mixed [[], [], [1], [2], [3], [], [5], [6], [7], [8], [0, 4, 9], [0, 1, 2, 3, 4, 5, 6, 7, 8, 9, 10]] 12 (fun S a w1 => ∃ (ao32 : Option Addr) (cap33 : Nat) (ao46 : Option Addr) (cap47 : Nat) (ud4 : Value) (ud5 : Value) (ud6 : Value) (ud7 : Value) (ud8 : Value) (ud9 : Value) (ud10 : Value) (ud11 : Value) (ud12 : Value) (ud13 : Value) (ud14 : Value) (ud15 : Value) (rh0 : Res) (rh1 : Res) (Z55 : Fz), Fz.le Z Z55 ∧ Fr 16 [] [⟨0, [], .pointer (some ⟨b1, 0, none⟩)⟩, ⟨1, [], .pointer (some ⟨b1, 0, none⟩)⟩, ⟨4, [], ud4⟩, ⟨5, [], ud5⟩, ⟨6, [], ud6⟩, ⟨7, [], ud7⟩, ⟨8, [], ud8⟩, ⟨9, [], ud9⟩, ⟨10, [], ud10⟩, ⟨11, [], ud11⟩, ⟨12, [], ud12⟩, ⟨13, [], ud13⟩, ⟨14, [], ud14⟩, ⟨15, [], ud15⟩] a ∧ Mem B [] w0 Z0 (rh0 :: rh1 :: Rr) Z55 w1 ∧ (S 11 = true → ud4 = .pointer (some ⟨b1, 0, none⟩)) ∧ (S 0 = true → ud5 = .pointer (some ⟨b1, 0, none⟩)) ∧ (S 1 = true → ud6 = .pointer (some ⟨b1, 0, none⟩)) ∧ (S 2 = true → ud7 = .pointer (some ⟨b1, 0, none⟩)) ∧ (S 3 = true → ud8 = .pointer (some ⟨b1, 0, none⟩)) ∧ (S 4 = true → ud9 = .bool u0.neg) ∧ (S 5 = true → ud10 = .pointer (some ⟨b1, 0, none⟩)) ∧ (S 6 = true → ud11 = .pointer (some ⟨b1, 0, none⟩)) ∧ (S 7 = true → ud12 = .pointer (some ⟨b1, 1, none⟩)) ∧ (S 8 = true → ud13 = .slice ao2 u0.abs.length cap3) ∧ (S 9 = true → ud14 = .slice ao32 (gtwinS u0.abs).length cap33) ∧ (S 10 = true → ud15 = .pointer (some ⟨b1, 0, none⟩)) ∧ (S 10 = false → rh0 = .row b1 [.bool u0.neg, .slice ao2 u0.abs.length cap3] 93) ∧ (S 10 = true → rh0 = .nil) ∧ (S 9 = false → rh1 = .nil) ∧ (S 9 = true → S 10 = false → rh1 = .own (tyInt .u32) 130 ao32 cap33 (gtwinS u0.abs)) ∧ (S 10 = true → rh1 = .row b1 [.bool ((ggive u0 u0.neg (gtwinS u0.abs)).neg), .slice ao46 ((ggive u0 u0.neg (gtwinS u0.abs)).abs).length cap47] 93) ∧ (S 10 = true → SlR (tyInt .u32) Z55 ao32 cap33 (gtwinS u0.abs)) ∧ (S 10 = true → SlR (tyInt .u32) Z55 ao46 cap47 ((ggive u0 u0.neg (gtwinS u0.abs)).abs))) ?h0 ?hs ?hE)
 case h0 =>
  have hF57 := hF9.any 4
  have hF58 := hF57.any 5
  have hF59 := hF58.any 6
  have hF60 := hF59.any 7
  have hF61 := hF60.any 8
  have hF62 := hF61.any 9
  have hF63 := hF62.any 10
  have hF64 := hF63.any 11
  have hF65 := hF64.any 12
  have hF66 := hF65.any 13
  have hF67 := hF66.any 14
  have hF68 := hF67.any 15
  have hM69 := hM0.nilRes
  have hM70 := (hM69.perm ((pk 1 rfl).trans (lpr.cons _))).drew
  exact ⟨none, 0, none, 0, a7.tmps.getD 4 undef, a7.tmps.getD 5 undef, a7.tmps.getD 6 undef, a7.tmps.getD 7 undef, a7.tmps.getD 8 undef, a7.tmps.getD 9 undef, a7.tmps.getD 10 undef, a7.tmps.getD 11 undef, a7.tmps.getD 12 undef, a7.tmps.getD 13 undef, a7.tmps.getD 14 undef, a7.tmps.getD 15 undef, .row b1 [.bool u0.neg, .slice ao2 u0.abs.length cap3] 93, .nil, Z, Fz.le.refl _, hF68.reg, hM70, ff, ff, ff, ff, ff, ff, ff, ff, ff, ff, ff, ff, kf, ff, kf, ff, ff, ff, ff⟩
 case hs =>
  intro S hcl i o hil hi hSi hpre a w1 hI; refine Go.Sy.hid ?_; intro G hG; obtain ⟨ao32, cap33, ao46, cap47, ud4, ud5, ud6, ud7, ud8, ud9, ud10, ud11, ud12, ud13, ud14, ud15, rh0, rh1, Z55, hle56, hFx, hMx, cu4, cu5, cu6, cu7, cu8, cu9, cu10, cu11, cu12, cu13, cu14, cu15, cr0_0, cr0_1, cr1_0, cr1_1, cr1_2, cf0, hI⟩ := hI; have cf1 := hI; clear hI
  have hcase : i = 0 ∨ i = 1 ∨ i = 2 ∨ i = 3 ∨ i = 4 ∨ i = 5 ∨ i = 6 ∨ i = 7 ∨ i = 8 ∨ i = 9 ∨ i = 10 ∨ i = 11 := by clear hi; omega
  rcases hcase with rfl | rfl | rfl | rfl | rfl | rfl | rfl | rfl | rfl | rfl | rfl | rfl
  ·
   obtain rfl := oj hi
   have hx0 := hSi
   have hx10 := ngF hcl 10 0 hx0
   have hx11 := ngF hcl 11 0 hx0
   obtain rfl := cr0_0 hx10
   refine hG (any_step ?_); clear hG G; intro A J hJ
   have hle0 := Fz.le.trans hle0 hle56
   have hzst := Fz.le.refl Z55
   have hs71 := hs4.mono hle56
   refine s1 hFx 5 (.pointer (some ⟨b1, 0, none⟩)) ?_; intro a72 hF73; clear hFx
   refine nl (qnI (hJ _ _ ?_)); clear hJ J
   exact ⟨ao32, cap33, ao46, cap47, ud4, .pointer (some ⟨b1, 0, none⟩), ud6, ud7, ud8, ud9, ud10, ud11, ud12, ud13, ud14, ud15, .row b1 [.bool u0.neg, .slice ao2 u0.abs.length cap3] 93, rh1, Z55, hle56, hF73.reg, hMx.perm lpr, (nt hx11), kf, cu6, cu7, cu8, cu9, cu10, cu11, cu12, cu13, cu14, (nt hx10), kf, (nt hx10), cr1_0, cr1_1, (nt hx10), (nt hx10), (nt hx10)⟩
  ·
   obtain rfl := oj hi
   have hx1 := hSi
   have hx2 := ngF hcl 2 1 hx1
   have hx3 := ngF hcl 3 2 hx2
   have hx4 := ngF hcl 4 3 hx3
   have hx10 := ngF hcl 10 4 hx4
   have hx11 := ngF hcl 11 1 hx1
   obtain rfl := cr0_0 hx10
   refine hG (any_step ?_); clear hG G; intro A J hJ
   have hle0 := Fz.le.trans hle0 hle56
   have hzst := Fz.le.refl Z55
   have hs75 := hs4.mono hle56
   refine s1 hFx 6 (.pointer (some ⟨b1, 0, none⟩)) ?_; intro a76 hF77; clear hFx
   refine nl (qnI (hJ _ _ ?_)); clear hJ J
   exact ⟨ao32, cap33, ao46, cap47, ud4, ud5, .pointer (some ⟨b1, 0, none⟩), ud7, ud8, ud9, ud10, ud11, ud12, ud13, ud14, ud15, .row b1 [.bool u0.neg, .slice ao2 u0.abs.length cap3] 93, rh1, Z55, hle56, hF77.reg, hMx.perm lpr, (nt hx11), cu5, kf, (nt hx2), (nt hx3), (nt hx4), cu10, cu11, cu12, cu13, cu14, (nt hx10), kf, (nt hx10), cr1_0, cr1_1, (nt hx10), (nt hx10), (nt hx10)⟩
  ·
   obtain rfl := oj hi
   have hx1 := hpre 1 (by kernel_rfl)
   have hx2 := hSi
   have hx3 := ngF hcl 3 2 hx2
   have hx4 := ngF hcl 4 3 hx3
   have hx10 := ngF hcl 10 4 hx4
   have hx11 := ngF hcl 11 2 hx2
   obtain rfl := cu6 hx1
   obtain rfl := cr0_0 hx10
   refine hG (any_step ?_); clear hG G; intro A J hJ
   have hle0 := Fz.le.trans hle0 hle56
   have hzst := Fz.le.refl Z55
   have hs79 := hs4.mono hle56
   refine s1 hFx 7 (.pointer (some ⟨b1, 0, none⟩)) ?_; intro a80 hF81; clear hFx
   refine nl (qnI (hJ _ _ ?_)); clear hJ J
   exact ⟨ao32, cap33, ao46, cap47, ud4, ud5, .pointer (some ⟨b1, 0, none⟩), .pointer (some ⟨b1, 0, none⟩), ud8, ud9, ud10, ud11, ud12, ud13, ud14, ud15, .row b1 [.bool u0.neg, .slice ao2 u0.abs.length cap3] 93, rh1, Z55, hle56, hF81.reg, hMx.perm lpr, (nt hx11), cu5, kf, kf, (nt hx3), (nt hx4), cu10, cu11, cu12, cu13, cu14, (nt hx10), kf, (nt hx10), cr1_0, cr1_1, (nt hx10), (nt hx10), (nt hx10)⟩
  ·
   obtain rfl := oj hi
   have hx2 := hpre 2 (by kernel_rfl)
   have hx1 := hcl 2 1 (by kernel_rfl) hx2
   have hx3 := hSi
   have hx4 := ngF hcl 4 3 hx3
   have hx10 := ngF hcl 10 4 hx4
   have hx11 := ngF hcl 11 3 hx3
   obtain rfl := cu6 hx1
   obtain rfl := cu7 hx2
   obtain rfl := cr0_0 hx10
   refine hG (any_step ?_); clear hG G; intro A J hJ
   have hle0 := Fz.le.trans hle0 hle56
   have hzst := Fz.le.refl Z55
   have hs83 := hs4.mono hle56
   refine s1 hFx 8 (.pointer (some ⟨b1, 0, none⟩)) ?_; intro a84 hF85; clear hFx
   refine nl (qnI (hJ _ _ ?_)); clear hJ J
   exact ⟨ao32, cap33, ao46, cap47, ud4, ud5, .pointer (some ⟨b1, 0, none⟩), .pointer (some ⟨b1, 0, none⟩), .pointer (some ⟨b1, 0, none⟩), ud9, ud10, ud11, ud12, ud13, ud14, ud15, .row b1 [.bool u0.neg, .slice ao2 u0.abs.length cap3] 93, rh1, Z55, hle56, hF85.reg, hMx.perm lpr, (nt hx11), cu5, kf, kf, kf, (nt hx4), cu10, cu11, cu12, cu13, cu14, (nt hx10), kf, (nt hx10), cr1_0, cr1_1, (nt hx10), (nt hx10), (nt hx10)⟩
  ·
   obtain rfl := oj hi
   have hx3 := hpre 3 (by kernel_rfl)
   have hx2 := hcl 3 2 (by kernel_rfl) hx3
   have hx1 := hcl 2 1 (by kernel_rfl) hx2
   have hx4 := hSi
   have hx10 := ngF hcl 10 4 hx4
   have hx11 := ngF hcl 11 4 hx4
   obtain rfl := cu6 hx1
   obtain rfl := cu7 hx2
   obtain rfl := cu8 hx3
   obtain rfl := cr0_0 hx10
   refine hG (any_step ?_); clear hG G; intro A J hJ
   have hle0 := Fz.le.trans hle0 hle56
   have hzst := Fz.le.refl Z55
   have hs87 := hs4.mono hle56
   refine l1 hFx hMx 9 0 0 (.bool u0.neg) rfl rfl ?_; intro a88 hF89; clear hFx
   refine nl (qnI (hJ _ _ ?_)); clear hJ J
   exact ⟨ao32, cap33, ao46, cap47, ud4, ud5, .pointer (some ⟨b1, 0, none⟩), .pointer (some ⟨b1, 0, none⟩), .pointer (some ⟨b1, 0, none⟩), .bool u0.neg, ud10, ud11, ud12, ud13, ud14, ud15, .row b1 [.bool u0.neg, .slice ao2 u0.abs.length cap3] 93, rh1, Z55, hle56, hF89.reg, hMx.perm lpr, (nt hx11), cu5, kf, kf, kf, kf, cu10, cu11, cu12, cu13, cu14, (nt hx10), kf, (nt hx10), cr1_0, cr1_1, (nt hx10), (nt hx10), (nt hx10)⟩
  ·
   obtain rfl := oj hi
   have hx5 := hSi
   have hx6 := ngF hcl 6 5 hx5
   have hx7 := ngF hcl 7 6 hx6
   have hx8 := ngF hcl 8 7 hx7
   have hx9 := ngF hcl 9 8 hx8
   have hx10 := ngF hcl 10 9 hx9
   have hx11 := ngF hcl 11 5 hx5
   obtain rfl := cr0_0 hx10
   obtain rfl := cr1_0 hx9
   refine hG (any_step ?_); clear hG G; intro A J hJ
   have hle0 := Fz.le.trans hle0 hle56
   have hzst := Fz.le.refl Z55
   have hs91 := hs4.mono hle56
   have hM92 := hMx.keep (List.Sublist.cons_cons _ (List.Sublist.cons _ (List.Sublist.refl _))); clear hMx
   refine s1 hFx 10 (.pointer (some ⟨b1, 0, none⟩)) ?_; intro a93 hF94; clear hFx
   refine nl (qnI (hJ _ _ ?_)); clear hJ J
   have hM95 := hM92.nilRes
   exact ⟨ao32, cap33, ao46, cap47, ud4, ud5, ud6, ud7, ud8, ud9, .pointer (some ⟨b1, 0, none⟩), ud11, ud12, ud13, ud14, ud15, .row b1 [.bool u0.neg, .slice ao2 u0.abs.length cap3] 93, .nil, Z55, hle56, hF94.reg, hM95.perm ((pk 1 rfl).trans (lpr.cons _)), (nt hx11), cu5, cu6, cu7, cu8, cu9, kf, (nt hx6), (nt hx7), (nt hx8), (nt hx9), (nt hx10), kf, (nt hx10), kf, (fun h _ => nt hx9 h), (nt hx10), (nt hx10), (nt hx10)⟩
  ·
   obtain rfl := oj hi
   have hx5 := hpre 5 (by kernel_rfl)
   have hx6 := hSi
   have hx7 := ngF hcl 7 6 hx6
   have hx8 := ngF hcl 8 7 hx7
   have hx9 := ngF hcl 9 8 hx8
   have hx10 := ngF hcl 10 9 hx9
   have hx11 := ngF hcl 11 6 hx6
   obtain rfl := cu10 hx5
   obtain rfl := cr0_0 hx10
   obtain rfl := cr1_0 hx9
   refine hG (any_step ?_); clear hG G; intro A J hJ
   have hle0 := Fz.le.trans hle0 hle56
   have hzst := Fz.le.refl Z55
   have hs97 := hs4.mono hle56
   have hM98 := hMx.keep (List.Sublist.cons_cons _ (List.Sublist.cons _ (List.Sublist.refl _))); clear hMx
   refine s1 hFx 11 (.pointer (some ⟨b1, 0, none⟩)) ?_; intro a99 hF100; clear hFx
   refine nl (qnI (hJ _ _ ?_)); clear hJ J
   have hM101 := hM98.nilRes
   exact ⟨ao32, cap33, ao46, cap47, ud4, ud5, ud6, ud7, ud8, ud9, .pointer (some ⟨b1, 0, none⟩), .pointer (some ⟨b1, 0, none⟩), ud12, ud13, ud14, ud15, .row b1 [.bool u0.neg, .slice ao2 u0.abs.length cap3] 93, .nil, Z55, hle56, hF100.reg, hM101.perm ((pk 1 rfl).trans (lpr.cons _)), (nt hx11), cu5, cu6, cu7, cu8, cu9, kf, kf, (nt hx7), (nt hx8), (nt hx9), (nt hx10), kf, (nt hx10), kf, (fun h _ => nt hx9 h), (nt hx10), (nt hx10), (nt hx10)⟩
  ·
   obtain rfl := oj hi
   have hx6 := hpre 6 (by kernel_rfl)
   have hx5 := hcl 6 5 (by kernel_rfl) hx6
   have hx7 := hSi
   have hx8 := ngF hcl 8 7 hx7
   have hx9 := ngF hcl 9 8 hx8
   have hx10 := ngF hcl 10 9 hx9
   have hx11 := ngF hcl 11 7 hx7
   obtain rfl := cu10 hx5
   obtain rfl := cu11 hx6
   obtain rfl := cr0_0 hx10
   obtain rfl := cr1_0 hx9
   refine hG (any_step ?_); clear hG G; intro A J hJ
   have hle0 := Fz.le.trans hle0 hle56
   have hzst := Fz.le.refl Z55
   have hs103 := hs4.mono hle56
   have hM104 := hMx.keep (List.Sublist.cons_cons _ (List.Sublist.cons _ (List.Sublist.refl _))); clear hMx
   refine s1 hFx 12 (.pointer (some ⟨b1, 1, none⟩)) ?_; intro a105 hF106; clear hFx
   refine nl (qnI (hJ _ _ ?_)); clear hJ J
   have hM107 := hM104.nilRes
   exact ⟨ao32, cap33, ao46, cap47, ud4, ud5, ud6, ud7, ud8, ud9, .pointer (some ⟨b1, 0, none⟩), .pointer (some ⟨b1, 0, none⟩), .pointer (some ⟨b1, 1, none⟩), ud13, ud14, ud15, .row b1 [.bool u0.neg, .slice ao2 u0.abs.length cap3] 93, .nil, Z55, hle56, hF106.reg, hM107.perm ((pk 1 rfl).trans (lpr.cons _)), (nt hx11), cu5, cu6, cu7, cu8, cu9, kf, kf, kf, (nt hx8), (nt hx9), (nt hx10), kf, (nt hx10), kf, (fun h _ => nt hx9 h), (nt hx10), (nt hx10), (nt hx10)⟩
  ·
   obtain rfl := oj hi
   have hx7 := hpre 7 (by kernel_rfl)
   have hx6 := hcl 7 6 (by kernel_rfl) hx7
   have hx5 := hcl 6 5 (by kernel_rfl) hx6
   have hx8 := hSi
   have hx9 := ngF hcl 9 8 hx8
   have hx10 := ngF hcl 10 9 hx9
   have hx11 := ngF hcl 11 8 hx8
   obtain rfl := cu10 hx5
   obtain rfl := cu11 hx6
   obtain rfl := cu12 hx7
   obtain rfl := cr0_0 hx10
   obtain rfl := cr1_0 hx9
   refine hG (any_step ?_); clear hG G; intro A J hJ
   have hle0 := Fz.le.trans hle0 hle56
   have hzst := Fz.le.refl Z55
   have hs109 := hs4.mono hle56
   have hM110 := hMx.keep (List.Sublist.cons_cons _ (List.Sublist.cons _ (List.Sublist.refl _))); clear hMx
   refine l1 hFx hM110 13 0 1 (.slice ao2 u0.abs.length cap3) rfl rfl ?_; intro a111 hF112; clear hFx
   refine nl (qnI (hJ _ _ ?_)); clear hJ J
   have hM113 := hM110.nilRes
   exact ⟨ao32, cap33, ao46, cap47, ud4, ud5, ud6, ud7, ud8, ud9, .pointer (some ⟨b1, 0, none⟩), .pointer (some ⟨b1, 0, none⟩), .pointer (some ⟨b1, 1, none⟩), .slice ao2 u0.abs.length cap3, ud14, ud15, .row b1 [.bool u0.neg, .slice ao2 u0.abs.length cap3] 93, .nil, Z55, hle56, hF112.reg, hM113.perm ((pk 1 rfl).trans (lpr.cons _)), (nt hx11), cu5, cu6, cu7, cu8, cu9, kf, kf, kf, kf, (nt hx9), (nt hx10), kf, (nt hx10), kf, (fun h _ => nt hx9 h), (nt hx10), (nt hx10), (nt hx10)⟩
  ·
   obtain rfl := oj hi
   have hx8 := hpre 8 (by kernel_rfl)
   have hx7 := hcl 8 7 (by kernel_rfl) hx8
   have hx6 := hcl 7 6 (by kernel_rfl) hx7
   have hx5 := hcl 6 5 (by kernel_rfl) hx6
   have hx9 := hSi
   have hx10 := ngF hcl 10 9 hx9
   have hx11 := ngF hcl 11 9 hx9
   obtain rfl := cu10 hx5
   obtain rfl := cu11 hx6
   obtain rfl := cu12 hx7
   obtain rfl := cu13 hx8
   obtain rfl := cr0_0 hx10
   obtain rfl := cr1_0 hx9
   refine hG (any_step ?_); clear hG G; intro A J hJ
   have hle0 := Fz.le.trans hle0 hle56
   have hzst := Fz.le.refl Z55
   have hs115 := hs4.mono hle56
   have hM116 := hMx.keep (List.Sublist.cons_cons _ (List.Sublist.cons _ (List.Sublist.refl _))); clear hMx
   refine cl hFx 125 #[.slice ao2 u0.abs.length cap3] (nog rfl _) rfl (by kernel_rfl) (by kernel_rfl) ?_
   refine (gtwin_fun u0.abs hcd9_0 ao2 cap3 _ _ hs115 hM116.fz).mono ?_; rintro _ wd117 ⟨ao121, cap122, Z123, rfl, hm⟩; refine ⟨_, rfl, ?_⟩; intro a118 hF119; have hM120 := hM116.callZ hm; have hle124 := hm.ext.le; clear hm hM116 hFx
   replace hzst := hzst.mono hle124
   replace hs115 := hs115.mono hle124
   replace hle0 := Fz.le.trans hle0 hle124
   have hM125 : Mem B [] w0 Z0 ((.own (tyInt .u32) 130 ao121 cap122 (gtwinS u0.abs)) :: (.row b1 [.bool u0.neg, .slice ao2 u0.abs.length cap3] 93) :: Rr) Z123 wd117 := hM120; clear hM120
   refine nl (qnI (hJ _ _ ?_)); clear hJ J
   exact ⟨ao121, cap122, ao46, cap47, ud4, ud5, ud6, ud7, ud8, ud9, .pointer (some ⟨b1, 0, none⟩), .pointer (some ⟨b1, 0, none⟩), .pointer (some ⟨b1, 1, none⟩), .slice ao2 u0.abs.length cap3, .slice ao121 (gtwinS u0.abs).length cap122, ud15, .row b1 [.bool u0.neg, .slice ao2 u0.abs.length cap3] 93, .own (tyInt .u32) 130 ao121 cap122 (gtwinS u0.abs), Z123, hle56.trans hzst, hF119.reg, hM125.perm ((pk 1 rfl).trans (lpr.cons _)), (nt hx11), cu5, cu6, cu7, cu8, cu9, kf, kf, kf, kf, kf, (nt hx10), kf, (nt hx10), nu, kf2, (nt hx10), (nt hx10), (nt hx10)⟩
  ·
   obtain rfl := oj hi
   have hx9 := hpre 9 (by kernel_rfl)
   have hx4 := hpre 4 (by kernel_rfl)
   have hx0 := hpre 0 (by kernel_rfl)
   have hx8 := hcl 9 8 (by kernel_rfl) hx9
   have hx3 := hcl 4 3 (by kernel_rfl) hx4
   have hx7 := hcl 8 7 (by kernel_rfl) hx8
   have hx2 := hcl 3 2 (by kernel_rfl) hx3
   have hx6 := hcl 7 6 (by kernel_rfl) hx7
   have hx1 := hcl 2 1 (by kernel_rfl) hx2
   have hx5 := hcl 6 5 (by kernel_rfl) hx6
   have hx10 := hSi
   have hx11 := ngF hcl 11 10 hx10
   obtain rfl := cu5 hx0
   obtain rfl := cu6 hx1
   obtain rfl := cu7 hx2
   obtain rfl := cu8 hx3
   obtain rfl := cu9 hx4
   obtain rfl := cu10 hx5
   obtain rfl := cu11 hx6
   obtain rfl := cu12 hx7
   obtain rfl := cu13 hx8
   obtain rfl := cu14 hx9
   obtain rfl := cr0_0 hx10
   obtain rfl := cr1_1 hx9 hx10
   refine hG (any_step ?_); clear hG G; intro A J hJ
   have hle0 := Fz.le.trans hle0 hle56
   have hzst := Fz.le.refl Z55
   have hs127 := hs4.mono hle56
   obtain ⟨Z128, hle129, hM130, hs131⟩ := hMx.freeze 1 rfl
   replace hzst := hzst.mono hle129
   replace hs127 := hs127.mono hle129
   replace hle0 := Fz.le.trans hle0 hle129
   have hM132 : Mem B [] w0 Z0 ((.row b1 [.bool u0.neg, .slice ao2 u0.abs.length cap3] 93) :: Rr) Z128 w1 := hM130; clear hM130
   refine cl hFx 91 #[.pointer (some ⟨b1, 0, none⟩), .bool u0.neg, .slice ao32 (gtwinS u0.abs).length cap33] (nog rfl _) rfl (by kernel_rfl) (by kernel_rfl) ?_
   refine (ggive_fun u0 u0.neg (gtwinS u0.abs) b1 ao2 cap3 ao32 cap33 _ _ _ _ _ _ hs127 hs131 hM132 hM132.fz).mono ?_; rintro _ wd133 ⟨ao137, cap138, Z140, rfl, hle141, hs139, hm⟩; refine ⟨_, rfl, ?_⟩; intro a134 hF135; have hM136 := hm; clear hm hM132 hFx
   replace hzst := hzst.mono hle141
   replace hs127 := hs127.mono hle141
   replace hs131 := hs131.mono hle141
   replace hle0 := Fz.le.trans hle0 hle141
   have hM142 : Mem B [] w0 Z0 ((.row b1 [.bool ((ggive u0 u0.neg (gtwinS u0.abs)).neg), .slice ao137 ((ggive u0 u0.neg (gtwinS u0.abs)).abs).length cap138] 93) :: Rr) Z140 wd133 := hM136; clear hM136
   refine nl (qnI (hJ _ _ ?_)); clear hJ J
   have hM143 := hM142.nilRes
   exact ⟨ao32, cap33, ao137, cap138, ud4, .pointer (some ⟨b1, 0, none⟩), .pointer (some ⟨b1, 0, none⟩), .pointer (some ⟨b1, 0, none⟩), .pointer (some ⟨b1, 0, none⟩), .bool u0.neg, .pointer (some ⟨b1, 0, none⟩), .pointer (some ⟨b1, 0, none⟩), .pointer (some ⟨b1, 1, none⟩), .slice ao2 u0.abs.length cap3, .slice ao32 (gtwinS u0.abs).length cap33, .pointer (some ⟨b1, 0, none⟩), .nil, .row b1 [.bool ((ggive u0 u0.neg (gtwinS u0.abs)).neg), .slice ao137 ((ggive u0 u0.neg (gtwinS u0.abs)).abs).length cap138] 93, Z140, hle56.trans hzst, hF135.reg, hM143.perm lpr, (nt hx11), kf, kf, kf, kf, kf, kf, kf, kf, kf, kf, kf, nu, kf, (tn hx9), (fun _ => nu), kf, (fun _ => hs131), (fun _ => hs139)⟩
  ·
   obtain rfl := oj hi
   have hx10 := hpre 10 (by kernel_rfl)
   have hx9 := hpre 9 (by kernel_rfl)
   have hx8 := hpre 8 (by kernel_rfl)
   have hx7 := hpre 7 (by kernel_rfl)
   have hx6 := hpre 6 (by kernel_rfl)
   have hx5 := hpre 5 (by kernel_rfl)
   have hx4 := hpre 4 (by kernel_rfl)
   have hx3 := hpre 3 (by kernel_rfl)
   have hx2 := hpre 2 (by kernel_rfl)
   have hx1 := hpre 1 (by kernel_rfl)
   have hx0 := hpre 0 (by kernel_rfl)
   have hx11 := hSi
   obtain rfl := cu5 hx0
   obtain rfl := cu6 hx1
   obtain rfl := cu7 hx2
   obtain rfl := cu8 hx3
   obtain rfl := cu9 hx4
   obtain rfl := cu10 hx5
   obtain rfl := cu11 hx6
   obtain rfl := cu12 hx7
   obtain rfl := cu13 hx8
   obtain rfl := cu14 hx9
   obtain rfl := cu15 hx10
   obtain rfl := cr0_1 hx10
   obtain rfl := cr1_2 hx10
   refine hG (any_step ?_); clear hG G; intro A J hJ
   have hle0 := Fz.le.trans hle0 hle56
   have hzst := Fz.le.refl Z55
   have hs145 := hs4.mono hle56
   have hs146 := cf0 hx10
   have hs147 := cf1 hx10
   have hM148 := hMx.keep (List.Sublist.cons _ (List.Sublist.cons_cons _ (List.Sublist.refl _))); clear hMx
   refine s1 hFx 4 (.pointer (some ⟨b1, 0, none⟩)) ?_; intro a149 hF150; clear hFx
   refine nl (qnI (hJ _ _ ?_)); clear hJ J
   have hM151 := hM148.nilRes
   exact ⟨ao32, cap33, ao46, cap47, .pointer (some ⟨b1, 0, none⟩), .pointer (some ⟨b1, 0, none⟩), .pointer (some ⟨b1, 0, none⟩), .pointer (some ⟨b1, 0, none⟩), .pointer (some ⟨b1, 0, none⟩), .bool u0.neg, .pointer (some ⟨b1, 0, none⟩), .pointer (some ⟨b1, 0, none⟩), .pointer (some ⟨b1, 1, none⟩), .slice ao2 u0.abs.length cap3, .slice ao32 (gtwinS u0.abs).length cap33, .pointer (some ⟨b1, 0, none⟩), .nil, .row b1 [.bool ((ggive u0 u0.neg (gtwinS u0.abs)).neg), .slice ao46 ((ggive u0 u0.neg (gtwinS u0.abs)).abs).length cap47] 93, Z55, hle56, hF150.reg, hM151.perm lpr, kf, kf, kf, kf, kf, kf, kf, kf, kf, kf, kf, kf, (tn hx10), kf, (tn hx9), (fun _ => tn hx10), kf, (fun _ => hs146), (fun _ => hs147)⟩
 case hE =>
  intro S hS a153 wd154 hI; refine Go.Sy.hid ?_; intro G hG; obtain ⟨ao32, cap33, ao46, cap47, ud4, ud5, ud6, ud7, ud8, ud9, ud10, ud11, ud12, ud13, ud14, ud15, rh0, rh1, Z55, hle56, hFx, hMx, cu4, cu5, cu6, cu7, cu8, cu9, cu10, cu11, cu12, cu13, cu14, cu15, cr0_0, cr0_1, cr1_0, cr1_1, cr1_2, cf0, hI⟩ := hI; have cf1 := hI; clear hI; refine hG ?_; clear hG G
  obtain rfl := cu4 (hS 11 (by decide))
  obtain rfl := cu5 (hS 0 (by decide))
  obtain rfl := cu6 (hS 1 (by decide))
  obtain rfl := cu7 (hS 2 (by decide))
  obtain rfl := cu8 (hS 3 (by decide))
  obtain rfl := cu9 (hS 4 (by decide))
  obtain rfl := cu10 (hS 5 (by decide))
  obtain rfl := cu11 (hS 6 (by decide))
  obtain rfl := cu12 (hS 7 (by decide))
  obtain rfl := cu13 (hS 8 (by decide))
  obtain rfl := cu14 (hS 9 (by decide))
  obtain rfl := cu15 (hS 10 (by decide))
  obtain rfl := cr0_1 (hS 10 (by decide))
  obtain rfl := cr1_2 (hS 10 (by decide))
  have hle0 := Fz.le.trans hle0 hle56
  have hs155 := hs4.mono hle56
  have hs156 := cf0 (hS 10 (by decide))
  have hs157 := cf1 (hS 10 (by decide))
  have hMx := hMx.keep (List.Sublist.cons _ (List.Sublist.cons_cons _ (List.Sublist.refl _)))
  refine thn ?_
  refine wp_ret ?_
  refine rt (fn := Tryd.f96) (v := .pointer (some ⟨b1, 0, none⟩)) hFx (re1 hFx (fn := Tryd.f96) rfl (by kernel_rfl)) ?_
  exact ⟨(ggive u0 u0.neg (gtwinS u0.abs)), ao46, cap47, Z55, rfl, hp54, hle0, hs157, hMx.keep (List.Sublist.cons_cons _ (List.Sublist.refl _))⟩

end Go.Proofs.YtinegicenfndkaaDoor
