/- The walks, made by program: each call does what its pure predicate says. -/
import Derived.Test.YtinegicenfndkaaDoorPBc
import Derived.Test.YtinegicenfndkaaDoorWBb
set_option linter.unusedVariables false
set_option linter.unusedSimpArgs false
namespace Go.Proofs.YtinegicenfndkaaDoor
open Go.Sy Go.RowKit
theorem gtwin_fun (u0 : List Int) (hpre : u0.length ≤ 1000000) (ao1 : Option Addr) (cap2 : Nat) (Z : Fz) (w : World) (hs3 : SlR (tyInt .u32) Z ao1 cap2 u0) (hZ : Z.on w) : Calls Tryd.prog 125 #[.slice ao1 u0.length cap2] w fun e w' => ∃ (ao1001 : Option Addr) (cap1002 : Nat) (Z' : Fz), e = .returned (.slice ao1001 (gtwinS u0).length cap1002) ∧ Mem w.heap.size [] w Z [.own (tyInt .u32) 130 ao1001 cap1002 (gtwinS u0)] Z' w' :=
  (gtwin_walk u0 ao1 cap2 Z w hs3 hZ (gtwin_ok u0 hpre)).mono fun _ _ ⟨r, h0, h1, h2, he, hk, hm⟩ => by subst hk; exact ⟨h0, h1, h2, he, hm⟩

theorem gwords_fun (u0 : Int) (hpre : 0 ≤ u0 ∧ u0 ≤ 18446744073709551615)  (Z : Fz) (w : World)  (hZ : Z.on w) : Calls Tryd.prog 123 #[.int .u64 u0] w fun e w' => ∃ (ao1001 : Option Addr) (cap1002 : Nat) (Z' : Fz), e = .returned (.slice ao1001 (gwordsS u0).length cap1002) ∧ SlR (tyInt .u32) Z' ao1001 cap1002 (gwordsS u0) ∧ Mem w.heap.size [] w Z [] Z' w' :=
  (gwords_walk u0  Z w  hZ (gwords_ok u0 hpre)).mono fun _ _ ⟨r, h0, h1, h2, he, hk, f0, hm⟩ => by subst hk; exact ⟨h0, h1, h2, he, f0, hm⟩

theorem gadd_fun (u0 : List Int) (u1 : List Int) (hpre : wok u0 ∧ wok u1 ∧ u0.length ≤ 1000000 ∧ u1.length ≤ 1000000) (ao1 : Option Addr) (cap2 : Nat) (ao4 : Option Addr) (cap5 : Nat) (Z : Fz) (w : World) (hs3 : SlR (tyInt .u32) Z ao1 cap2 u0) (hs6 : SlR (tyInt .u32) Z ao4 cap5 u1) (hZ : Z.on w) : Calls Tryd.prog 121 #[.slice ao1 u0.length cap2, .slice ao4 u1.length cap5] w fun e w' => ∃ (ao1001 : Option Addr) (cap1002 : Nat) (Z' : Fz), e = .returned (.slice ao1001 (gaddS u0 u1).length cap1002) ∧ SlR (tyInt .u32) Z' ao1001 cap1002 (gaddS u0 u1) ∧ Mem w.heap.size [] w Z [] Z' w' :=
  (gadd_walk u0 u1 ao1 cap2 ao4 cap5 Z w hs3 hs6 hZ (gadd_ok u0 u1 hpre)).mono fun _ _ ⟨r, h0, h1, h2, he, hk, f0, hm⟩ => by subst hk; exact ⟨h0, h1, h2, he, f0, hm⟩

theorem gmul_fun (u0 : List Int) (u1 : List Int) (hpre : wok u0 ∧ wok u1 ∧ u0.length ≤ 1000 ∧ u1.length ≤ 1000) (ao1 : Option Addr) (cap2 : Nat) (ao4 : Option Addr) (cap5 : Nat) (Z : Fz) (w : World) (hs3 : SlR (tyInt .u32) Z ao1 cap2 u0) (hs6 : SlR (tyInt .u32) Z ao4 cap5 u1) (hZ : Z.on w) : Calls Tryd.prog 122 #[.slice ao1 u0.length cap2, .slice ao4 u1.length cap5] w fun e w' => ∃ (ao1001 : Option Addr) (cap1002 : Nat) (Z' : Fz), e = .returned (.slice ao1001 (gmulS u0 u1).length cap1002) ∧ SlR (tyInt .u32) Z' ao1001 cap1002 (gmulS u0 u1) ∧ Mem w.heap.size [] w Z [] Z' w' :=
  (gmul_walk u0 u1 ao1 cap2 ao4 cap5 Z w hs3 hs6 hZ (gmul_ok u0 u1 hpre)).mono fun _ _ ⟨r, h0, h1, h2, he, hk, f0, hm⟩ => by subst hk; exact ⟨h0, h1, h2, he, f0, hm⟩

theorem gleft_fun (u0 : List Int) (u1 : Int) (hpre : wok u0 ∧ u0.length ≤ 1000 ∧ 0 ≤ u1 ∧ u1 ≤ 100000) (ao1 : Option Addr) (cap2 : Nat) (Z : Fz) (w : World) (hs3 : SlR (tyInt .u32) Z ao1 cap2 u0) (hZ : Z.on w) : Calls Tryd.prog 92 #[.slice ao1 u0.length cap2, .int .u64 u1] w fun e w' => ∃ (ao1001 : Option Addr) (cap1002 : Nat) (Z' : Fz), e = .returned (.slice ao1001 (gleftS u0 u1).length cap1002) ∧ SlR (tyInt .u32) Z' ao1001 cap1002 (gleftS u0 u1) ∧ Mem w.heap.size [] w Z [] Z' w' :=
  (gleft_walk u0 u1 ao1 cap2 Z w hs3 hZ (gleft_ok u0 u1 hpre)).mono fun _ _ ⟨r, h0, h1, h2, he, hk, f0, hm⟩ => by subst hk; exact ⟨h0, h1, h2, he, f0, hm⟩

theorem glow_fun (u0 : BInt) (u1 : Int) (hpre : u0.neg = false ∧ (u0.abs.length : Int) ≤ u1 ∧ u1 ≤ 1000000) (b1 : Nat) (ao2 : Option Addr) (cap3 : Nat) (B : Nat) (w0 : World) (Z0 : Fz) (Rr : List Res) (Z : Fz) (w : World) (hs4 : SlR (tyInt .u32) Z ao2 cap3 u0.abs) (hM0 : Mem B [] w0 Z0 ((.row b1 [.bool u0.neg, .slice ao2 u0.abs.length cap3] 93) :: Rr) Z w) (hZ : Z.on w) : Calls Tryd.prog 94 #[.pointer (some ⟨b1, 0, none⟩), .int .i64 u1] w fun e w' => ∃ (ao1001 : Option Addr) (cap1002 : Nat) (ao1003 : Option Addr) (cap1004 : Nat) (Z' : Fz), e = .returned (.slice ao1001 (glowS u0 u1).1.length cap1002) ∧ Fz.le Z Z' ∧ SlR (tyInt .u32) Z' ao1003 cap1004 (glowS u0 u1).2.abs ∧ Mem B [] w0 Z0 ((.own (tyInt .u32) 130 ao1001 cap1002 (glowS u0 u1).1) :: (.row b1 [.bool (glowS u0 u1).2.neg, .slice ao1003 (glowS u0 u1).2.abs.length cap1004] 93) :: Rr) Z' w' :=
  (glow_walk u0 u1 b1 ao2 cap3 B w0 Z0 Rr Z w hs4 hM0 hZ (glow_ok u0 u1 hpre)).mono fun _ _ ⟨r, h0, h1, h2, h3, h4, he, hk, f0, f1, hm⟩ => by subst hk; exact ⟨h0, h1, h2, h3, h4, he, f0, f1, hm⟩

theorem guint64_fun (u0 : BInt) (hpre : wok u0.abs) (b1 : Nat) (ao2 : Option Addr) (cap3 : Nat) (B : Nat) (w0 : World) (Z0 : Fz) (Rr : List Res) (Z : Fz) (w : World) (hs4 : SlR (tyInt .u32) Z ao2 cap3 u0.abs) (hM0 : Mem B [] w0 Z0 ((.row b1 [.bool u0.neg, .slice ao2 u0.abs.length cap3] 93) :: Rr) Z w) (hZ : Z.on w) : Calls Tryd.prog 100 #[.pointer (some ⟨b1, 0, none⟩)] w fun e w' => ∃ (ao1001 : Option Addr) (cap1002 : Nat) (Z' : Fz), e = .returned (.int .u64 (guint64S u0).1) ∧ Fz.le Z Z' ∧ SlR (tyInt .u32) Z' ao1001 cap1002 (guint64S u0).2.abs ∧ Mem B [] w0 Z0 ((.row b1 [.bool (guint64S u0).2.neg, .slice ao1001 (guint64S u0).2.abs.length cap1002] 93) :: Rr) Z' w' :=
  (guint64_walk u0 b1 ao2 cap3 B w0 Z0 Rr Z w hs4 hM0 hZ (guint64_ok u0 hpre)).mono fun _ _ ⟨r, h0, h1, h2, he, hk, f0, f1, hm⟩ => by subst hk; exact ⟨h0, h1, h2, he, f0, f1, hm⟩

set_option maxRecDepth 100000 in
set_option maxHeartbeats 0 in
theorem gof_walk (u0 : BInt) (u1 : List Int) (b1 : Nat) (ao2 : Option Addr) (cap3 : Nat) (ao5 : Option Addr) (cap6 : Nat) (B : Nat) (w0 : World) (Z0 : Fz) (Rr : List Res) (Z : Fz) (w : World) (hs4 : SlR (tyInt .u32) Z ao2 cap3 u0.abs) (hM0 : Mem B [] w0 Z0 ((.row b1 [.bool u0.neg, .slice ao2 u0.abs.length cap3] 93) :: (.own (tyInt .u32) 130 ao5 cap6 u1) :: Rr) Z w) (hZ : Z.on w) {K : BInt → Prop} (hp : gof_vc u0 u1 K) : Calls Tryd.prog 95 #[.pointer (some ⟨b1, 0, none⟩), .slice ao5 u1.length cap6] w fun e w' => ∃ (r : BInt) (ao1001 : Option Addr) (cap1002 : Nat) (Z' : Fz), e = .returned (.pointer (some ⟨b1, 0, none⟩)) ∧ K r ∧ Fz.le Z Z' ∧ SlR (tyInt .u32) Z' ao1001 cap1002 r.abs ∧ Mem B [] w0 Z0 ((.row b1 [.bool r.neg, .slice ao1001 r.abs.length cap1002] 93) :: Rr) Z' w' := by
 refine enter0 Tryd.func95 rfl rfl (by kernel_rfl) ?_; intro a0 hF0; have hle0 := Fz.le.refl Z
 have hp7 := hp (hs4.small); clear hp
 have hp8 := hp7 (hM0.ownSmall 1 rfl); clear hp7
 refine sqH ?_; intro hQ9Q hQ9
 refine s1 hF0 4 (.pointer none) ?_; intro a10 hF11; clear hF0
 refine nlH (hQ9 _ _ ?_); clear hQ9 hQ9Q
 refine wp_seq ?_
 refine sqH ?_; intro hQ12Q hQ12
 refine s1 hF11 7 (.slice ao5 u1.length cap6) ?_; intro a13 hF14; clear hF11
 refine s1 hF14 8 (.int .i64 (u1.length : Int)) ?_; intro a15 hF16; clear hF14
 refine s1 hF16 9 (.bool (decide ((u1.length : Int) > 0))) ?_; intro a17 hF18; clear hF16
 refine s1 hF18 10 (.bool (decide ((u1.length : Int) > 0))) ?_; intro a19 hF20; clear hF18
 have hF21 := hF20.atom ((decide ((u1.length : Int) > 0)) == true) (by kernel_rfl); clear hF20
 refine gp hF21 11 0 [] (decide ((u1.length : Int) > 0)) (.slice ao5 u1.length cap6) rfl rfl ?_; intro a22 hF23; clear hF21
 refine gp hF23 12 0 [] (decide ((u1.length : Int) > 0)) (.slice ao5 u1.length cap6) rfl rfl ?_; intro a24 hF25; clear hF23
 refine gp hF25 13 0 [] (decide ((u1.length : Int) > 0)) (.int .i64 (u1.length : Int)) rfl rfl ?_; intro a26 hF27; clear hF25
 refine gp hF27 14 0 [] (decide ((u1.length : Int) > 0)) (.int .i64 (w64 ((u1.length : Int) - 1))) rfl rfl ?_; intro a28 hF29; clear hF27
 rcases Bool.eq_false_or_eq_true (decide ((u1.length : Int) > 0)) with hb30 | hb30
 ·
  have hp31 := hp8.1 hb30; clear hp8
  have hF32 := hF29.reval (d := 10) (c := []) (v := .bool (decide ((u1.length : Int) > 0))) (by kernel_rfl) (.bool true) (by rw [hb30]); clear hF29
  have hF33 := hF32.setc (d := 11) (c := [0]) (v := .slice ao5 u1.length cap6) (by kernel_rfl) (v' := .slice ao5 u1.length cap6) (by rw [hb30]; kernel_rfl); clear hF32
  have hF34 := hF33.setc (d := 12) (c := [0]) (v := .slice ao5 u1.length cap6) (by kernel_rfl) (v' := .slice ao5 u1.length cap6) (by rw [hb30]; kernel_rfl); clear hF33
  have hF35 := hF34.setc (d := 13) (c := [0]) (v := .int .i64 (u1.length : Int)) (by kernel_rfl) (v' := .int .i64 (u1.length : Int)) (by rw [hb30]; kernel_rfl); clear hF34
  have hF36 := hF35.setc (d := 14) (c := [0]) (v := .int .i64 (w64 ((u1.length : Int) - 1))) (by kernel_rfl) (v' := .int .i64 (w64 ((u1.length : Int) - 1))) (by rw [hb30]; kernel_rfl); clear hF35
  have hc37 := hp31.1; have hp38 := hp31.2; clear hp31
  refine ixo hF36 hM0 1 (T := (tyInt .u32)) (xs := u1) (w64 ((u1.length : Int) - 1)) hc37 (k := .i64) (e := 130) (bytes := 4) (by rw [wanted_of hF36 (b := true) rfl rfl (by kernel_rfl) (by kernel_rfl)]; rfl) rfl (by kernel_rfl) rfl (by kernel_rfl) (by kernel_rfl) rfl (by kernel_rfl) ?_; intro g39 a41 hg40 hF42; clear hF36
  subst hg40
  have hF43 : Fr 49 [] [⟨0, [], .pointer (some ⟨b1, 0, none⟩)⟩, ⟨1, [], .slice (some ⟨g39, 0, none⟩) u1.length cap6⟩, ⟨4, [], .pointer none⟩, ⟨7, [], .slice (some ⟨g39, 0, none⟩) u1.length cap6⟩, ⟨8, [], .int .i64 (u1.length : Int)⟩, ⟨9, [], .bool (decide ((u1.length : Int) > 0))⟩, ⟨10, [], .bool true⟩, ⟨11, [], .slice (some ⟨g39, 0, none⟩) u1.length cap6⟩, ⟨12, [], .slice (some ⟨g39, 0, none⟩) u1.length cap6⟩, ⟨13, [], .int .i64 (u1.length : Int)⟩, ⟨14, [], .int .i64 (w64 ((u1.length : Int) - 1))⟩, ⟨15, [], .pointer (some ⟨g39, (w64 ((u1.length : Int) - 1)).toNat * 1, none⟩)⟩] a41 := hF42.reg; clear hF42
  have hM44 : Mem B [] w0 Z0 ((.row b1 [.bool u0.neg, .slice ao2 u0.abs.length cap3] 93) :: (.own (tyInt .u32) 130 (some ⟨g39, 0, none⟩) cap6 u1) :: Rr) Z w := hM0; clear hM0
  obtain ⟨q45, hq46⟩ : ∃ q, u1[(w64 ((u1.length : Int) - 1)).toNat]? = some q := ⟨_, List.getElem?_eq_getElem (by first | omega | (simp only [List.length_set] at *; omega))⟩; have hp47 := hp38 q45 hq46; clear hp38
  obtain ⟨cs48, hT49, hcl50⟩ := own_el hM44 1 (T := (tyInt .u32)) (xs := u1) rfl (w64 ((u1.length : Int) - 1)).toNat hq46
  obtain rfl : cs48 = ([.int .u32 q45] : List Value) := hT49
  refine lc1 hF43 16 (.int .u32 q45) (hcl50 0 _ rfl) rfl ?_ (hw := (by rw [wanted_of hF43 (b := true) rfl rfl (by kernel_rfl) (by kernel_rfl)]; rfl)); intro a51 hF52; clear hF43
  refine st hF52 (.int .u32 (bShr .u32 q45 31)) (by rw [wanted_of hF52 (b := true) rfl rfl (by kernel_rfl) (by kernel_rfl)]; rfl) rfl (by kernel_rfl) (p0 hF52 (by kernel_rfl)) ?_; intro a53 hF54; clear hF52
  refine st hF54 (.bool ((bShr .u32 q45 31) == 1)) (by rw [wanted_of hF54 (b := true) rfl rfl (by kernel_rfl) (by kernel_rfl)]; rfl) rfl (by kernel_rfl) (p0 hF54 (by kernel_rfl)) ?_; intro a55 hF56; clear hF54
  refine s1 hF56 19 (.bool ((bShr .u32 q45 31) == 1)) ?_; intro a57 hF58; clear hF56
  refine nlH (hQ12 _ _ ?_); clear hQ12 hQ12Q
  have hc59 := hp47.1; have hp60 := hp47.2; clear hp47
  refine cd hF58 (t := (bShr .u32 q45 31) == 1) (by kernel_rfl) (fun h => Bool.noConfusion (hc59.symm.trans h)) (fun _ => ?_)
  refine wp_skip ?_
  refine thn ?_
  have hF62 : Fr 49 [] [⟨0, [], .pointer (some ⟨b1, 0, none⟩)⟩, ⟨1, [], .slice (some ⟨g39, 0, none⟩) u1.length cap6⟩] a57 := hF58.reg; clear hF58
  refine sqH ?_; intro hQ63Q hQ63
  refine s1 hF62 45 (.pointer (some ⟨b1, 0, none⟩)) ?_; intro a64 hF65; clear hF62
  refine s1 hF65 46 (.slice (some ⟨g39, 0, none⟩) u1.length cap6) ?_; intro a66 hF67; clear hF65
  obtain ⟨Z68, hle69, hM70, hs71⟩ := hM44.freeze 1 rfl
  replace hs4 := hs4.mono hle69
  replace hle0 := Fz.le.trans hle0 hle69
  have hM72 : Mem B [] w0 Z0 ((.row b1 [.bool u0.neg, .slice ao2 u0.abs.length cap3] 93) :: Rr) Z68 w := hM70; clear hM70
  refine cl hF67 124 #[.slice (some ⟨g39, 0, none⟩) u1.length cap6] (nog rfl _) rfl (by kernel_rfl) (by kernel_rfl) ?_
  refine (gtrim_fun u1 (some ⟨g39, 0, none⟩) cap6 _ _ hs71 hM72.fz).mono ?_; rintro _ wd73 ⟨ao77, cap78, Z80, rfl, hs79, hm⟩; refine ⟨_, rfl, ?_⟩; intro a74 hF75; have hM76 := hM72.callZ hm; have hle81 := hm.ext.le; clear hm hM72 hF67
  replace hs4 := hs4.mono hle81
  replace hs71 := hs71.mono hle81
  replace hle0 := Fz.le.trans hle0 hle81
  have hM82 : Mem B [] w0 Z0 ((.row b1 [.bool u0.neg, .slice ao2 u0.abs.length cap3] 93) :: Rr) Z80 wd73 := hM76; clear hM76
  have hp83 := hp60 (hs79.small); clear hp60
  refine cl hF75 91 #[.pointer (some ⟨b1, 0, none⟩), .bool false, .slice ao77 (gtrimS u1).length cap78] (nog rfl _) rfl (by kernel_rfl) (by kernel_rfl) ?_
  obtain ⟨r88, hr89⟩ : ∃ x, (ggive u0 false (gtrimS u1)) = x := ⟨_, rfl⟩; have hp90 := hp83 r88 hr89; clear hp83
  have h9 := ggive_fun u0 false (gtrimS u1) b1 ao2 cap3 ao77 cap78 _ _ _ _ _ _ hs4 hs79 hM82 hM82.fz; rw [hr89] at h9; refine h9.mono ?_; clear h9; rintro _ wd84 ⟨ao92, cap93, Z95, rfl, hle96, hs94, hm⟩; refine ⟨_, rfl, ?_⟩; intro a85 hF86; have hM87 := hm; clear hm hM82 hF75
  replace hs4 := hs4.mono hle96
  replace hs71 := hs71.mono hle96
  replace hs79 := hs79.mono hle96
  replace hle0 := Fz.le.trans hle0 hle96
  have hM97 : Mem B [] w0 Z0 ((.row b1 [.bool r88.neg, .slice ao92 r88.abs.length cap93] 93) :: Rr) Z95 wd84 := hM87; clear hM87
  have hp98 := hp90 (hs94.small); clear hp90
  refine s1 hF86 4 (.pointer (some ⟨b1, 0, none⟩)) ?_; intro a99 hF100; clear hF86
  refine nlH (hQ63 _ _ ?_); clear hQ63 hQ63Q
  refine wp_ret ?_
  refine rt (fn := Tryd.f95) (v := .pointer (some ⟨b1, 0, none⟩)) hF100 (re1 hF100 (fn := Tryd.f95) rfl (by kernel_rfl)) ?_
  exact ⟨r88, ao92, cap93, Z95, rfl, hp98, hle0, hs94, hM97.keep (List.Sublist.cons_cons _ (List.Sublist.refl _))⟩
 ·
  have hp101 := hp8.2 hb30; clear hp8
  have hF102 := hF29.reval (d := 10) (c := []) (v := .bool (decide ((u1.length : Int) > 0))) (by kernel_rfl) (.bool false) (by rw [hb30]); clear hF29
  have hF103 := hF102.setc (d := 11) (c := [0]) (v := .slice ao5 u1.length cap6) (by kernel_rfl) (v' := undef) (by rw [hb30]; kernel_rfl); clear hF102
  have hF104 := hF103.setc (d := 12) (c := [0]) (v := .slice ao5 u1.length cap6) (by kernel_rfl) (v' := undef) (by rw [hb30]; kernel_rfl); clear hF103
  have hF105 := hF104.setc (d := 13) (c := [0]) (v := .int .i64 (u1.length : Int)) (by kernel_rfl) (v' := undef) (by rw [hb30]; kernel_rfl); clear hF104
  have hF106 := hF105.setc (d := 14) (c := [0]) (v := .int .i64 (w64 ((u1.length : Int) - 1))) (by kernel_rfl) (v' := undef) (by rw [hb30]; kernel_rfl); clear hF105
  refine sk hF106 (b := false) rfl rfl (by kernel_rfl) (by kernel_rfl) rfl rfl (by kernel_rfl) ?_; intro a107 hF108; clear hF106
  refine sk hF108 (b := false) rfl rfl (by kernel_rfl) (by kernel_rfl) rfl rfl (by kernel_rfl) ?_; intro a109 hF110; clear hF108
  refine sk hF110 (b := false) rfl rfl (by kernel_rfl) (by kernel_rfl) rfl rfl (by kernel_rfl) ?_; intro a111 hF112; clear hF110
  refine sk hF112 (b := false) rfl rfl (by kernel_rfl) (by kernel_rfl) rfl rfl (by kernel_rfl) ?_; intro a113 hF114; clear hF112
  refine s1 hF114 19 (.bool false) ?_; intro a115 hF116; clear hF114
  refine nlH (hQ12 _ _ ?_); clear hQ12 hQ12Q
  refine cdF hF116 (by kernel_rfl) ?_
  refine wp_skip ?_
  refine thn ?_
  have hF117 : Fr 49 [] [⟨0, [], .pointer (some ⟨b1, 0, none⟩)⟩, ⟨1, [], .slice ao5 u1.length cap6⟩] a115 := hF116.reg; clear hF116
  refine sqH ?_; intro hQ118Q hQ118
  refine s1 hF117 45 (.pointer (some ⟨b1, 0, none⟩)) ?_; intro a119 hF120; clear hF117
  refine s1 hF120 46 (.slice ao5 u1.length cap6) ?_; intro a121 hF122; clear hF120
  obtain ⟨Z123, hle124, hM125, hs126⟩ := hM0.freeze 1 rfl
  replace hs4 := hs4.mono hle124
  replace hle0 := Fz.le.trans hle0 hle124
  have hM127 : Mem B [] w0 Z0 ((.row b1 [.bool u0.neg, .slice ao2 u0.abs.length cap3] 93) :: Rr) Z123 w := hM125; clear hM125
  refine cl hF122 124 #[.slice ao5 u1.length cap6] (nog rfl _) rfl (by kernel_rfl) (by kernel_rfl) ?_
  refine (gtrim_fun u1 ao5 cap6 _ _ hs126 hM127.fz).mono ?_; rintro _ wd128 ⟨ao132, cap133, Z135, rfl, hs134, hm⟩; refine ⟨_, rfl, ?_⟩; intro a129 hF130; have hM131 := hM127.callZ hm; have hle136 := hm.ext.le; clear hm hM127 hF122
  replace hs4 := hs4.mono hle136
  replace hs126 := hs126.mono hle136
  replace hle0 := Fz.le.trans hle0 hle136
  have hM137 : Mem B [] w0 Z0 ((.row b1 [.bool u0.neg, .slice ao2 u0.abs.length cap3] 93) :: Rr) Z135 wd128 := hM131; clear hM131
  have hp138 := hp101 (hs134.small); clear hp101
  refine cl hF130 91 #[.pointer (some ⟨b1, 0, none⟩), .bool false, .slice ao132 (gtrimS u1).length cap133] (nog rfl _) rfl (by kernel_rfl) (by kernel_rfl) ?_
  obtain ⟨r143, hr144⟩ : ∃ x, (ggive u0 false (gtrimS u1)) = x := ⟨_, rfl⟩; have hp145 := hp138 r143 hr144; clear hp138
  have h9 := ggive_fun u0 false (gtrimS u1) b1 ao2 cap3 ao132 cap133 _ _ _ _ _ _ hs4 hs134 hM137 hM137.fz; rw [hr144] at h9; refine h9.mono ?_; clear h9; rintro _ wd139 ⟨ao147, cap148, Z150, rfl, hle151, hs149, hm⟩; refine ⟨_, rfl, ?_⟩; intro a140 hF141; have hM142 := hm; clear hm hM137 hF130
  replace hs4 := hs4.mono hle151
  replace hs126 := hs126.mono hle151
  replace hs134 := hs134.mono hle151
  replace hle0 := Fz.le.trans hle0 hle151
  have hM152 : Mem B [] w0 Z0 ((.row b1 [.bool r143.neg, .slice ao147 r143.abs.length cap148] 93) :: Rr) Z150 wd139 := hM142; clear hM142
  have hp153 := hp145 (hs149.small); clear hp145
  refine s1 hF141 4 (.pointer (some ⟨b1, 0, none⟩)) ?_; intro a154 hF155; clear hF141
  refine nlH (hQ118 _ _ ?_); clear hQ118 hQ118Q
  refine wp_ret ?_
  refine rt (fn := Tryd.f95) (v := .pointer (some ⟨b1, 0, none⟩)) hF155 (re1 hF155 (fn := Tryd.f95) rfl (by kernel_rfl)) ?_
  exact ⟨r143, ao147, cap148, Z150, rfl, hp153, hle0, hs149, hM152.keep (List.Sublist.cons_cons _ (List.Sublist.refl _))⟩

set_option maxRecDepth 100000 in
set_option maxHeartbeats 0 in
theorem gseti_walk (u0 : BInt) (u1 : Int) (b1 : Nat) (ao2 : Option Addr) (cap3 : Nat) (B : Nat) (w0 : World) (Z0 : Fz) (Rr : List Res) (Z : Fz) (w : World) (hs4 : SlR (tyInt .u32) Z ao2 cap3 u0.abs) (hM0 : Mem B [] w0 Z0 ((.row b1 [.bool u0.neg, .slice ao2 u0.abs.length cap3] 93) :: Rr) Z w) (hZ : Z.on w) {K : BInt → Prop} (hp : gseti_vc u0 u1 K) : Calls Tryd.prog 93 #[.pointer (some ⟨b1, 0, none⟩), .int .i64 u1] w fun e w' => ∃ (r : BInt) (ao1001 : Option Addr) (cap1002 : Nat) (Z' : Fz), e = .returned (.pointer (some ⟨b1, 0, none⟩)) ∧ K r ∧ Fz.le Z Z' ∧ SlR (tyInt .u32) Z' ao1001 cap1002 r.abs ∧ Mem B [] w0 Z0 ((.row b1 [.bool r.neg, .slice ao1001 r.abs.length cap1002] 93) :: Rr) Z' w' := by
 refine enter0 Tryd.func93 rfl rfl (by kernel_rfl) ?_; intro a0 hF0; have hle0 := Fz.le.refl Z
 have hp5 := hp (hs4.small); clear hp
 refine sqH ?_; intro hQ6Q hQ6
 refine s1 hF0 4 (.pointer none) ?_; intro a7 hF8; clear hF0
 refine nlH (hQ6 _ _ ?_); clear hQ6 hQ6Q
 refine sqH ?_; intro hQ9Q hQ9
 refine s1 hF8 6 (.int .i64 u1) ?_; intro a10 hF11; clear hF8
 refine s1 hF11 7 (.int .u64 (wu64 u1)) ?_; intro a12 hF13; clear hF11
 refine s1 hF13 5 (.int .u64 (wu64 u1)) ?_; intro a14 hF15; clear hF13
 refine nlH (hQ9 _ _ ?_); clear hQ9 hQ9Q
 refine wp_seq ?_
 refine sqH ?_; intro hQ16Q hQ16
 refine s1 hF15 8 (.int .i64 u1) ?_; intro a17 hF18; clear hF15
 refine s1 hF18 9 (.bool (decide (u1 < 0))) ?_; intro a19 hF20; clear hF18
 refine nlH (hQ16 _ _ ?_); clear hQ16 hQ16Q
 refine cd hF20 (t := decide (u1 < 0)) (by kernel_rfl) (fun hb21 => ?_) (fun hb21 => ?_)
 ·
  have hp22 := hp5.1 hb21; clear hp5
  refine rgH ?_; intro hQ23Q hQ23
  refine s1 hF20 10 (.int .u64 (wu64 u1)) ?_; intro a24 hF25; clear hF20
  refine s1 hF25 11 (.int .u64 (wu64 (0 - (wu64 u1)))) ?_; intro a26 hF27; clear hF25
  refine s1 hF27 5 (.int .u64 (wu64 (0 - (wu64 u1)))) ?_; intro a28 hF29; clear hF27
  refine nlH (hQ23 _ _ ?_); clear hQ23 hQ23Q
  refine thn ?_
  refine sqH ?_; intro hQ30Q hQ30
  refine s1 hF29 12 (.pointer (some ⟨b1, 0, none⟩)) ?_; intro a31 hF32; clear hF29
  refine s1 hF32 13 (.int .i64 u1) ?_; intro a33 hF34; clear hF32
  refine s1 hF34 14 (.bool (decide (u1 < 0))) ?_; intro a35 hF36; clear hF34
  refine s1 hF36 15 (.int .u64 (wu64 (0 - (wu64 u1)))) ?_; intro a37 hF38; clear hF36
  have hc39 := hp22.1; have hp40 := hp22.2; clear hp22
  refine cl hF38 123 #[.int .u64 (wu64 (0 - (wu64 u1)))] (nog rfl _) rfl (by kernel_rfl) (by kernel_rfl) ?_
  refine (gwords_fun (wu64 (0 - (wu64 u1))) hc39 _ _ hM0.fz).mono ?_; rintro _ wd41 ⟨ao45, cap46, Z48, rfl, hs47, hm⟩; refine ⟨_, rfl, ?_⟩; intro a42 hF43; have hM44 := hM0.callZ hm; have hle49 := hm.ext.le; clear hm hM0 hF38
  replace hs4 := hs4.mono hle49
  replace hle0 := Fz.le.trans hle0 hle49
  have hM50 : Mem B [] w0 Z0 ((.row b1 [.bool u0.neg, .slice ao2 u0.abs.length cap3] 93) :: Rr) Z48 wd41 := hM44; clear hM44
  have hp51 := hp40 (hs47.small); clear hp40
  refine cl hF43 91 #[.pointer (some ⟨b1, 0, none⟩), .bool (decide (u1 < 0)), .slice ao45 (gwordsS (wu64 (0 - (wu64 u1)))).length cap46] (nog rfl _) rfl (by kernel_rfl) (by kernel_rfl) ?_
  obtain ⟨r56, hr57⟩ : ∃ x, (ggive u0 (decide (u1 < 0)) (gwordsS (wu64 (0 - (wu64 u1))))) = x := ⟨_, rfl⟩; have hp58 := hp51 r56 hr57; clear hp51
  have h9 := ggive_fun u0 (decide (u1 < 0)) (gwordsS (wu64 (0 - (wu64 u1)))) b1 ao2 cap3 ao45 cap46 _ _ _ _ _ _ hs4 hs47 hM50 hM50.fz; rw [hr57] at h9; refine h9.mono ?_; clear h9; rintro _ wd52 ⟨ao60, cap61, Z63, rfl, hle64, hs62, hm⟩; refine ⟨_, rfl, ?_⟩; intro a53 hF54; have hM55 := hm; clear hm hM50 hF43
  replace hs4 := hs4.mono hle64
  replace hs47 := hs47.mono hle64
  replace hle0 := Fz.le.trans hle0 hle64
  have hM65 : Mem B [] w0 Z0 ((.row b1 [.bool r56.neg, .slice ao60 r56.abs.length cap61] 93) :: Rr) Z63 wd52 := hM55; clear hM55
  have hp66 := hp58 (hs62.small); clear hp58
  refine s1 hF54 4 (.pointer (some ⟨b1, 0, none⟩)) ?_; intro a67 hF68; clear hF54
  refine nlH (hQ30 _ _ ?_); clear hQ30 hQ30Q
  refine wp_ret ?_
  refine rt (fn := Tryd.f93) (v := .pointer (some ⟨b1, 0, none⟩)) hF68 (re1 hF68 (fn := Tryd.f93) rfl (by kernel_rfl)) ?_
  exact ⟨r56, ao60, cap61, Z63, rfl, hp66, hle0, hs62, hM65.keep (List.Sublist.cons_cons _ (List.Sublist.refl _))⟩
 ·
  have hp69 := hp5.2 hb21; clear hp5
  refine wp_skip ?_
  refine thn ?_
  refine sqH ?_; intro hQ70Q hQ70
  refine s1 hF20 12 (.pointer (some ⟨b1, 0, none⟩)) ?_; intro a71 hF72; clear hF20
  refine s1 hF72 13 (.int .i64 u1) ?_; intro a73 hF74; clear hF72
  refine s1 hF74 14 (.bool (decide (u1 < 0))) ?_; intro a75 hF76; clear hF74
  refine s1 hF76 15 (.int .u64 (wu64 u1)) ?_; intro a77 hF78; clear hF76
  have hc79 := hp69.1; have hp80 := hp69.2; clear hp69
  refine cl hF78 123 #[.int .u64 (wu64 u1)] (nog rfl _) rfl (by kernel_rfl) (by kernel_rfl) ?_
  refine (gwords_fun (wu64 u1) hc79 _ _ hM0.fz).mono ?_; rintro _ wd81 ⟨ao85, cap86, Z88, rfl, hs87, hm⟩; refine ⟨_, rfl, ?_⟩; intro a82 hF83; have hM84 := hM0.callZ hm; have hle89 := hm.ext.le; clear hm hM0 hF78
  replace hs4 := hs4.mono hle89
  replace hle0 := Fz.le.trans hle0 hle89
  have hM90 : Mem B [] w0 Z0 ((.row b1 [.bool u0.neg, .slice ao2 u0.abs.length cap3] 93) :: Rr) Z88 wd81 := hM84; clear hM84
  have hp91 := hp80 (hs87.small); clear hp80
  refine cl hF83 91 #[.pointer (some ⟨b1, 0, none⟩), .bool (decide (u1 < 0)), .slice ao85 (gwordsS (wu64 u1)).length cap86] (nog rfl _) rfl (by kernel_rfl) (by kernel_rfl) ?_
  obtain ⟨r96, hr97⟩ : ∃ x, (ggive u0 (decide (u1 < 0)) (gwordsS (wu64 u1))) = x := ⟨_, rfl⟩; have hp98 := hp91 r96 hr97; clear hp91
  have h9 := ggive_fun u0 (decide (u1 < 0)) (gwordsS (wu64 u1)) b1 ao2 cap3 ao85 cap86 _ _ _ _ _ _ hs4 hs87 hM90 hM90.fz; rw [hr97] at h9; refine h9.mono ?_; clear h9; rintro _ wd92 ⟨ao100, cap101, Z103, rfl, hle104, hs102, hm⟩; refine ⟨_, rfl, ?_⟩; intro a93 hF94; have hM95 := hm; clear hm hM90 hF83
  replace hs4 := hs4.mono hle104
  replace hs87 := hs87.mono hle104
  replace hle0 := Fz.le.trans hle0 hle104
  have hM105 : Mem B [] w0 Z0 ((.row b1 [.bool r96.neg, .slice ao100 r96.abs.length cap101] 93) :: Rr) Z103 wd92 := hM95; clear hM95
  have hp106 := hp98 (hs102.small); clear hp98
  refine s1 hF94 4 (.pointer (some ⟨b1, 0, none⟩)) ?_; intro a107 hF108; clear hF94
  refine nlH (hQ70 _ _ ?_); clear hQ70 hQ70Q
  refine wp_ret ?_
  refine rt (fn := Tryd.f93) (v := .pointer (some ⟨b1, 0, none⟩)) hF108 (re1 hF108 (fn := Tryd.f93) rfl (by kernel_rfl)) ?_
  exact ⟨r96, ao100, cap101, Z103, rfl, hp106, hle0, hs102, hM105.keep (List.Sublist.cons_cons _ (List.Sublist.refl _))⟩

set_option maxRecDepth 100000 in
set_option maxHeartbeats 0 in
theorem glsh_walk (u0 : BInt) (u1 : BInt) (u2 : Int) (b1 : Nat) (ao2 : Option Addr) (cap3 : Nat) (b5 : Nat) (ao6 : Option Addr) (cap7 : Nat) (B : Nat) (w0 : World) (Z0 : Fz) (Rr : List Res) (Z : Fz) (w : World) (hs4 : SlR (tyInt .u32) Z ao2 cap3 u0.abs) (hs8 : SlR (tyInt .u32) Z ao6 cap7 u1.abs) (hM0 : Mem B [] w0 Z0 ((.row b1 [.bool u0.neg, .slice ao2 u0.abs.length cap3] 93) :: (.row b5 [.bool u1.neg, .slice ao6 u1.abs.length cap7] 93) :: Rr) Z w) (hZ : Z.on w) {K : (BInt × BInt) → Prop} (hp : glsh_vc u0 u1 u2 K) : Calls Tryd.prog 55 #[.pointer (some ⟨b1, 0, none⟩), .pointer (some ⟨b5, 0, none⟩), .int .u64 u2] w fun e w' => ∃ (r : BInt × BInt) (ao1001 : Option Addr) (cap1002 : Nat) (ao1004 : Option Addr) (cap1005 : Nat) (Z' : Fz), e = .returned (.pointer (some ⟨b1, 0, none⟩)) ∧ K r ∧ Fz.le Z Z' ∧ SlR (tyInt .u32) Z' ao1001 cap1002 r.1.abs ∧ SlR (tyInt .u32) Z' ao1004 cap1005 r.2.abs ∧ Mem B [] w0 Z0 ((.row b1 [.bool r.1.neg, .slice ao1001 r.1.abs.length cap1002] 93) :: (.row b5 [.bool r.2.neg, .slice ao1004 r.2.abs.length cap1005] 93) :: Rr) Z' w' := by
 refine enter0 Tryd.func55 rfl rfl (by kernel_rfl) ?_; intro a0 hF0; have hle0 := Fz.le.refl Z
 have hp9 := hp (hs4.small); clear hp
 have hp10 := hp9 (hs8.small); clear hp9
 refine sqH ?_; intro hQ11Q hQ11
 refine s1 hF0 6 (.pointer none) ?_; intro a12 hF13; clear hF0
 refine nlH (hQ11 _ _ ?_); clear hQ11 hQ11Q
 have hF14 : Fr 19 [] [⟨0, [], .pointer (some ⟨b1, 0, none⟩)⟩, ⟨1, [], .pointer (some ⟨b5, 0, none⟩)⟩, ⟨2, [], .int .u64 u2⟩] a12 := hF13.reg; clear hF13
 have hcd10_0 := hp10.1; have hp57 := hp10.2; clear hp10
 refine wp_seq (any_invE mixed [[], [], [1], [2], [3], [], [5], [6], [7], [], [8, 9], [0, 4, 10], [0, 1, 2, 3, 4, 5, 6, 7, 8, 9, 10, 11]] 13 (fun S a w1 => ∃ (ao39 : Option Addr) (cap40 : Nat) (ao49 : Option Addr) (cap50 : Nat) (ud6 : Value) (ud7 : Value) (ud8 : Value) (ud9 : Value) (ud10 : Value) (ud11 : Value) (ud12 : Value) (ud13 : Value) (ud14 : Value) (ud15 : Value) (ud16 : Value) (ud17 : Value) (ud18 : Value) (rh0 : Res) (rh1 : Res) (Z58 : Fz), Fz.le Z Z58 ∧ Fr 19 [] [⟨0, [], .pointer (some ⟨b1, 0, none⟩)⟩, ⟨1, [], .pointer (some ⟨b5, 0, none⟩)⟩, ⟨2, [], .int .u64 u2⟩, ⟨6, [], ud6⟩, ⟨7, [], ud7⟩, ⟨8, [], ud8⟩, ⟨9, [], ud9⟩, ⟨10, [], ud10⟩, ⟨11, [], ud11⟩, ⟨12, [], ud12⟩, ⟨13, [], ud13⟩, ⟨14, [], ud14⟩, ⟨15, [], ud15⟩, ⟨16, [], ud16⟩, ⟨17, [], ud17⟩, ⟨18, [], ud18⟩] a ∧ Mem B [] w0 Z0 (rh0 :: rh1 :: Rr) Z58 w1 ∧ (S 12 = true → ud6 = .pointer (some ⟨b1, 0, none⟩)) ∧ (S 0 = true → ud7 = .pointer (some ⟨b1, 0, none⟩)) ∧ (S 1 = true → ud8 = .pointer (some ⟨b5, 0, none⟩)) ∧ (S 2 = true → ud9 = .pointer (some ⟨b5, 0, none⟩)) ∧ (S 3 = true → ud10 = .pointer (some ⟨b5, 0, none⟩)) ∧ (S 4 = true → ud11 = .bool u1.neg) ∧ (S 5 = true → ud12 = .pointer (some ⟨b5, 0, none⟩)) ∧ (S 6 = true → ud13 = .pointer (some ⟨b5, 0, none⟩)) ∧ (S 7 = true → ud14 = .pointer (some ⟨b5, 1, none⟩)) ∧ (S 8 = true → ud15 = .slice ao6 u1.abs.length cap7) ∧ (S 9 = true → ud16 = .int .u64 u2) ∧ (S 10 = true → ud17 = .slice ao39 (gleftS u1.abs u2).length cap40) ∧ (S 11 = true → ud18 = .pointer (some ⟨b1, 0, none⟩)) ∧ (S 11 = false → rh0 = .row b1 [.bool u0.neg, .slice ao2 u0.abs.length cap3] 93) ∧ (S 11 = true → rh0 = .row b1 [.bool ((ggive u0 u1.neg (gleftS u1.abs u2)).neg), .slice ao49 ((ggive u0 u1.neg (gleftS u1.abs u2)).abs).length cap50] 93) ∧ (rh1 = .row b5 [.bool u1.neg, .slice ao6 u1.abs.length cap7] 93) ∧ (S 10 = true → SlR (tyInt .u32) Z58 ao39 cap40 (gleftS u1.abs u2)) ∧ (S 11 = true → SlR (tyInt .u32) Z58 ao49 cap50 ((ggive u0 u1.neg (gleftS u1.abs u2)).abs))) ?h0 ?hs ?hE)
 case h0 =>
  have hF60 := hF14.any 6
  have hF61 := hF60.any 7
  have hF62 := hF61.any 8
  have hF63 := hF62.any 9
  have hF64 := hF63.any 10
  have hF65 := hF64.any 11
  have hF66 := hF65.any 12
  have hF67 := hF66.any 13
  have hF68 := hF67.any 14
  have hF69 := hF68.any 15
  have hF70 := hF69.any 16
  have hF71 := hF70.any 17
  have hF72 := hF71.any 18
  have hM73 := (hM0.perm lpr).drew
  exact ⟨none, 0, none, 0, a12.tmps.getD 6 undef, a12.tmps.getD 7 undef, a12.tmps.getD 8 undef, a12.tmps.getD 9 undef, a12.tmps.getD 10 undef, a12.tmps.getD 11 undef, a12.tmps.getD 12 undef, a12.tmps.getD 13 undef, a12.tmps.getD 14 undef, a12.tmps.getD 15 undef, a12.tmps.getD 16 undef, a12.tmps.getD 17 undef, a12.tmps.getD 18 undef, .row b1 [.bool u0.neg, .slice ao2 u0.abs.length cap3] 93, .row b5 [.bool u1.neg, .slice ao6 u1.abs.length cap7] 93, Z, Fz.le.refl _, hF72.reg, hM73, ff, ff, ff, ff, ff, ff, ff, ff, ff, ff, ff, ff, ff, kf, ff, rfl, ff, ff⟩
 case hs =>
  intro S hcl i o hil hi hSi hpre a w1 hI; refine Go.Sy.hid ?_; intro G hG; obtain ⟨ao39, cap40, ao49, cap50, ud6, ud7, ud8, ud9, ud10, ud11, ud12, ud13, ud14, ud15, ud16, ud17, ud18, rh0, rh1, Z58, hle59, hFx, hMx, cu6, cu7, cu8, cu9, cu10, cu11, cu12, cu13, cu14, cu15, cu16, cu17, cu18, cr0_0, cr0_1, cr1_0, cf0, hI⟩ := hI; have cf1 := hI; clear hI
  have hcase : i = 0 ∨ i = 1 ∨ i = 2 ∨ i = 3 ∨ i = 4 ∨ i = 5 ∨ i = 6 ∨ i = 7 ∨ i = 8 ∨ i = 9 ∨ i = 10 ∨ i = 11 ∨ i = 12 := by clear hi; omega
  rcases hcase with rfl | rfl | rfl | rfl | rfl | rfl | rfl | rfl | rfl | rfl | rfl | rfl | rfl
  ·
   obtain rfl := oj hi
   have hx0 := hSi
   have hx11 := ngF hcl 11 0 hx0
   have hx12 := ngF hcl 12 0 hx0
   obtain rfl := cr0_0 hx11
   obtain rfl := cr1_0
   refine hG (any_step ?_); clear hG G; intro A J hJ
   have hle0 := Fz.le.trans hle0 hle59
   have hzst := Fz.le.refl Z58
   have hs74 := hs4.mono hle59
   have hs75 := hs8.mono hle59
   refine s1 hFx 7 (.pointer (some ⟨b1, 0, none⟩)) ?_; intro a76 hF77; clear hFx
   refine nl (qnI (hJ _ _ ?_)); clear hJ J
   exact ⟨ao39, cap40, ao49, cap50, ud6, .pointer (some ⟨b1, 0, none⟩), ud8, ud9, ud10, ud11, ud12, ud13, ud14, ud15, ud16, ud17, ud18, .row b1 [.bool u0.neg, .slice ao2 u0.abs.length cap3] 93, .row b5 [.bool u1.neg, .slice ao6 u1.abs.length cap7] 93, Z58, hle59, hF77.reg, hMx.perm lpr, (nt hx12), kf, cu8, cu9, cu10, cu11, cu12, cu13, cu14, cu15, cu16, cu17, (nt hx11), kf, (nt hx11), rfl, cf0, (nt hx11)⟩
  ·
   obtain rfl := oj hi
   have hx1 := hSi
   have hx2 := ngF hcl 2 1 hx1
   have hx3 := ngF hcl 3 2 hx2
   have hx4 := ngF hcl 4 3 hx3
   have hx11 := ngF hcl 11 4 hx4
   have hx12 := ngF hcl 12 1 hx1
   obtain rfl := cr0_0 hx11
   obtain rfl := cr1_0
   refine hG (any_step ?_); clear hG G; intro A J hJ
   have hle0 := Fz.le.trans hle0 hle59
   have hzst := Fz.le.refl Z58
   have hs79 := hs4.mono hle59
   have hs80 := hs8.mono hle59
   refine s1 hFx 8 (.pointer (some ⟨b5, 0, none⟩)) ?_; intro a81 hF82; clear hFx
   refine nl (qnI (hJ _ _ ?_)); clear hJ J
   exact ⟨ao39, cap40, ao49, cap50, ud6, ud7, .pointer (some ⟨b5, 0, none⟩), ud9, ud10, ud11, ud12, ud13, ud14, ud15, ud16, ud17, ud18, .row b1 [.bool u0.neg, .slice ao2 u0.abs.length cap3] 93, .row b5 [.bool u1.neg, .slice ao6 u1.abs.length cap7] 93, Z58, hle59, hF82.reg, hMx.perm lpr, (nt hx12), cu7, kf, (nt hx2), (nt hx3), (nt hx4), cu12, cu13, cu14, cu15, cu16, cu17, (nt hx11), kf, (nt hx11), rfl, cf0, (nt hx11)⟩
  ·
   obtain rfl := oj hi
   have hx1 := hpre 1 (by kernel_rfl)
   have hx2 := hSi
   have hx3 := ngF hcl 3 2 hx2
   have hx4 := ngF hcl 4 3 hx3
   have hx11 := ngF hcl 11 4 hx4
   have hx12 := ngF hcl 12 2 hx2
   obtain rfl := cu8 hx1
   obtain rfl := cr0_0 hx11
   obtain rfl := cr1_0
   refine hG (any_step ?_); clear hG G; intro A J hJ
   have hle0 := Fz.le.trans hle0 hle59
   have hzst := Fz.le.refl Z58
   have hs84 := hs4.mono hle59
   have hs85 := hs8.mono hle59
   refine s1 hFx 9 (.pointer (some ⟨b5, 0, none⟩)) ?_; intro a86 hF87; clear hFx
   refine nl (qnI (hJ _ _ ?_)); clear hJ J
   exact ⟨ao39, cap40, ao49, cap50, ud6, ud7, .pointer (some ⟨b5, 0, none⟩), .pointer (some ⟨b5, 0, none⟩), ud10, ud11, ud12, ud13, ud14, ud15, ud16, ud17, ud18, .row b1 [.bool u0.neg, .slice ao2 u0.abs.length cap3] 93, .row b5 [.bool u1.neg, .slice ao6 u1.abs.length cap7] 93, Z58, hle59, hF87.reg, hMx.perm lpr, (nt hx12), cu7, kf, kf, (nt hx3), (nt hx4), cu12, cu13, cu14, cu15, cu16, cu17, (nt hx11), kf, (nt hx11), rfl, cf0, (nt hx11)⟩
  ·
   obtain rfl := oj hi
   have hx2 := hpre 2 (by kernel_rfl)
   have hx1 := hcl 2 1 (by kernel_rfl) hx2
   have hx3 := hSi
   have hx4 := ngF hcl 4 3 hx3
   have hx11 := ngF hcl 11 4 hx4
   have hx12 := ngF hcl 12 3 hx3
   obtain rfl := cu8 hx1
   obtain rfl := cu9 hx2
   obtain rfl := cr0_0 hx11
   obtain rfl := cr1_0
   refine hG (any_step ?_); clear hG G; intro A J hJ
   have hle0 := Fz.le.trans hle0 hle59
   have hzst := Fz.le.refl Z58
   have hs89 := hs4.mono hle59
   have hs90 := hs8.mono hle59
   refine s1 hFx 10 (.pointer (some ⟨b5, 0, none⟩)) ?_; intro a91 hF92; clear hFx
   refine nl (qnI (hJ _ _ ?_)); clear hJ J
   exact ⟨ao39, cap40, ao49, cap50, ud6, ud7, .pointer (some ⟨b5, 0, none⟩), .pointer (some ⟨b5, 0, none⟩), .pointer (some ⟨b5, 0, none⟩), ud11, ud12, ud13, ud14, ud15, ud16, ud17, ud18, .row b1 [.bool u0.neg, .slice ao2 u0.abs.length cap3] 93, .row b5 [.bool u1.neg, .slice ao6 u1.abs.length cap7] 93, Z58, hle59, hF92.reg, hMx.perm lpr, (nt hx12), cu7, kf, kf, kf, (nt hx4), cu12, cu13, cu14, cu15, cu16, cu17, (nt hx11), kf, (nt hx11), rfl, cf0, (nt hx11)⟩
  ·
   obtain rfl := oj hi
   have hx3 := hpre 3 (by kernel_rfl)
   have hx2 := hcl 3 2 (by kernel_rfl) hx3
   have hx1 := hcl 2 1 (by kernel_rfl) hx2
   have hx4 := hSi
   have hx11 := ngF hcl 11 4 hx4
   have hx12 := ngF hcl 12 4 hx4
   obtain rfl := cu8 hx1
   obtain rfl := cu9 hx2
   obtain rfl := cu10 hx3
   obtain rfl := cr0_0 hx11
   obtain rfl := cr1_0
   refine hG (any_step ?_); clear hG G; intro A J hJ
   have hle0 := Fz.le.trans hle0 hle59
   have hzst := Fz.le.refl Z58
   have hs94 := hs4.mono hle59
   have hs95 := hs8.mono hle59
   refine l1 hFx hMx 11 1 0 (.bool u1.neg) rfl rfl ?_; intro a96 hF97; clear hFx
   refine nl (qnI (hJ _ _ ?_)); clear hJ J
   exact ⟨ao39, cap40, ao49, cap50, ud6, ud7, .pointer (some ⟨b5, 0, none⟩), .pointer (some ⟨b5, 0, none⟩), .pointer (some ⟨b5, 0, none⟩), .bool u1.neg, ud12, ud13, ud14, ud15, ud16, ud17, ud18, .row b1 [.bool u0.neg, .slice ao2 u0.abs.length cap3] 93, .row b5 [.bool u1.neg, .slice ao6 u1.abs.length cap7] 93, Z58, hle59, hF97.reg, hMx.perm lpr, (nt hx12), cu7, kf, kf, kf, kf, cu12, cu13, cu14, cu15, cu16, cu17, (nt hx11), kf, (nt hx11), rfl, cf0, (nt hx11)⟩
  ·
   obtain rfl := oj hi
   have hx5 := hSi
   have hx6 := ngF hcl 6 5 hx5
   have hx7 := ngF hcl 7 6 hx6
   have hx8 := ngF hcl 8 7 hx7
   have hx10 := ngF hcl 10 8 hx8
   have hx11 := ngF hcl 11 10 hx10
   have hx12 := ngF hcl 12 5 hx5
   obtain rfl := cr0_0 hx11
   obtain rfl := cr1_0
   refine hG (any_step ?_); clear hG G; intro A J hJ
   have hle0 := Fz.le.trans hle0 hle59
   have hzst := Fz.le.refl Z58
   have hs99 := hs4.mono hle59
   have hs100 := hs8.mono hle59
   refine s1 hFx 12 (.pointer (some ⟨b5, 0, none⟩)) ?_; intro a101 hF102; clear hFx
   refine nl (qnI (hJ _ _ ?_)); clear hJ J
   exact ⟨ao39, cap40, ao49, cap50, ud6, ud7, ud8, ud9, ud10, ud11, .pointer (some ⟨b5, 0, none⟩), ud13, ud14, ud15, ud16, ud17, ud18, .row b1 [.bool u0.neg, .slice ao2 u0.abs.length cap3] 93, .row b5 [.bool u1.neg, .slice ao6 u1.abs.length cap7] 93, Z58, hle59, hF102.reg, hMx.perm lpr, (nt hx12), cu7, cu8, cu9, cu10, cu11, kf, (nt hx6), (nt hx7), (nt hx8), cu16, (nt hx10), (nt hx11), kf, (nt hx11), rfl, (nt hx10), (nt hx11)⟩
  ·
   obtain rfl := oj hi
   have hx5 := hpre 5 (by kernel_rfl)
   have hx6 := hSi
   have hx7 := ngF hcl 7 6 hx6
   have hx8 := ngF hcl 8 7 hx7
   have hx10 := ngF hcl 10 8 hx8
   have hx11 := ngF hcl 11 10 hx10
   have hx12 := ngF hcl 12 6 hx6
   obtain rfl := cu12 hx5
   obtain rfl := cr0_0 hx11
   obtain rfl := cr1_0
   refine hG (any_step ?_); clear hG G; intro A J hJ
   have hle0 := Fz.le.trans hle0 hle59
   have hzst := Fz.le.refl Z58
   have hs104 := hs4.mono hle59
   have hs105 := hs8.mono hle59
   refine s1 hFx 13 (.pointer (some ⟨b5, 0, none⟩)) ?_; intro a106 hF107; clear hFx
   refine nl (qnI (hJ _ _ ?_)); clear hJ J
   exact ⟨ao39, cap40, ao49, cap50, ud6, ud7, ud8, ud9, ud10, ud11, .pointer (some ⟨b5, 0, none⟩), .pointer (some ⟨b5, 0, none⟩), ud14, ud15, ud16, ud17, ud18, .row b1 [.bool u0.neg, .slice ao2 u0.abs.length cap3] 93, .row b5 [.bool u1.neg, .slice ao6 u1.abs.length cap7] 93, Z58, hle59, hF107.reg, hMx.perm lpr, (nt hx12), cu7, cu8, cu9, cu10, cu11, kf, kf, (nt hx7), (nt hx8), cu16, (nt hx10), (nt hx11), kf, (nt hx11), rfl, (nt hx10), (nt hx11)⟩
  ·
   obtain rfl := oj hi
   have hx6 := hpre 6 (by kernel_rfl)
   have hx5 := hcl 6 5 (by kernel_rfl) hx6
   have hx7 := hSi
   have hx8 := ngF hcl 8 7 hx7
   have hx10 := ngF hcl 10 8 hx8
   have hx11 := ngF hcl 11 10 hx10
   have hx12 := ngF hcl 12 7 hx7
   obtain rfl := cu12 hx5
   obtain rfl := cu13 hx6
   obtain rfl := cr0_0 hx11
   obtain rfl := cr1_0
   refine hG (any_step ?_); clear hG G; intro A J hJ
   have hle0 := Fz.le.trans hle0 hle59
   have hzst := Fz.le.refl Z58
   have hs109 := hs4.mono hle59
   have hs110 := hs8.mono hle59
   refine s1 hFx 14 (.pointer (some ⟨b5, 1, none⟩)) ?_; intro a111 hF112; clear hFx
   refine nl (qnI (hJ _ _ ?_)); clear hJ J
   exact ⟨ao39, cap40, ao49, cap50, ud6, ud7, ud8, ud9, ud10, ud11, .pointer (some ⟨b5, 0, none⟩), .pointer (some ⟨b5, 0, none⟩), .pointer (some ⟨b5, 1, none⟩), ud15, ud16, ud17, ud18, .row b1 [.bool u0.neg, .slice ao2 u0.abs.length cap3] 93, .row b5 [.bool u1.neg, .slice ao6 u1.abs.length cap7] 93, Z58, hle59, hF112.reg, hMx.perm lpr, (nt hx12), cu7, cu8, cu9, cu10, cu11, kf, kf, kf, (nt hx8), cu16, (nt hx10), (nt hx11), kf, (nt hx11), rfl, (nt hx10), (nt hx11)⟩
  ·
   obtain rfl := oj hi
   have hx7 := hpre 7 (by kernel_rfl)
   have hx6 := hcl 7 6 (by kernel_rfl) hx7
   have hx5 := hcl 6 5 (by kernel_rfl) hx6
   have hx8 := hSi
   have hx10 := ngF hcl 10 8 hx8
   have hx11 := ngF hcl 11 10 hx10
   have hx12 := ngF hcl 12 8 hx8
   obtain rfl := cu12 hx5
   obtain rfl := cu13 hx6
   obtain rfl := cu14 hx7
   obtain rfl := cr0_0 hx11
   obtain rfl := cr1_0
   refine hG (any_step ?_); clear hG G; intro A J hJ
   have hle0 := Fz.le.trans hle0 hle59
   have hzst := Fz.le.refl Z58
   have hs114 := hs4.mono hle59
   have hs115 := hs8.mono hle59
   refine l1 hFx hMx 15 1 1 (.slice ao6 u1.abs.length cap7) rfl rfl ?_; intro a116 hF117; clear hFx
   refine nl (qnI (hJ _ _ ?_)); clear hJ J
   exact ⟨ao39, cap40, ao49, cap50, ud6, ud7, ud8, ud9, ud10, ud11, .pointer (some ⟨b5, 0, none⟩), .pointer (some ⟨b5, 0, none⟩), .pointer (some ⟨b5, 1, none⟩), .slice ao6 u1.abs.length cap7, ud16, ud17, ud18, .row b1 [.bool u0.neg, .slice ao2 u0.abs.length cap3] 93, .row b5 [.bool u1.neg, .slice ao6 u1.abs.length cap7] 93, Z58, hle59, hF117.reg, hMx.perm lpr, (nt hx12), cu7, cu8, cu9, cu10, cu11, kf, kf, kf, kf, cu16, (nt hx10), (nt hx11), kf, (nt hx11), rfl, (nt hx10), (nt hx11)⟩
  ·
   obtain rfl := oj hi
   have hx9 := hSi
   have hx10 := ngF hcl 10 9 hx9
   have hx11 := ngF hcl 11 10 hx10
   have hx12 := ngF hcl 12 9 hx9
   obtain rfl := cr0_0 hx11
   obtain rfl := cr1_0
   refine hG (any_step ?_); clear hG G; intro A J hJ
   have hle0 := Fz.le.trans hle0 hle59
   have hzst := Fz.le.refl Z58
   have hs119 := hs4.mono hle59
   have hs120 := hs8.mono hle59
   refine s1 hFx 16 (.int .u64 u2) ?_; intro a121 hF122; clear hFx
   refine nl (qnI (hJ _ _ ?_)); clear hJ J
   exact ⟨ao39, cap40, ao49, cap50, ud6, ud7, ud8, ud9, ud10, ud11, ud12, ud13, ud14, ud15, .int .u64 u2, ud17, ud18, .row b1 [.bool u0.neg, .slice ao2 u0.abs.length cap3] 93, .row b5 [.bool u1.neg, .slice ao6 u1.abs.length cap7] 93, Z58, hle59, hF122.reg, hMx.perm lpr, (nt hx12), cu7, cu8, cu9, cu10, cu11, cu12, cu13, cu14, cu15, kf, (nt hx10), (nt hx11), kf, (nt hx11), rfl, (nt hx10), (nt hx11)⟩
  ·
   obtain rfl := oj hi
   have hx9 := hpre 9 (by kernel_rfl)
   have hx8 := hpre 8 (by kernel_rfl)
   have hx7 := hcl 8 7 (by kernel_rfl) hx8
   have hx6 := hcl 7 6 (by kernel_rfl) hx7
   have hx5 := hcl 6 5 (by kernel_rfl) hx6
   have hx10 := hSi
   have hx11 := ngF hcl 11 10 hx10
   have hx12 := ngF hcl 12 10 hx10
   obtain rfl := cu12 hx5
   obtain rfl := cu13 hx6
   obtain rfl := cu14 hx7
   obtain rfl := cu15 hx8
   obtain rfl := cu16 hx9
   obtain rfl := cr0_0 hx11
   obtain rfl := cr1_0
   refine hG (any_step ?_); clear hG G; intro A J hJ
   have hle0 := Fz.le.trans hle0 hle59
   have hzst := Fz.le.refl Z58
   have hs124 := hs4.mono hle59
   have hs125 := hs8.mono hle59
   refine cl hFx 92 #[.slice ao6 u1.abs.length cap7, .int .u64 u2] (nog rfl _) rfl (by kernel_rfl) (by kernel_rfl) ?_
   refine (gleft_fun u1.abs u2 hcd10_0 ao6 cap7 _ _ hs125 hMx.fz).mono ?_; rintro _ wd126 ⟨ao130, cap131, Z133, rfl, hs132, hm⟩; refine ⟨_, rfl, ?_⟩; intro a127 hF128; have hM129 := hMx.callZ hm; have hle134 := hm.ext.le; clear hm hMx hFx
   replace hzst := hzst.mono hle134
   replace hs124 := hs124.mono hle134
   replace hs125 := hs125.mono hle134
   replace hle0 := Fz.le.trans hle0 hle134
   have hM135 : Mem B [] w0 Z0 ((.row b1 [.bool u0.neg, .slice ao2 u0.abs.length cap3] 93) :: (.row b5 [.bool u1.neg, .slice ao6 u1.abs.length cap7] 93) :: Rr) Z133 wd126 := hM129; clear hM129
   refine nl (qnI (hJ _ _ ?_)); clear hJ J
   exact ⟨ao130, cap131, ao49, cap50, ud6, ud7, ud8, ud9, ud10, ud11, .pointer (some ⟨b5, 0, none⟩), .pointer (some ⟨b5, 0, none⟩), .pointer (some ⟨b5, 1, none⟩), .slice ao6 u1.abs.length cap7, .int .u64 u2, .slice ao130 (gleftS u1.abs u2).length cap131, ud18, .row b1 [.bool u0.neg, .slice ao2 u0.abs.length cap3] 93, .row b5 [.bool u1.neg, .slice ao6 u1.abs.length cap7] 93, Z133, hle59.trans hzst, hF128.reg, hM135.perm lpr, (nt hx12), cu7, cu8, cu9, cu10, cu11, kf, kf, kf, kf, kf, kf, (nt hx11), kf, (nt hx11), rfl, (fun _ => hs132), (nt hx11)⟩
  ·
   obtain rfl := oj hi
   have hx10 := hpre 10 (by kernel_rfl)
   have hx4 := hpre 4 (by kernel_rfl)
   have hx0 := hpre 0 (by kernel_rfl)
   have hx9 := hcl 10 9 (by kernel_rfl) hx10
   have hx8 := hcl 10 8 (by kernel_rfl) hx10
   have hx3 := hcl 4 3 (by kernel_rfl) hx4
   have hx7 := hcl 8 7 (by kernel_rfl) hx8
   have hx2 := hcl 3 2 (by kernel_rfl) hx3
   have hx6 := hcl 7 6 (by kernel_rfl) hx7
   have hx1 := hcl 2 1 (by kernel_rfl) hx2
   have hx5 := hcl 6 5 (by kernel_rfl) hx6
   have hx11 := hSi
   have hx12 := ngF hcl 12 11 hx11
   obtain rfl := cu7 hx0
   obtain rfl := cu8 hx1
   obtain rfl := cu9 hx2
   obtain rfl := cu10 hx3
   obtain rfl := cu11 hx4
   obtain rfl := cu12 hx5
   obtain rfl := cu13 hx6
   obtain rfl := cu14 hx7
   obtain rfl := cu15 hx8
   obtain rfl := cu16 hx9
   obtain rfl := cu17 hx10
   obtain rfl := cr0_0 hx11
   obtain rfl := cr1_0
   refine hG (any_step ?_); clear hG G; intro A J hJ
   have hle0 := Fz.le.trans hle0 hle59
   have hzst := Fz.le.refl Z58
   have hs137 := hs4.mono hle59
   have hs138 := hs8.mono hle59
   have hs139 := cf0 hx10
   refine cl hFx 91 #[.pointer (some ⟨b1, 0, none⟩), .bool u1.neg, .slice ao39 (gleftS u1.abs u2).length cap40] (nog rfl _) rfl (by kernel_rfl) (by kernel_rfl) ?_
   refine (ggive_fun u0 u1.neg (gleftS u1.abs u2) b1 ao2 cap3 ao39 cap40 _ _ _ _ _ _ hs137 hs139 hMx hMx.fz).mono ?_; rintro _ wd140 ⟨ao144, cap145, Z147, rfl, hle148, hs146, hm⟩; refine ⟨_, rfl, ?_⟩; intro a141 hF142; have hM143 := hm; clear hm hMx hFx
   replace hzst := hzst.mono hle148
   replace hs137 := hs137.mono hle148
   replace hs138 := hs138.mono hle148
   replace hs139 := hs139.mono hle148
   replace hle0 := Fz.le.trans hle0 hle148
   have hM149 : Mem B [] w0 Z0 ((.row b1 [.bool ((ggive u0 u1.neg (gleftS u1.abs u2)).neg), .slice ao144 ((ggive u0 u1.neg (gleftS u1.abs u2)).abs).length cap145] 93) :: (.row b5 [.bool u1.neg, .slice ao6 u1.abs.length cap7] 93) :: Rr) Z147 wd140 := hM143; clear hM143
   refine nl (qnI (hJ _ _ ?_)); clear hJ J
   exact ⟨ao39, cap40, ao144, cap145, ud6, .pointer (some ⟨b1, 0, none⟩), .pointer (some ⟨b5, 0, none⟩), .pointer (some ⟨b5, 0, none⟩), .pointer (some ⟨b5, 0, none⟩), .bool u1.neg, .pointer (some ⟨b5, 0, none⟩), .pointer (some ⟨b5, 0, none⟩), .pointer (some ⟨b5, 1, none⟩), .slice ao6 u1.abs.length cap7, .int .u64 u2, .slice ao39 (gleftS u1.abs u2).length cap40, .pointer (some ⟨b1, 0, none⟩), .row b1 [.bool ((ggive u0 u1.neg (gleftS u1.abs u2)).neg), .slice ao144 ((ggive u0 u1.neg (gleftS u1.abs u2)).abs).length cap145] 93, .row b5 [.bool u1.neg, .slice ao6 u1.abs.length cap7] 93, Z147, hle59.trans hzst, hF142.reg, hM149.perm lpr, (nt hx12), kf, kf, kf, kf, kf, kf, kf, kf, kf, kf, kf, kf, nu, kf, rfl, (fun _ => hs139), (fun _ => hs146)⟩
  ·
   obtain rfl := oj hi
   have hx11 := hpre 11 (by kernel_rfl)
   have hx10 := hpre 10 (by kernel_rfl)
   have hx9 := hpre 9 (by kernel_rfl)
   have hx8 := hpre 8 (by kernel_rfl)
   have hx7 := hpre 7 (by kernel_rfl)
   have hx6 := hpre 6 (by kernel_rfl)
   have hx5 := hpre 5 (by kernel_rfl)
   have hx4 := hpre 4 (by kernel_rfl)
   have hx3 := hpre 3 (by kernel_rfl)
   have hx2 := hpre 2 (by kernel_rfl)
   have hx1 := hpre 1 (by kernel_rfl)
   have hx0 := hpre 0 (by kernel_rfl)
   have hx12 := hSi
   obtain rfl := cu7 hx0
   obtain rfl := cu8 hx1
   obtain rfl := cu9 hx2
   obtain rfl := cu10 hx3
   obtain rfl := cu11 hx4
   obtain rfl := cu12 hx5
   obtain rfl := cu13 hx6
   obtain rfl := cu14 hx7
   obtain rfl := cu15 hx8
   obtain rfl := cu16 hx9
   obtain rfl := cu17 hx10
   obtain rfl := cu18 hx11
   obtain rfl := cr0_1 hx11
   obtain rfl := cr1_0
   refine hG (any_step ?_); clear hG G; intro A J hJ
   have hle0 := Fz.le.trans hle0 hle59
   have hzst := Fz.le.refl Z58
   have hs151 := hs4.mono hle59
   have hs152 := hs8.mono hle59
   have hs153 := cf0 hx10
   have hs154 := cf1 hx11
   refine s1 hFx 6 (.pointer (some ⟨b1, 0, none⟩)) ?_; intro a155 hF156; clear hFx
   refine nl (qnI (hJ _ _ ?_)); clear hJ J
   exact ⟨ao39, cap40, ao49, cap50, .pointer (some ⟨b1, 0, none⟩), .pointer (some ⟨b1, 0, none⟩), .pointer (some ⟨b5, 0, none⟩), .pointer (some ⟨b5, 0, none⟩), .pointer (some ⟨b5, 0, none⟩), .bool u1.neg, .pointer (some ⟨b5, 0, none⟩), .pointer (some ⟨b5, 0, none⟩), .pointer (some ⟨b5, 1, none⟩), .slice ao6 u1.abs.length cap7, .int .u64 u2, .slice ao39 (gleftS u1.abs u2).length cap40, .pointer (some ⟨b1, 0, none⟩), .row b1 [.bool ((ggive u0 u1.neg (gleftS u1.abs u2)).neg), .slice ao49 ((ggive u0 u1.neg (gleftS u1.abs u2)).abs).length cap50] 93, .row b5 [.bool u1.neg, .slice ao6 u1.abs.length cap7] 93, Z58, hle59, hF156.reg, hMx.perm lpr, kf, kf, kf, kf, kf, kf, kf, kf, kf, kf, kf, kf, kf, (tn hx11), kf, rfl, (fun _ => hs153), (fun _ => hs154)⟩
 case hE =>
  intro S hS a158 wd159 hI; refine Go.Sy.hid ?_; intro G hG; obtain ⟨ao39, cap40, ao49, cap50, ud6, ud7, ud8, ud9, ud10, ud11, ud12, ud13, ud14, ud15, ud16, ud17, ud18, rh0, rh1, Z58, hle59, hFx, hMx, cu6, cu7, cu8, cu9, cu10, cu11, cu12, cu13, cu14, cu15, cu16, cu17, cu18, cr0_0, cr0_1, cr1_0, cf0, hI⟩ := hI; have cf1 := hI; clear hI; refine hG ?_; clear hG G
  obtain rfl := cu6 (hS 12 (by decide))
  obtain rfl := cu7 (hS 0 (by decide))
  obtain rfl := cu8 (hS 1 (by decide))
  obtain rfl := cu9 (hS 2 (by decide))
  obtain rfl := cu10 (hS 3 (by decide))
  obtain rfl := cu11 (hS 4 (by decide))
  obtain rfl := cu12 (hS 5 (by decide))
  obtain rfl := cu13 (hS 6 (by decide))
  obtain rfl := cu14 (hS 7 (by decide))
  obtain rfl := cu15 (hS 8 (by decide))
  obtain rfl := cu16 (hS 9 (by decide))
  obtain rfl := cu17 (hS 10 (by decide))
  obtain rfl := cu18 (hS 11 (by decide))
  obtain rfl := cr0_1 (hS 11 (by decide))
  obtain rfl := cr1_0
  have hle0 := Fz.le.trans hle0 hle59
  have hs160 := hs4.mono hle59
  have hs161 := hs8.mono hle59
  have hs162 := cf0 (hS 10 (by decide))
  have hs163 := cf1 (hS 11 (by decide))
  refine thn ?_
  refine wp_ret ?_
  refine rt (fn := Tryd.f55) (v := .pointer (some ⟨b1, 0, none⟩)) hFx (re1 hFx (fn := Tryd.f55) rfl (by kernel_rfl)) ?_
  exact ⟨((ggive u0 u1.neg (gleftS u1.abs u2)), u1), ao49, cap50, ao6, cap7, Z58, rfl, hp57, hle0, hs163, hs161, hMx.keep (List.Sublist.cons_cons _ (List.Sublist.cons_cons _ (List.Sublist.refl _)))⟩

set_option maxRecDepth 100000 in
set_option maxHeartbeats 0 in
theorem glshA_walk (u0 : BInt) (u2 : Int) (b1 : Nat) (ao2 : Option Addr) (cap3 : Nat) (B : Nat) (w0 : World) (Z0 : Fz) (Rr : List Res) (Z : Fz) (w : World) (hs4 : SlR (tyInt .u32) Z ao2 cap3 u0.abs) (hM0 : Mem B [] w0 Z0 ((.row b1 [.bool u0.neg, .slice ao2 u0.abs.length cap3] 93) :: Rr) Z w) (hZ : Z.on w) {K : BInt → Prop} (hp : glshA_vc u0 u2 K) : Calls Tryd.prog 55 #[.pointer (some ⟨b1, 0, none⟩), .pointer (some ⟨b1, 0, none⟩), .int .u64 u2] w fun e w' => ∃ (r : BInt) (ao1001 : Option Addr) (cap1002 : Nat) (Z' : Fz), e = .returned (.pointer (some ⟨b1, 0, none⟩)) ∧ K r ∧ Fz.le Z Z' ∧ SlR (tyInt .u32) Z' ao1001 cap1002 r.abs ∧ Mem B [] w0 Z0 ((.row b1 [.bool r.neg, .slice ao1001 r.abs.length cap1002] 93) :: Rr) Z' w' := by
 refine enter0 Tryd.func55 rfl rfl (by kernel_rfl) ?_; intro a0 hF0; have hle0 := Fz.le.refl Z
 have hp5 := hp (hs4.small); clear hp
 refine sqH ?_; intro hQ6Q hQ6
 refine s1 hF0 6 (.pointer none) ?_; intro a7 hF8; clear hF0
 refine nlH (hQ6 _ _ ?_); clear hQ6 hQ6Q
 have hF9 : Fr 19 [] [⟨0, [], .pointer (some ⟨b1, 0, none⟩)⟩, ⟨1, [], .pointer (some ⟨b1, 0, none⟩)⟩, ⟨2, [], .int .u64 u2⟩] a7 := hF8.reg; clear hF8
 have hcd10_0 := hp5.1; have hp52 := hp5.2; clear hp5
 refine wp_seq (any_invE mixed [[], [], [1], [2], [3], [], [5], [6], [7], [], [8, 9], [0, 4, 10], [0, 1, 2, 3, 4, 5, 6, 7, 8, 9, 10, 11]] 13 (fun S a w1 => ∃ (ao34 : Option Addr) (cap35 : Nat) (ao44 : Option Addr) (cap45 : Nat) (ud6 : Value) (ud7 : Value) (ud8 : Value) (ud9 : Value) (ud10 : Value) (ud11 : Value) (ud12 : Value) (ud13 : Value) (ud14 : Value) (ud15 : Value) (ud16 : Value) (ud17 : Value) (ud18 : Value) (rh0 : Res) (Z53 : Fz), Fz.le Z Z53 ∧ Fr 19 [] [⟨0, [], .pointer (some ⟨b1, 0, none⟩)⟩, ⟨1, [], .pointer (some ⟨b1, 0, none⟩)⟩, ⟨2, [], .int .u64 u2⟩, ⟨6, [], ud6⟩, ⟨7, [], ud7⟩, ⟨8, [], ud8⟩, ⟨9, [], ud9⟩, ⟨10, [], ud10⟩, ⟨11, [], ud11⟩, ⟨12, [], ud12⟩, ⟨13, [], ud13⟩, ⟨14, [], ud14⟩, ⟨15, [], ud15⟩, ⟨16, [], ud16⟩, ⟨17, [], ud17⟩, ⟨18, [], ud18⟩] a ∧ Mem B [] w0 Z0 (rh0 :: Rr) Z53 w1 ∧ (S 12 = true → ud6 = .pointer (some ⟨b1, 0, none⟩)) ∧ (S 0 = true → ud7 = .pointer (some ⟨b1, 0, none⟩)) ∧ (S 1 = true → ud8 = .pointer (some ⟨b1, 0, none⟩)) ∧ (S 2 = true → ud9 = .pointer (some ⟨b1, 0, none⟩)) ∧ (S 3 = true → ud10 = .pointer (some ⟨b1, 0, none⟩)) ∧ (S 4 = true → ud11 = .bool u0.neg) ∧ (S 5 = true → ud12 = .pointer (some ⟨b1, 0, none⟩)) ∧ (S 6 = true → ud13 = .pointer (some ⟨b1, 0, none⟩)) ∧ (S 7 = true → ud14 = .pointer (some ⟨b1, 1, none⟩)) ∧ (S 8 = true → ud15 = .slice ao2 u0.abs.length cap3) ∧ (S 9 = true → ud16 = .int .u64 u2) ∧ (S 10 = true → ud17 = .slice ao34 (gleftS u0.abs u2).length cap35) ∧ (S 11 = true → ud18 = .pointer (some ⟨b1, 0, none⟩)) ∧ (S 11 = false → rh0 = .row b1 [.bool u0.neg, .slice ao2 u0.abs.length cap3] 93) ∧ (S 11 = true → rh0 = .row b1 [.bool ((ggive u0 u0.neg (gleftS u0.abs u2)).neg), .slice ao44 ((ggive u0 u0.neg (gleftS u0.abs u2)).abs).length cap45] 93) ∧ (S 10 = true → SlR (tyInt .u32) Z53 ao34 cap35 (gleftS u0.abs u2)) ∧ (S 11 = true → SlR (tyInt .u32) Z53 ao44 cap45 ((ggive u0 u0.neg (gleftS u0.abs u2)).abs))) ?h0 ?hs ?hE)
 case h0 =>
  have hF55 := hF9.any 6
  have hF56 := hF55.any 7
  have hF57 := hF56.any 8
  have hF58 := hF57.any 9
  have hF59 := hF58.any 10
  have hF60 := hF59.any 11
  have hF61 := hF60.any 12
  have hF62 := hF61.any 13
  have hF63 := hF62.any 14
  have hF64 := hF63.any 15
  have hF65 := hF64.any 16
  have hF66 := hF65.any 17
  have hF67 := hF66.any 18
  have hM68 := (hM0.perm lpr).drew
  exact ⟨none, 0, none, 0, a7.tmps.getD 6 undef, a7.tmps.getD 7 undef, a7.tmps.getD 8 undef, a7.tmps.getD 9 undef, a7.tmps.getD 10 undef, a7.tmps.getD 11 undef, a7.tmps.getD 12 undef, a7.tmps.getD 13 undef, a7.tmps.getD 14 undef, a7.tmps.getD 15 undef, a7.tmps.getD 16 undef, a7.tmps.getD 17 undef, a7.tmps.getD 18 undef, .row b1 [.bool u0.neg, .slice ao2 u0.abs.length cap3] 93, Z, Fz.le.refl _, hF67.reg, hM68, ff, ff, ff, ff, ff, ff, ff, ff, ff, ff, ff, ff, ff, kf, ff, ff, ff⟩
 case hs =>
  intro S hcl i o hil hi hSi hpre a w1 hI; refine Go.Sy.hid ?_; intro G hG; obtain ⟨ao34, cap35, ao44, cap45, ud6, ud7, ud8, ud9, ud10, ud11, ud12, ud13, ud14, ud15, ud16, ud17, ud18, rh0, Z53, hle54, hFx, hMx, cu6, cu7, cu8, cu9, cu10, cu11, cu12, cu13, cu14, cu15, cu16, cu17, cu18, cr0_0, cr0_1, cf0, hI⟩ := hI; have cf1 := hI; clear hI
  have hcase : i = 0 ∨ i = 1 ∨ i = 2 ∨ i = 3 ∨ i = 4 ∨ i = 5 ∨ i = 6 ∨ i = 7 ∨ i = 8 ∨ i = 9 ∨ i = 10 ∨ i = 11 ∨ i = 12 := by clear hi; omega
  rcases hcase with rfl | rfl | rfl | rfl | rfl | rfl | rfl | rfl | rfl | rfl | rfl | rfl | rfl
  ·
   obtain rfl := oj hi
   have hx0 := hSi
   have hx11 := ngF hcl 11 0 hx0
   have hx12 := ngF hcl 12 0 hx0
   obtain rfl := cr0_0 hx11
   refine hG (any_step ?_); clear hG G; intro A J hJ
   have hle0 := Fz.le.trans hle0 hle54
   have hzst := Fz.le.refl Z53
   have hs69 := hs4.mono hle54
   refine s1 hFx 7 (.pointer (some ⟨b1, 0, none⟩)) ?_; intro a70 hF71; clear hFx
   refine nl (qnI (hJ _ _ ?_)); clear hJ J
   exact ⟨ao34, cap35, ao44, cap45, ud6, .pointer (some ⟨b1, 0, none⟩), ud8, ud9, ud10, ud11, ud12, ud13, ud14, ud15, ud16, ud17, ud18, .row b1 [.bool u0.neg, .slice ao2 u0.abs.length cap3] 93, Z53, hle54, hF71.reg, hMx.perm lpr, (nt hx12), kf, cu8, cu9, cu10, cu11, cu12, cu13, cu14, cu15, cu16, cu17, (nt hx11), kf, (nt hx11), cf0, (nt hx11)⟩
  ·
   obtain rfl := oj hi
   have hx1 := hSi
   have hx2 := ngF hcl 2 1 hx1
   have hx3 := ngF hcl 3 2 hx2
   have hx4 := ngF hcl 4 3 hx3
   have hx11 := ngF hcl 11 4 hx4
   have hx12 := ngF hcl 12 1 hx1
   obtain rfl := cr0_0 hx11
   refine hG (any_step ?_); clear hG G; intro A J hJ
   have hle0 := Fz.le.trans hle0 hle54
   have hzst := Fz.le.refl Z53
   have hs73 := hs4.mono hle54
   refine s1 hFx 8 (.pointer (some ⟨b1, 0, none⟩)) ?_; intro a74 hF75; clear hFx
   refine nl (qnI (hJ _ _ ?_)); clear hJ J
   exact ⟨ao34, cap35, ao44, cap45, ud6, ud7, .pointer (some ⟨b1, 0, none⟩), ud9, ud10, ud11, ud12, ud13, ud14, ud15, ud16, ud17, ud18, .row b1 [.bool u0.neg, .slice ao2 u0.abs.length cap3] 93, Z53, hle54, hF75.reg, hMx.perm lpr, (nt hx12), cu7, kf, (nt hx2), (nt hx3), (nt hx4), cu12, cu13, cu14, cu15, cu16, cu17, (nt hx11), kf, (nt hx11), cf0, (nt hx11)⟩
  ·
   obtain rfl := oj hi
   have hx1 := hpre 1 (by kernel_rfl)
   have hx2 := hSi
   have hx3 := ngF hcl 3 2 hx2
   have hx4 := ngF hcl 4 3 hx3
   have hx11 := ngF hcl 11 4 hx4
   have hx12 := ngF hcl 12 2 hx2
   obtain rfl := cu8 hx1
   obtain rfl := cr0_0 hx11
   refine hG (any_step ?_); clear hG G; intro A J hJ
   have hle0 := Fz.le.trans hle0 hle54
   have hzst := Fz.le.refl Z53
   have hs77 := hs4.mono hle54
   refine s1 hFx 9 (.pointer (some ⟨b1, 0, none⟩)) ?_; intro a78 hF79; clear hFx
   refine nl (qnI (hJ _ _ ?_)); clear hJ J
   exact ⟨ao34, cap35, ao44, cap45, ud6, ud7, .pointer (some ⟨b1, 0, none⟩), .pointer (some ⟨b1, 0, none⟩), ud10, ud11, ud12, ud13, ud14, ud15, ud16, ud17, ud18, .row b1 [.bool u0.neg, .slice ao2 u0.abs.length cap3] 93, Z53, hle54, hF79.reg, hMx.perm lpr, (nt hx12), cu7, kf, kf, (nt hx3), (nt hx4), cu12, cu13, cu14, cu15, cu16, cu17, (nt hx11), kf, (nt hx11), cf0, (nt hx11)⟩
  ·
   obtain rfl := oj hi
   have hx2 := hpre 2 (by kernel_rfl)
   have hx1 := hcl 2 1 (by kernel_rfl) hx2
   have hx3 := hSi
   have hx4 := ngF hcl 4 3 hx3
   have hx11 := ngF hcl 11 4 hx4
   have hx12 := ngF hcl 12 3 hx3
   obtain rfl := cu8 hx1
   obtain rfl := cu9 hx2
   obtain rfl := cr0_0 hx11
   refine hG (any_step ?_); clear hG G; intro A J hJ
   have hle0 := Fz.le.trans hle0 hle54
   have hzst := Fz.le.refl Z53
   have hs81 := hs4.mono hle54
   refine s1 hFx 10 (.pointer (some ⟨b1, 0, none⟩)) ?_; intro a82 hF83; clear hFx
   refine nl (qnI (hJ _ _ ?_)); clear hJ J
   exact ⟨ao34, cap35, ao44, cap45, ud6, ud7, .pointer (some ⟨b1, 0, none⟩), .pointer (some ⟨b1, 0, none⟩), .pointer (some ⟨b1, 0, none⟩), ud11, ud12, ud13, ud14, ud15, ud16, ud17, ud18, .row b1 [.bool u0.neg, .slice ao2 u0.abs.length cap3] 93, Z53, hle54, hF83.reg, hMx.perm lpr, (nt hx12), cu7, kf, kf, kf, (nt hx4), cu12, cu13, cu14, cu15, cu16, cu17, (nt hx11), kf, (nt hx11), cf0, (nt hx11)⟩
  ·
   obtain rfl := oj hi
   have hx3 := hpre 3 (by kernel_rfl)
   have hx2 := hcl 3 2 (by kernel_rfl) hx3
   have hx1 := hcl 2 1 (by kernel_rfl) hx2
   have hx4 := hSi
   have hx11 := ngF hcl 11 4 hx4
   have hx12 := ngF hcl 12 4 hx4
   obtain rfl := cu8 hx1
   obtain rfl := cu9 hx2
   obtain rfl := cu10 hx3
   obtain rfl := cr0_0 hx11
   refine hG (any_step ?_); clear hG G; intro A J hJ
   have hle0 := Fz.le.trans hle0 hle54
   have hzst := Fz.le.refl Z53
   have hs85 := hs4.mono hle54
   refine l1 hFx hMx 11 0 0 (.bool u0.neg) rfl rfl ?_; intro a86 hF87; clear hFx
   refine nl (qnI (hJ _ _ ?_)); clear hJ J
   exact ⟨ao34, cap35, ao44, cap45, ud6, ud7, .pointer (some ⟨b1, 0, none⟩), .pointer (some ⟨b1, 0, none⟩), .pointer (some ⟨b1, 0, none⟩), .bool u0.neg, ud12, ud13, ud14, ud15, ud16, ud17, ud18, .row b1 [.bool u0.neg, .slice ao2 u0.abs.length cap3] 93, Z53, hle54, hF87.reg, hMx.perm lpr, (nt hx12), cu7, kf, kf, kf, kf, cu12, cu13, cu14, cu15, cu16, cu17, (nt hx11), kf, (nt hx11), cf0, (nt hx11)⟩
  ·
   obtain rfl := oj hi
   have hx5 := hSi
   have hx6 := ngF hcl 6 5 hx5
   have hx7 := ngF hcl 7 6 hx6
   have hx8 := ngF hcl 8 7 hx7
   have hx10 := ngF hcl 10 8 hx8
   have hx11 := ngF hcl 11 10 hx10
   have hx12 := ngF hcl 12 5 hx5
   obtain rfl := cr0_0 hx11
   refine hG (any_step ?_); clear hG G; intro A J hJ
   have hle0 := Fz.le.trans hle0 hle54
   have hzst := Fz.le.refl Z53
   have hs89 := hs4.mono hle54
   refine s1 hFx 12 (.pointer (some ⟨b1, 0, none⟩)) ?_; intro a90 hF91; clear hFx
   refine nl (qnI (hJ _ _ ?_)); clear hJ J
   exact ⟨ao34, cap35, ao44, cap45, ud6, ud7, ud8, ud9, ud10, ud11, .pointer (some ⟨b1, 0, none⟩), ud13, ud14, ud15, ud16, ud17, ud18, .row b1 [.bool u0.neg, .slice ao2 u0.abs.length cap3] 93, Z53, hle54, hF91.reg, hMx.perm lpr, (nt hx12), cu7, cu8, cu9, cu10, cu11, kf, (nt hx6), (nt hx7), (nt hx8), cu16, (nt hx10), (nt hx11), kf, (nt hx11), (nt hx10), (nt hx11)⟩
  ·
   obtain rfl := oj hi
   have hx5 := hpre 5 (by kernel_rfl)
   have hx6 := hSi
   have hx7 := ngF hcl 7 6 hx6
   have hx8 := ngF hcl 8 7 hx7
   have hx10 := ngF hcl 10 8 hx8
   have hx11 := ngF hcl 11 10 hx10
   have hx12 := ngF hcl 12 6 hx6
   obtain rfl := cu12 hx5
   obtain rfl := cr0_0 hx11
   refine hG (any_step ?_); clear hG G; intro A J hJ
   have hle0 := Fz.le.trans hle0 hle54
   have hzst := Fz.le.refl Z53
   have hs93 := hs4.mono hle54
   refine s1 hFx 13 (.pointer (some ⟨b1, 0, none⟩)) ?_; intro a94 hF95; clear hFx
   refine nl (qnI (hJ _ _ ?_)); clear hJ J
   exact ⟨ao34, cap35, ao44, cap45, ud6, ud7, ud8, ud9, ud10, ud11, .pointer (some ⟨b1, 0, none⟩), .pointer (some ⟨b1, 0, none⟩), ud14, ud15, ud16, ud17, ud18, .row b1 [.bool u0.neg, .slice ao2 u0.abs.length cap3] 93, Z53, hle54, hF95.reg, hMx.perm lpr, (nt hx12), cu7, cu8, cu9, cu10, cu11, kf, kf, (nt hx7), (nt hx8), cu16, (nt hx10), (nt hx11), kf, (nt hx11), (nt hx10), (nt hx11)⟩
  ·
   obtain rfl := oj hi
   have hx6 := hpre 6 (by kernel_rfl)
   have hx5 := hcl 6 5 (by kernel_rfl) hx6
   have hx7 := hSi
   have hx8 := ngF hcl 8 7 hx7
   have hx10 := ngF hcl 10 8 hx8
   have hx11 := ngF hcl 11 10 hx10
   have hx12 := ngF hcl 12 7 hx7
   obtain rfl := cu12 hx5
   obtain rfl := cu13 hx6
   obtain rfl := cr0_0 hx11
   refine hG (any_step ?_); clear hG G; intro A J hJ
   have hle0 := Fz.le.trans hle0 hle54
   have hzst := Fz.le.refl Z53
   have hs97 := hs4.mono hle54
   refine s1 hFx 14 (.pointer (some ⟨b1, 1, none⟩)) ?_; intro a98 hF99; clear hFx
   refine nl (qnI (hJ _ _ ?_)); clear hJ J
   exact ⟨ao34, cap35, ao44, cap45, ud6, ud7, ud8, ud9, ud10, ud11, .pointer (some ⟨b1, 0, none⟩), .pointer (some ⟨b1, 0, none⟩), .pointer (some ⟨b1, 1, none⟩), ud15, ud16, ud17, ud18, .row b1 [.bool u0.neg, .slice ao2 u0.abs.length cap3] 93, Z53, hle54, hF99.reg, hMx.perm lpr, (nt hx12), cu7, cu8, cu9, cu10, cu11, kf, kf, kf, (nt hx8), cu16, (nt hx10), (nt hx11), kf, (nt hx11), (nt hx10), (nt hx11)⟩
  ·
   obtain rfl := oj hi
   have hx7 := hpre 7 (by kernel_rfl)
   have hx6 := hcl 7 6 (by kernel_rfl) hx7
   have hx5 := hcl 6 5 (by kernel_rfl) hx6
   have hx8 := hSi
   have hx10 := ngF hcl 10 8 hx8
   have hx11 := ngF hcl 11 10 hx10
   have hx12 := ngF hcl 12 8 hx8
   obtain rfl := cu12 hx5
   obtain rfl := cu13 hx6
   obtain rfl := cu14 hx7
   obtain rfl := cr0_0 hx11
   refine hG (any_step ?_); clear hG G; intro A J hJ
   have hle0 := Fz.le.trans hle0 hle54
   have hzst := Fz.le.refl Z53
   have hs101 := hs4.mono hle54
   refine l1 hFx hMx 15 0 1 (.slice ao2 u0.abs.length cap3) rfl rfl ?_; intro a102 hF103; clear hFx
   refine nl (qnI (hJ _ _ ?_)); clear hJ J
   exact ⟨ao34, cap35, ao44, cap45, ud6, ud7, ud8, ud9, ud10, ud11, .pointer (some ⟨b1, 0, none⟩), .pointer (some ⟨b1, 0, none⟩), .pointer (some ⟨b1, 1, none⟩), .slice ao2 u0.abs.length cap3, ud16, ud17, ud18, .row b1 [.bool u0.neg, .slice ao2 u0.abs.length cap3] 93, Z53, hle54, hF103.reg, hMx.perm lpr, (nt hx12), cu7, cu8, cu9, cu10, cu11, kf, kf, kf, kf, cu16, (nt hx10), (nt hx11), kf, (nt hx11), (nt hx10), (nt hx11)⟩
  ·
   obtain rfl := oj hi
   have hx9 := hSi
   have hx10 := ngF hcl 10 9 hx9
   have hx11 := ngF hcl 11 10 hx10
   have hx12 := ngF hcl 12 9 hx9
   obtain rfl := cr0_0 hx11
   refine hG (any_step ?_); clear hG G; intro A J hJ
   have hle0 := Fz.le.trans hle0 hle54
   have hzst := Fz.le.refl Z53
   have hs105 := hs4.mono hle54
   refine s1 hFx 16 (.int .u64 u2) ?_; intro a106 hF107; clear hFx
   refine nl (qnI (hJ _ _ ?_)); clear hJ J
   exact ⟨ao34, cap35, ao44, cap45, ud6, ud7, ud8, ud9, ud10, ud11, ud12, ud13, ud14, ud15, .int .u64 u2, ud17, ud18, .row b1 [.bool u0.neg, .slice ao2 u0.abs.length cap3] 93, Z53, hle54, hF107.reg, hMx.perm lpr, (nt hx12), cu7, cu8, cu9, cu10, cu11, cu12, cu13, cu14, cu15, kf, (nt hx10), (nt hx11), kf, (nt hx11), (nt hx10), (nt hx11)⟩
  ·
   obtain rfl := oj hi
   have hx9 := hpre 9 (by kernel_rfl)
   have hx8 := hpre 8 (by kernel_rfl)
   have hx7 := hcl 8 7 (by kernel_rfl) hx8
   have hx6 := hcl 7 6 (by kernel_rfl) hx7
   have hx5 := hcl 6 5 (by kernel_rfl) hx6
   have hx10 := hSi
   have hx11 := ngF hcl 11 10 hx10
   have hx12 := ngF hcl 12 10 hx10
   obtain rfl := cu12 hx5
   obtain rfl := cu13 hx6
   obtain rfl := cu14 hx7
   obtain rfl := cu15 hx8
   obtain rfl := cu16 hx9
   obtain rfl := cr0_0 hx11
   refine hG (any_step ?_); clear hG G; intro A J hJ
   have hle0 := Fz.le.trans hle0 hle54
   have hzst := Fz.le.refl Z53
   have hs109 := hs4.mono hle54
   refine cl hFx 92 #[.slice ao2 u0.abs.length cap3, .int .u64 u2] (nog rfl _) rfl (by kernel_rfl) (by kernel_rfl) ?_
   refine (gleft_fun u0.abs u2 hcd10_0 ao2 cap3 _ _ hs109 hMx.fz).mono ?_; rintro _ wd110 ⟨ao114, cap115, Z117, rfl, hs116, hm⟩; refine ⟨_, rfl, ?_⟩; intro a111 hF112; have hM113 := hMx.callZ hm; have hle118 := hm.ext.le; clear hm hMx hFx
   replace hzst := hzst.mono hle118
   replace hs109 := hs109.mono hle118
   replace hle0 := Fz.le.trans hle0 hle118
   have hM119 : Mem B [] w0 Z0 ((.row b1 [.bool u0.neg, .slice ao2 u0.abs.length cap3] 93) :: Rr) Z117 wd110 := hM113; clear hM113
   refine nl (qnI (hJ _ _ ?_)); clear hJ J
   exact ⟨ao114, cap115, ao44, cap45, ud6, ud7, ud8, ud9, ud10, ud11, .pointer (some ⟨b1, 0, none⟩), .pointer (some ⟨b1, 0, none⟩), .pointer (some ⟨b1, 1, none⟩), .slice ao2 u0.abs.length cap3, .int .u64 u2, .slice ao114 (gleftS u0.abs u2).length cap115, ud18, .row b1 [.bool u0.neg, .slice ao2 u0.abs.length cap3] 93, Z117, hle54.trans hzst, hF112.reg, hM119.perm lpr, (nt hx12), cu7, cu8, cu9, cu10, cu11, kf, kf, kf, kf, kf, kf, (nt hx11), kf, (nt hx11), (fun _ => hs116), (nt hx11)⟩
  ·
   obtain rfl := oj hi
   have hx10 := hpre 10 (by kernel_rfl)
   have hx4 := hpre 4 (by kernel_rfl)
   have hx0 := hpre 0 (by kernel_rfl)
   have hx9 := hcl 10 9 (by kernel_rfl) hx10
   have hx8 := hcl 10 8 (by kernel_rfl) hx10
   have hx3 := hcl 4 3 (by kernel_rfl) hx4
   have hx7 := hcl 8 7 (by kernel_rfl) hx8
   have hx2 := hcl 3 2 (by kernel_rfl) hx3
   have hx6 := hcl 7 6 (by kernel_rfl) hx7
   have hx1 := hcl 2 1 (by kernel_rfl) hx2
   have hx5 := hcl 6 5 (by kernel_rfl) hx6
   have hx11 := hSi
   have hx12 := ngF hcl 12 11 hx11
   obtain rfl := cu7 hx0
   obtain rfl := cu8 hx1
   obtain rfl := cu9 hx2
   obtain rfl := cu10 hx3
   obtain rfl := cu11 hx4
   obtain rfl := cu12 hx5
   obtain rfl := cu13 hx6
   obtain rfl := cu14 hx7
   obtain rfl := cu15 hx8
   obtain rfl := cu16 hx9
   obtain rfl := cu17 hx10
   obtain rfl := cr0_0 hx11
   refine hG (any_step ?_); clear hG G; intro A J hJ
   have hle0 := Fz.le.trans hle0 hle54
   have hzst := Fz.le.refl Z53
   have hs121 := hs4.mono hle54
   have hs122 := cf0 hx10
   refine cl hFx 91 #[.pointer (some ⟨b1, 0, none⟩), .bool u0.neg, .slice ao34 (gleftS u0.abs u2).length cap35] (nog rfl _) rfl (by kernel_rfl) (by kernel_rfl) ?_
   refine (ggive_fun u0 u0.neg (gleftS u0.abs u2) b1 ao2 cap3 ao34 cap35 _ _ _ _ _ _ hs121 hs122 hMx hMx.fz).mono ?_; rintro _ wd123 ⟨ao127, cap128, Z130, rfl, hle131, hs129, hm⟩; refine ⟨_, rfl, ?_⟩; intro a124 hF125; have hM126 := hm; clear hm hMx hFx
   replace hzst := hzst.mono hle131
   replace hs121 := hs121.mono hle131
   replace hs122 := hs122.mono hle131
   replace hle0 := Fz.le.trans hle0 hle131
   have hM132 : Mem B [] w0 Z0 ((.row b1 [.bool ((ggive u0 u0.neg (gleftS u0.abs u2)).neg), .slice ao127 ((ggive u0 u0.neg (gleftS u0.abs u2)).abs).length cap128] 93) :: Rr) Z130 wd123 := hM126; clear hM126
   refine nl (qnI (hJ _ _ ?_)); clear hJ J
   exact ⟨ao34, cap35, ao127, cap128, ud6, .pointer (some ⟨b1, 0, none⟩), .pointer (some ⟨b1, 0, none⟩), .pointer (some ⟨b1, 0, none⟩), .pointer (some ⟨b1, 0, none⟩), .bool u0.neg, .pointer (some ⟨b1, 0, none⟩), .pointer (some ⟨b1, 0, none⟩), .pointer (some ⟨b1, 1, none⟩), .slice ao2 u0.abs.length cap3, .int .u64 u2, .slice ao34 (gleftS u0.abs u2).length cap35, .pointer (some ⟨b1, 0, none⟩), .row b1 [.bool ((ggive u0 u0.neg (gleftS u0.abs u2)).neg), .slice ao127 ((ggive u0 u0.neg (gleftS u0.abs u2)).abs).length cap128] 93, Z130, hle54.trans hzst, hF125.reg, hM132.perm lpr, (nt hx12), kf, kf, kf, kf, kf, kf, kf, kf, kf, kf, kf, kf, nu, kf, (fun _ => hs122), (fun _ => hs129)⟩
  ·
   obtain rfl := oj hi
   have hx11 := hpre 11 (by kernel_rfl)
   have hx10 := hpre 10 (by kernel_rfl)
   have hx9 := hpre 9 (by kernel_rfl)
   have hx8 := hpre 8 (by kernel_rfl)
   have hx7 := hpre 7 (by kernel_rfl)
   have hx6 := hpre 6 (by kernel_rfl)
   have hx5 := hpre 5 (by kernel_rfl)
   have hx4 := hpre 4 (by kernel_rfl)
   have hx3 := hpre 3 (by kernel_rfl)
   have hx2 := hpre 2 (by kernel_rfl)
   have hx1 := hpre 1 (by kernel_rfl)
   have hx0 := hpre 0 (by kernel_rfl)
   have hx12 := hSi
   obtain rfl := cu7 hx0
   obtain rfl := cu8 hx1
   obtain rfl := cu9 hx2
   obtain rfl := cu10 hx3
   obtain rfl := cu11 hx4
   obtain rfl := cu12 hx5
   obtain rfl := cu13 hx6
   obtain rfl := cu14 hx7
   obtain rfl := cu15 hx8
   obtain rfl := cu16 hx9
   obtain rfl := cu17 hx10
   obtain rfl := cu18 hx11
   obtain rfl := cr0_1 hx11
   refine hG (any_step ?_); clear hG G; intro A J hJ
   have hle0 := Fz.le.trans hle0 hle54
   have hzst := Fz.le.refl Z53
   have hs134 := hs4.mono hle54
   have hs135 := cf0 hx10
   have hs136 := cf1 hx11
   refine s1 hFx 6 (.pointer (some ⟨b1, 0, none⟩)) ?_; intro a137 hF138; clear hFx
   refine nl (qnI (hJ _ _ ?_)); clear hJ J
   exact ⟨ao34, cap35, ao44, cap45, .pointer (some ⟨b1, 0, none⟩), .pointer (some ⟨b1, 0, none⟩), .pointer (some ⟨b1, 0, none⟩), .pointer (some ⟨b1, 0, none⟩), .pointer (some ⟨b1, 0, none⟩), .bool u0.neg, .pointer (some ⟨b1, 0, none⟩), .pointer (some ⟨b1, 0, none⟩), .pointer (some ⟨b1, 1, none⟩), .slice ao2 u0.abs.length cap3, .int .u64 u2, .slice ao34 (gleftS u0.abs u2).length cap35, .pointer (some ⟨b1, 0, none⟩), .row b1 [.bool ((ggive u0 u0.neg (gleftS u0.abs u2)).neg), .slice ao44 ((ggive u0 u0.neg (gleftS u0.abs u2)).abs).length cap45] 93, Z53, hle54, hF138.reg, hMx.perm lpr, kf, kf, kf, kf, kf, kf, kf, kf, kf, kf, kf, kf, kf, (tn hx11), kf, (fun _ => hs135), (fun _ => hs136)⟩
 case hE =>
  intro S hS a140 wd141 hI; refine Go.Sy.hid ?_; intro G hG; obtain ⟨ao34, cap35, ao44, cap45, ud6, ud7, ud8, ud9, ud10, ud11, ud12, ud13, ud14, ud15, ud16, ud17, ud18, rh0, Z53, hle54, hFx, hMx, cu6, cu7, cu8, cu9, cu10, cu11, cu12, cu13, cu14, cu15, cu16, cu17, cu18, cr0_0, cr0_1, cf0, hI⟩ := hI; have cf1 := hI; clear hI; refine hG ?_; clear hG G
  obtain rfl := cu6 (hS 12 (by decide))
  obtain rfl := cu7 (hS 0 (by decide))
  obtain rfl := cu8 (hS 1 (by decide))
  obtain rfl := cu9 (hS 2 (by decide))
  obtain rfl := cu10 (hS 3 (by decide))
  obtain rfl := cu11 (hS 4 (by decide))
  obtain rfl := cu12 (hS 5 (by decide))
  obtain rfl := cu13 (hS 6 (by decide))
  obtain rfl := cu14 (hS 7 (by decide))
  obtain rfl := cu15 (hS 8 (by decide))
  obtain rfl := cu16 (hS 9 (by decide))
  obtain rfl := cu17 (hS 10 (by decide))
  obtain rfl := cu18 (hS 11 (by decide))
  obtain rfl := cr0_1 (hS 11 (by decide))
  have hle0 := Fz.le.trans hle0 hle54
  have hs142 := hs4.mono hle54
  have hs143 := cf0 (hS 10 (by decide))
  have hs144 := cf1 (hS 11 (by decide))
  refine thn ?_
  refine wp_ret ?_
  refine rt (fn := Tryd.f55) (v := .pointer (some ⟨b1, 0, none⟩)) hFx (re1 hFx (fn := Tryd.f55) rfl (by kernel_rfl)) ?_
  exact ⟨(ggive u0 u0.neg (gleftS u0.abs u2)), ao44, cap45, Z53, rfl, hp52, hle0, hs144, hMx.keep (List.Sublist.cons_cons _ (List.Sublist.refl _))⟩

set_option maxRecDepth 100000 in
set_option maxHeartbeats 0 in
theorem gblen_walk (u0 : BInt) (b1 : Nat) (ao2 : Option Addr) (cap3 : Nat) (B : Nat) (w0 : World) (Z0 : Fz) (Rr : List Res) (Z : Fz) (w : World) (hs4 : SlR (tyInt .u32) Z ao2 cap3 u0.abs) (hM0 : Mem B [] w0 Z0 ((.row b1 [.bool u0.neg, .slice ao2 u0.abs.length cap3] 93) :: Rr) Z w) (hZ : Z.on w) {K : (Int × BInt) → Prop} (hp : gblen_vc u0 K) : Calls Tryd.prog 59 #[.pointer (some ⟨b1, 0, none⟩)] w fun e w' => ∃ (r : Int × BInt) (ao1001 : Option Addr) (cap1002 : Nat) (Z' : Fz), e = .returned (.int .i64 r.1) ∧ K r ∧ Fz.le Z Z' ∧ SlR (tyInt .u32) Z' ao1001 cap1002 r.2.abs ∧ Mem B [] w0 Z0 ((.row b1 [.bool r.2.neg, .slice ao1001 r.2.abs.length cap1002] 93) :: Rr) Z' w' := by
 refine enter0 Tryd.func59 rfl rfl (by kernel_rfl) ?_; intro a0 hF0; have hle0 := Fz.le.refl Z
 have hp5 := hp (hs4.small); clear hp
 refine sqH ?_; intro hQ6Q hQ6
 refine s1 hF0 2 (.int .i64 0) ?_; intro a7 hF8; clear hF0
 refine nlH (hQ6 _ _ ?_); clear hQ6 hQ6Q
 refine sqH ?_; intro hQ9Q hQ9
 refine s1 hF8 3 (.pointer (some ⟨b1, 0, none⟩)) ?_; intro a10 hF11; clear hF8
 refine s1 hF11 4 (.pointer (some ⟨b1, 0, none⟩)) ?_; intro a12 hF13; clear hF11
 refine s1 hF13 5 (.pointer (some ⟨b1, 1, none⟩)) ?_; intro a14 hF15; clear hF13
 refine l1 hF15 hM0 6 0 1 (.slice ao2 u0.abs.length cap3) rfl rfl ?_; intro a16 hF17; clear hF15
 have hc18 := hp5.1; have hp19 := hp5.2; clear hp5
 refine fcl hF17 hM0 (.int .i64 (glengthS u0.abs)) 97 #[.slice ao2 u0.abs.length cap3] (nog rfl _) rfl (by kernel_rfl) (fun _ => by kernel_rfl) (glength_fun u0.abs hc18 ao2 cap3 _ _ hs4 hM0.fz) ?_; intro a20 wd22 hF21 hM23; clear hF17 hM0
 refine s1 hF21 2 (.int .i64 (glengthS u0.abs)) ?_; intro a24 hF25; clear hF21
 refine nlH (hQ9 _ _ ?_); clear hQ9 hQ9Q
 refine wp_ret ?_
 refine rt (fn := Tryd.f59) (v := .int .i64 (glengthS u0.abs)) hF25 (re1 hF25 (fn := Tryd.f59) rfl (by kernel_rfl)) ?_
 exact ⟨((glengthS u0.abs), u0), ao2, cap3, Z, rfl, hp19, hle0, hs4, hM23.keep (List.Sublist.cons_cons _ (List.Sublist.refl _))⟩

set_option maxRecDepth 100000 in
set_option maxHeartbeats 0 in
theorem gint64_walk (u0 : BInt) (b1 : Nat) (ao2 : Option Addr) (cap3 : Nat) (B : Nat) (w0 : World) (Z0 : Fz) (Rr : List Res) (Z : Fz) (w : World) (hs4 : SlR (tyInt .u32) Z ao2 cap3 u0.abs) (hM0 : Mem B [] w0 Z0 ((.row b1 [.bool u0.neg, .slice ao2 u0.abs.length cap3] 93) :: Rr) Z w) (hZ : Z.on w) {K : (Int × BInt) → Prop} (hp : gint64_vc u0 K) : Calls Tryd.prog 61 #[.pointer (some ⟨b1, 0, none⟩)] w fun e w' => ∃ (r : Int × BInt) (ao1001 : Option Addr) (cap1002 : Nat) (Z' : Fz), e = .returned (.int .i64 r.1) ∧ K r ∧ Fz.le Z Z' ∧ SlR (tyInt .u32) Z' ao1001 cap1002 r.2.abs ∧ Mem B [] w0 Z0 ((.row b1 [.bool r.2.neg, .slice ao1001 r.2.abs.length cap1002] 93) :: Rr) Z' w' := by
 refine enter0 Tryd.func61 rfl rfl (by kernel_rfl) ?_; intro a0 hF0; have hle0 := Fz.le.refl Z
 have hp5 := hp (hs4.small); clear hp
 refine sqH ?_; intro hQ6Q hQ6
 refine s1 hF0 2 (.int .i64 0) ?_; intro a7 hF8; clear hF0
 refine nlH (hQ6 _ _ ?_); clear hQ6 hQ6Q
 refine sqH ?_; intro hQ9Q hQ9
 refine s1 hF8 4 (.pointer (some ⟨b1, 0, none⟩)) ?_; intro a10 hF11; clear hF8
 have hc12 := hp5.1; have hp13 := hp5.2; clear hp5
 refine cl hF11 100 #[.pointer (some ⟨b1, 0, none⟩)] (nog rfl _) rfl (by kernel_rfl) (by kernel_rfl) ?_
 obtain ⟨r18, hr19⟩ : ∃ x, (guint64S u0) = x := ⟨_, rfl⟩; have hp20 := hp13 r18 hr19; clear hp13
 have h9 := guint64_fun u0 hc12 b1 ao2 cap3 _ _ _ _ _ _ hs4 hM0 hM0.fz; rw [hr19] at h9; refine h9.mono ?_; clear h9; rintro _ wd14 ⟨ao22, cap23, Z25, rfl, hle26, hs24, hm⟩; refine ⟨_, rfl, ?_⟩; intro a15 hF16; have hM17 := hm; clear hm hM0 hF11
 replace hs4 := hs4.mono hle26
 replace hle0 := Fz.le.trans hle0 hle26
 have hM27 : Mem B [] w0 Z0 ((.row b1 [.bool r18.2.neg, .slice ao22 r18.2.abs.length cap23] 93) :: Rr) Z25 wd14 := hM17; clear hM17
 have hp28 := hp20 (hs24.small); clear hp20
 refine s1 hF16 6 (.int .i64 (w64 r18.1)) ?_; intro a29 hF30; clear hF16
 refine s1 hF30 3 (.int .i64 (w64 r18.1)) ?_; intro a31 hF32; clear hF30
 refine nlH (hQ9 _ _ ?_); clear hQ9 hQ9Q
 refine wp_seq ?_
 refine sqH ?_; intro hQ33Q hQ33
 refine s1 hF32 7 (.pointer (some ⟨b1, 0, none⟩)) ?_; intro a34 hF35; clear hF32
 refine s1 hF35 8 (.pointer (some ⟨b1, 0, none⟩)) ?_; intro a36 hF37; clear hF35
 refine s1 hF37 9 (.pointer (some ⟨b1, 0, none⟩)) ?_; intro a38 hF39; clear hF37
 refine l1 hF39 hM27 10 0 0 (.bool r18.2.neg) rfl rfl ?_; intro a40 hF41; clear hF39
 refine nlH (hQ33 _ _ ?_); clear hQ33 hQ33Q
 have hc42 := hp28.1; have hp43 := hp28.2; clear hp28
 refine cd hF41 (t := r18.2.neg) (by kernel_rfl) (fun h => Bool.noConfusion (hc42.symm.trans h)) (fun _ => ?_)
 refine wp_skip ?_
 refine thn ?_
 refine sqH ?_; intro hQ45Q hQ45
 refine s1 hF41 13 (.int .i64 (w64 r18.1)) ?_; intro a46 hF47; clear hF41
 refine s1 hF47 2 (.int .i64 (w64 r18.1)) ?_; intro a48 hF49; clear hF47
 refine nlH (hQ45 _ _ ?_); clear hQ45 hQ45Q
 refine wp_ret ?_
 refine rt (fn := Tryd.f61) (v := .int .i64 (w64 r18.1)) hF49 (re1 hF49 (fn := Tryd.f61) rfl (by kernel_rfl)) ?_
 exact ⟨(w64 r18.1, r18.2), ao22, cap23, Z25, rfl, hp43, hle0, hs24, hM27.keep (List.Sublist.cons_cons _ (List.Sublist.refl _))⟩

set_option maxRecDepth 100000 in
set_option maxHeartbeats 0 in
theorem gsetstr_walk (u0 : BInt) (u1 : List UInt8) (b1 : Nat) (ao2 : Option Addr) (cap3 : Nat) (B : Nat) (w0 : World) (Z0 : Fz) (Rr : List Res) (Z : Fz) (w : World) (hs4 : SlR (tyInt .u32) Z ao2 cap3 u0.abs) (hM0 : Mem B [] w0 Z0 ((.row b1 [.bool u0.neg, .slice ao2 u0.abs.length cap3] 93) :: Rr) Z w) (hZ : Z.on w) {K : (Bool × Bool × BInt) → Prop} (hp : gsetstr_vc u0 u1 K) : Calls Tryd.prog 90 #[.pointer (some ⟨b1, 0, none⟩), str u1, .int .i64 2] w fun e w' => ∃ (r : Bool × Bool × BInt) (ao1001 : Option Addr) (cap1002 : Nat) (Z' : Fz), e = .returned (.tuple #[.pointer (if r.1 = true then some ⟨b1, 0, none⟩ else none), .bool r.2.1]) ∧ K r ∧ Fz.le Z Z' ∧ SlR (tyInt .u32) Z' ao1001 cap1002 r.2.2.abs ∧ Mem B [] w0 Z0 ((.row b1 [.bool r.2.2.neg, .slice ao1001 r.2.2.abs.length cap1002] 93) :: Rr) Z' w' := by
 refine enter0 Tryd.func90 rfl rfl (by kernel_rfl) ?_; intro a0 hF0; have hle0 := Fz.le.refl Z
 have hp5 := hp (hs4.small); clear hp
 refine sqH ?_; intro hQ6Q hQ6
 refine s1 hF0 6 (.pointer none) ?_; intro a7 hF8; clear hF0
 refine s1 hF8 7 (.bool false) ?_; intro a9 hF10; clear hF8
 refine nlH (hQ6 _ _ ?_); clear hQ6 hQ6Q
 refine sqH ?_; intro hQ11Q hQ11
 refine s1 hF10 8 (.bool false) ?_; intro a12 hF13; clear hF10
 refine nlH (hQ11 _ _ ?_); clear hQ11 hQ11Q
 refine wp_seq ?_
 refine sqH ?_; intro hQ14Q hQ14
 refine s1 hF13 13 (str u1) ?_; intro a15 hF16; clear hF13
 refine s1 hF16 14 (.int .i64 (u1.length : Int)) ?_; intro a17 hF18; clear hF16
 refine s1 hF18 15 (.bool (decide ((u1.length : Int) > 0))) ?_; intro a19 hF20; clear hF18
 refine s1 hF20 16 (.bool (decide ((u1.length : Int) > 0))) ?_; intro a21 hF22; clear hF20
 have hF23 := hF22.atom ((decide ((u1.length : Int) > 0)) == true) (by kernel_rfl); clear hF22
 refine gp hF23 17 0 [] (decide ((u1.length : Int) > 0)) (str u1) rfl rfl ?_; intro a24 hF25; clear hF23
 have hc26 := hp5.1; have hp27 := hp5.2; clear hp5
 have hF28 := hF25.reval (d := 16) (c := []) (v := .bool (decide ((u1.length : Int) > 0))) (by kernel_rfl) (.bool true) (by rw [hc26]); clear hF25
 have hF29 := hF28.setc (d := 17) (c := [0]) (v := str u1) (by kernel_rfl) (v' := str u1) (by rw [hc26]; kernel_rfl); clear hF28
 have hc30 := hp27.1; have hp31 := hp27.2; clear hp27
 obtain ⟨c32, hq33⟩ : ∃ q, u1[(0 : Int).toNat]? = some q := ⟨_, List.getElem?_eq_getElem (by omega)⟩; have hp34 := hp31 c32 hq33
 refine st hF29 (.int .u8 (c32.toNat : Int)) (by rw [wanted_of hF29 (b := true) rfl rfl (by kernel_rfl) (by kernel_rfl)]; rfl) rfl (by kernel_rfl) (stridx_run hF29 (k := .i64) rfl (by kernel_rfl) (by kernel_rfl) (by kernel_rfl) hc30.1 hq33) ?_; intro a35 hF36; clear hF29
 refine st hF36 (.bool ((c32.toNat : Int) == 45)) (by rw [wanted_of hF36 (b := true) rfl rfl (by kernel_rfl) (by kernel_rfl)]; rfl) rfl (by kernel_rfl) (p0 hF36 (by kernel_rfl)) ?_; intro a37 hF38; clear hF36
 refine st hF38 (.bool ((c32.toNat : Int) == 45)) (by rw [wanted_of hF38 (b := true) rfl rfl (by kernel_rfl) (by kernel_rfl)]; rfl) rfl (by kernel_rfl) (p0 hF38 (by kernel_rfl)) ?_; intro a39 hF40; clear hF38
 have hF41 := hF40.atom (((c32.toNat : Int) == 45) == false) (by kernel_rfl); clear hF40
 refine gp hF41 21 1 [] ((c32.toNat : Int) == 45) (str u1) rfl rfl ?_; intro a42 hF43; clear hF41
 have hc44 := hp34.1; have hp45 := hp34.2; clear hp34
 have hF46 := hF43.reval (d := 20) (c := []) (v := .bool ((c32.toNat : Int) == 45)) (by kernel_rfl) (.bool false) (by rw [hc44]); clear hF43
 have hF47 := hF46.setc (d := 21) (c := [1]) (v := str u1) (by kernel_rfl) (v' := str u1) (by rw [hc44]; kernel_rfl); clear hF46
 have hc48 := hp45.1; have hp49 := hp45.2; clear hp45
 obtain ⟨c50, hq51⟩ : ∃ q, u1[(0 : Int).toNat]? = some q := ⟨_, List.getElem?_eq_getElem (by omega)⟩; have hp52 := hp49 c50 hq51
 refine st hF47 (.int .u8 (c50.toNat : Int)) (by rw [wanted_of hF47 (b := false) rfl rfl (by kernel_rfl) (by kernel_rfl)]; rfl) rfl (by kernel_rfl) (stridx_run hF47 (k := .i64) rfl (by kernel_rfl) (by kernel_rfl) (by kernel_rfl) hc48.1 hq51) ?_; intro a53 hF54; clear hF47
 refine st hF54 (.bool ((c50.toNat : Int) == 43)) (by rw [wanted_of hF54 (b := false) rfl rfl (by kernel_rfl) (by kernel_rfl)]; rfl) rfl (by kernel_rfl) (p0 hF54 (by kernel_rfl)) ?_; intro a55 hF56; clear hF54
 refine st hF56 (.bool ((c50.toNat : Int) == 43)) (by rw [wanted_of hF56 (b := true) rfl rfl (by kernel_rfl) (by kernel_rfl)]; rfl) rfl (by kernel_rfl) (p0 hF56 (by kernel_rfl)) ?_; intro a57 hF58; clear hF56
 refine s1 hF58 25 (.bool ((c50.toNat : Int) == 43)) ?_; intro a59 hF60; clear hF58
 refine nlH (hQ14 _ _ ?_); clear hQ14 hQ14Q
 have hc61 := hp52.1; have hp62 := hp52.2; clear hp52
 refine cd hF60 (t := (c50.toNat : Int) == 43) (by kernel_rfl) (fun h => Bool.noConfusion (hc61.symm.trans h)) (fun _ => ?_)
 refine wp_skip ?_
 refine thn ?_
 refine wp_seq ?_
 have hF64 : Fr 124 [] [⟨0, [], .pointer (some ⟨b1, 0, none⟩)⟩, ⟨1, [], str u1⟩, ⟨2, [], .int .i64 2⟩, ⟨8, [], .bool false⟩] a59 := hF60.reg; clear hF60
 refine sqH ?_; intro hQ65Q hQ65
 refine s1 hF64 31 (.int .i64 2) ?_; intro a66 hF67; clear hF64
 refine s1 hF67 32 (.bool false) ?_; intro a68 hF69; clear hF67
 refine nlH (hQ65 _ _ ?_); clear hQ65 hQ65Q
 refine cdF hF69 (by kernel_rfl) ?_
 refine wp_skip ?_
 refine thn ?_
 refine wp_seq ?_
 refine sqH ?_; intro hQ70Q hQ70
 refine s1 hF69 56 (str u1) ?_; intro a71 hF72; clear hF69
 refine s1 hF72 57 (.int .i64 (u1.length : Int)) ?_; intro a73 hF74; clear hF72
 refine s1 hF74 58 (.bool ((u1.length : Int) == 0)) ?_; intro a75 hF76; clear hF74
 refine s1 hF76 59 (.bool ((u1.length : Int) == 0)) ?_; intro a77 hF78; clear hF76
 have hF79 := hF78.atom (((u1.length : Int) == 0) == false) (by kernel_rfl); clear hF78
 refine gp hF79 60 0 [] ((u1.length : Int) == 0) (.int .i64 2) rfl rfl ?_; intro a80 hF81; clear hF79
 refine gp hF81 61 0 [] ((u1.length : Int) == 0) (.bool false) rfl rfl ?_; intro a82 hF83; clear hF81
 refine st hF83 (.bool (((u1.length : Int) == 0) || false)) (nog rfl _) rfl (by kernel_rfl) (pk_or hF83 (g := []) (m := 0) (b := (u1.length : Int) == 0) (v := false) rfl (by kernel_rfl) (by kernel_rfl) (by kernel_rfl) rfl) ?_; intro a84 hF85; clear hF83
 refine s1 hF85 63 (.bool (((u1.length : Int) == 0) || false)) ?_; intro a86 hF87; clear hF85
 have hF88 := hF87.atom ((((u1.length : Int) == 0) || false) == false) (by kernel_rfl); clear hF87
 refine gp hF88 64 1 [] (((u1.length : Int) == 0) || false) (.int .i64 2) rfl rfl ?_; intro a89 hF90; clear hF88
 refine gp hF90 65 1 [] (((u1.length : Int) == 0) || false) (.bool false) rfl rfl ?_; intro a91 hF92; clear hF90
 refine st hF92 (.bool ((((u1.length : Int) == 0) || false) || false)) (nog rfl _) rfl (by kernel_rfl) (pk_or hF92 (g := []) (m := 1) (b := ((u1.length : Int) == 0) || false) (v := false) rfl (by kernel_rfl) (by kernel_rfl) (by kernel_rfl) rfl) ?_; intro a93 hF94; clear hF92
 refine nlH (hQ70 _ _ ?_); clear hQ70 hQ70Q
 have hc95 := hp62.1; have hp96 := hp62.2; clear hp62
 refine cd hF94 (t := (((u1.length : Int) == 0) || false) || false) (by kernel_rfl) (fun h => Bool.noConfusion (hc95.symm.trans h)) (fun _ => ?_)
 refine wp_skip ?_
 refine thn ?_
 have hF98 : Fr 124 [] [⟨0, [], .pointer (some ⟨b1, 0, none⟩)⟩, ⟨1, [], str u1⟩, ⟨2, [], .int .i64 2⟩, ⟨8, [], .bool false⟩] a93 := hF94.reg; clear hF94
 refine sqH ?_; intro hQ99Q hQ99
 refine s1 hF98 9 (.slice none 0 0) ?_; intro a100 hF101; clear hF98
 refine nlH (hQ99 _ _ ?_); clear hQ99 hQ99Q
 refine wp_seq ?_
 refine sqH ?_; intro hQ102Q hQ102
 refine s1 hF101 10 (.int .i64 0) ?_; intro a103 hF104; clear hF101
 refine nlH (hQ102 _ _ ?_); clear hQ102 hQ102Q
 refine wp_block ?_
 have hF105 : Fr 124 [] [⟨0, [], .pointer (some ⟨b1, 0, none⟩)⟩, ⟨1, [], str u1⟩, ⟨2, [], .int .i64 2⟩, ⟨8, [], .bool false⟩, ⟨9, [], .slice none 0 0⟩, ⟨10, [], .int .i64 0⟩] a103 := hF104.reg; clear hF104
 have hF107 : Fr 124 [] [⟨0, [], .pointer (some ⟨b1, 0, none⟩)⟩, ⟨1, [], str u1⟩, ⟨2, [], .int .i64 2⟩, ⟨8, [], .bool false⟩, ⟨9, [], .slice none 0 0⟩, ⟨10, [], .int .i64 0⟩] a103 := hF105.reg; clear hF105
 obtain ⟨inv106, mu106, hI110, hr109⟩ := hp96
 have hle111 := hle0
 refine lp (ι := (List Int) × Int × (Option Addr) × Nat × Fz) (fun (s : (List Int) × Int × (Option Addr) × Nat × Fz) => [⟨0, [], .pointer (some ⟨b1, 0, none⟩)⟩, ⟨1, [], str u1⟩, ⟨2, [], .int .i64 2⟩, ⟨8, [], .bool false⟩, ⟨9, [], .slice s.2.2.1 s.1.length s.2.2.2.1⟩, ⟨10, [], .int .i64 s.2.1⟩]) (fun (s : (List Int) × Int × (Option Addr) × Nat × Fz) => ((.row b1 [.bool u0.neg, .slice ao2 u0.abs.length cap3] 93) :: Rr)) (fun (s : (List Int) × Int × (Option Addr) × Nat × Fz) => s.2.2.2.2) (fun (s : (List Int) × Int × (Option Addr) × Nat × Fz) => inv106 s.1 s.2.1 ∧ SlR (tyInt .u32) s.2.2.2.2 s.2.2.1 s.2.2.2.1 s.1 ∧ Fz.le Z s.2.2.2.2) (fun (s : (List Int) × Int × (Option Addr) × Nat × Fz) => mu106 s.1 s.2.1) ⟨([] : List Int), 0, none, 0, Z⟩ ⟨hI110, (SlR.nil _ _), Fz.le.refl _⟩ (by exact hF107.reg) (by exact hM0) ?_
 rintro ⟨x9, x10, aox9, capx9, ZL106⟩ ⟨hI108, hsx9, hleL106⟩ a112 wd113 hF114 hM115
 have hF116 : Fr 124 [] [⟨0, [], .pointer (some ⟨b1, 0, none⟩)⟩, ⟨1, [], str u1⟩, ⟨2, [], .int .i64 2⟩, ⟨8, [], .bool false⟩, ⟨9, [], .slice aox9 x9.length capx9⟩, ⟨10, [], .int .i64 x10⟩] a112 := hF114; clear hF114 hF107
 have hM117 : Mem B [] w0 Z0 ((.row b1 [.bool u0.neg, .slice ao2 u0.abs.length cap3] 93) :: Rr) ZL106 wd113 := hM115; clear hM115 hM0
 have hp118 := hr109 x9 x10 hI108
 replace hle0 := Fz.le.trans hle0 hleL106
 have hs119 := hs4.mono hleL106
 refine wp_seq ?_
 refine sqH ?_; intro hQ120Q hQ120
 refine s1 hF116 67 (.int .i64 x10) ?_; intro a121 hF122; clear hF116
 refine s1 hF122 68 (str u1) ?_; intro a123 hF124; clear hF122
 refine s1 hF124 69 (.int .i64 (u1.length : Int)) ?_; intro a125 hF126; clear hF124
 refine s1 hF126 70 (.bool (decide (x10 < (u1.length : Int)))) ?_; intro a127 hF128; clear hF126
 refine nlH (hQ120 _ _ ?_); clear hQ120 hQ120Q
 refine cd hF128 (t := decide (x10 < (u1.length : Int))) (by kernel_rfl) (fun hb129 => ?_) (fun hb129 => ?_)
 ·
  have hp130 := hp118.1 hb129; clear hp118
  refine wp_skip ?_
  refine thn ?_
  refine wp_seq ?_
  refine wp_block ?_
  refine sqH ?_; intro hQ131Q hQ131
  refine s1 hF128 11 (.int .i64 99) ?_; intro a132 hF133; clear hF128
  refine nlH (hQ131 _ _ ?_); clear hQ131 hQ131Q
  refine wp_seq ?_
  refine sqH ?_; intro hQ134Q hQ134
  refine s1 hF133 73 (str u1) ?_; intro a135 hF136; clear hF133
  refine s1 hF136 74 (.int .i64 x10) ?_; intro a137 hF138; clear hF136
  have hc139 := hp130.1; have hp140 := hp130.2; clear hp130
  obtain ⟨c141, hq142⟩ : ∃ q, u1[x10.toNat]? = some q := ⟨_, List.getElem?_eq_getElem (by omega)⟩; have hp143 := hp140 c141 hq142
  refine st hF138 (.int .u8 (c141.toNat : Int)) (nog rfl _) rfl (by kernel_rfl) (stridx_run hF138 (k := .i64) rfl (by kernel_rfl) (by kernel_rfl) (by kernel_rfl) hc139.1 hq142) ?_; intro a144 hF145; clear hF138
  refine s1 hF145 12 (.int .u8 (c141.toNat : Int)) ?_; intro a146 hF147; clear hF145
  refine nlH (hQ134 _ _ ?_); clear hQ134 hQ134Q
  refine wp_block ?_
  refine sqH ?_; intro hQ148Q hQ148
  refine s1 hF147 77 (.int .u8 (c141.toNat : Int)) ?_; intro a149 hF150; clear hF147
  refine s1 hF150 78 (.bool (decide ((c141.toNat : Int) ≥ 48))) ?_; intro a151 hF152; clear hF150
  refine s1 hF152 79 (.bool (decide ((c141.toNat : Int) ≥ 48))) ?_; intro a153 hF154; clear hF152
  have hF155 := hF154.atom ((decide ((c141.toNat : Int) ≥ 48)) == true) (by kernel_rfl); clear hF154
  refine gp hF155 80 0 [] (decide ((c141.toNat : Int) ≥ 48)) (.int .u8 (c141.toNat : Int)) rfl rfl ?_; intro a156 hF157; clear hF155
  refine gp hF157 81 0 [] (decide ((c141.toNat : Int) ≥ 48)) (.bool (decide ((c141.toNat : Int) ≤ 57))) rfl rfl ?_; intro a158 hF159; clear hF157
  refine st hF159 (.bool ((decide ((c141.toNat : Int) ≥ 48)) && (decide ((c141.toNat : Int) ≤ 57)))) (nog rfl _) rfl (by kernel_rfl) (pk_and hF159 (g := []) (m := 0) (b := decide ((c141.toNat : Int) ≥ 48)) (v := decide ((c141.toNat : Int) ≤ 57)) rfl (by kernel_rfl) (by kernel_rfl) (by kernel_rfl) rfl) ?_; intro a160 hF161; clear hF159
  refine s1 hF161 76 (.bool ((decide ((c141.toNat : Int) ≥ 48)) && (decide ((c141.toNat : Int) ≤ 57)))) ?_; intro a162 hF163; clear hF161
  refine nlH (hQ148 _ _ ?_); clear hQ148 hQ148Q
  have hc164 := hp143.1; have hp165 := hp143.2; clear hp143
  refine cd hF163 (t := (decide ((c141.toNat : Int) ≥ 48)) && (decide ((c141.toNat : Int) ≤ 57))) (by kernel_rfl) (fun _ => ?_) (fun h => Bool.noConfusion (hc164.symm.trans h))
  have hF167 : Fr 124 [] [⟨0, [], .pointer (some ⟨b1, 0, none⟩)⟩, ⟨1, [], str u1⟩, ⟨2, [], .int .i64 2⟩, ⟨8, [], .bool false⟩, ⟨9, [], .slice aox9 x9.length capx9⟩, ⟨10, [], .int .i64 x10⟩, ⟨12, [], .int .u8 (c141.toNat : Int)⟩] a162 := hF163.reg; clear hF163
  refine rgH ?_; intro hQ168Q hQ168
  refine s1 hF167 83 (.int .u8 (c141.toNat : Int)) ?_; intro a169 hF170; clear hF167
  refine s1 hF170 84 (.int .u8 (w8 ((c141.toNat : Int) - 48))) ?_; intro a171 hF172; clear hF170
  refine s1 hF172 85 (.int .i64 (w64 (w8 ((c141.toNat : Int) - 48)))) ?_; intro a173 hF174; clear hF172
  refine s1 hF174 11 (.int .i64 (w64 (w8 ((c141.toNat : Int) - 48)))) ?_; intro a175 hF176; clear hF174
  refine nlH (hQ168 _ _ ?_); clear hQ168 hQ168Q
  refine ibn ?_
  refine thn ?_
  refine wp_seq ?_
  refine sqH ?_; intro hQ177Q hQ177
  refine s1 hF176 108 (.int .i64 (w64 (w8 ((c141.toNat : Int) - 48)))) ?_; intro a178 hF179; clear hF176
  refine s1 hF179 109 (.int .i64 2) ?_; intro a180 hF181; clear hF179
  refine s1 hF181 110 (.bool (decide ((w64 (w8 ((c141.toNat : Int) - 48))) ≥ 2))) ?_; intro a182 hF183; clear hF181
  refine nlH (hQ177 _ _ ?_); clear hQ177 hQ177Q
  have hc184 := hp165.1; have hp185 := hp165.2; clear hp165
  refine cd hF183 (t := decide ((w64 (w8 ((c141.toNat : Int) - 48))) ≥ 2)) (by kernel_rfl) (fun h => Bool.noConfusion (hc184.symm.trans h)) (fun _ => ?_)
  refine wp_skip ?_
  refine thn ?_
  refine rgH ?_; intro hQ187Q hQ187
  refine s1 hF183 111 (.slice aox9 x9.length capx9) ?_; intro a188 hF189; clear hF183
  refine s1 hF189 112 (.int .i64 2) ?_; intro a190 hF191; clear hF189
  refine s1 hF191 113 (.int .u64 2) ?_; intro a192 hF193; clear hF191
  have hc194 := hp185.1; have hp195 := hp185.2; clear hp185
  refine cl hF193 123 #[.int .u64 2] (nog rfl _) rfl (by kernel_rfl) (by kernel_rfl) ?_
  refine (gwords_fun 2 hc194 _ _ hM117.fz).mono ?_; rintro _ wd196 ⟨ao200, cap201, Z203, rfl, hs202, hm⟩; refine ⟨_, rfl, ?_⟩; intro a197 hF198; have hM199 := hM117.callZ hm; have hle204 := hm.ext.le; clear hm hM117 hF193
  replace hs119 := hs119.mono hle204
  replace hsx9 := hsx9.mono hle204
  replace hleL106 := hleL106.mono hle204
  replace hle0 := Fz.le.trans hle0 hle204
  have hM205 : Mem B [] w0 Z0 ((.row b1 [.bool u0.neg, .slice ao2 u0.abs.length cap3] 93) :: Rr) Z203 wd196 := hM199; clear hM199
  have hp206 := hp195 (hs202.small); clear hp195
  have hc207 := hp206.1; have hp208 := hp206.2; clear hp206
  refine cl hF198 122 #[.slice aox9 x9.length capx9, .slice ao200 (gwordsS 2).length cap201] (nog rfl _) rfl (by kernel_rfl) (by kernel_rfl) ?_
  refine (gmul_fun x9 (gwordsS 2) hc207 aox9 capx9 ao200 cap201 _ _ hsx9 hs202 hM205.fz).mono ?_; rintro _ wd209 ⟨ao213, cap214, Z216, rfl, hs215, hm⟩; refine ⟨_, rfl, ?_⟩; intro a210 hF211; have hM212 := hM205.callZ hm; have hle217 := hm.ext.le; clear hm hM205 hF198
  replace hs119 := hs119.mono hle217
  replace hsx9 := hsx9.mono hle217
  replace hleL106 := hleL106.mono hle217
  replace hs202 := hs202.mono hle217
  replace hle0 := Fz.le.trans hle0 hle217
  have hM218 : Mem B [] w0 Z0 ((.row b1 [.bool u0.neg, .slice ao2 u0.abs.length cap3] 93) :: Rr) Z216 wd209 := hM212; clear hM212
  have hp219 := hp208 (hs215.small); clear hp208
  refine s1 hF211 116 (.int .i64 (w64 (w8 ((c141.toNat : Int) - 48)))) ?_; intro a220 hF221; clear hF211
  refine s1 hF221 117 (.int .u64 (wu64 (w64 (w8 ((c141.toNat : Int) - 48))))) ?_; intro a222 hF223; clear hF221
  have hc224 := hp219.1; have hp225 := hp219.2; clear hp219
  refine cl hF223 123 #[.int .u64 (wu64 (w64 (w8 ((c141.toNat : Int) - 48))))] (nog rfl _) rfl (by kernel_rfl) (by kernel_rfl) ?_
  refine (gwords_fun (wu64 (w64 (w8 ((c141.toNat : Int) - 48)))) hc224 _ _ hM218.fz).mono ?_; rintro _ wd226 ⟨ao230, cap231, Z233, rfl, hs232, hm⟩; refine ⟨_, rfl, ?_⟩; intro a227 hF228; have hM229 := hM218.callZ hm; have hle234 := hm.ext.le; clear hm hM218 hF223
  replace hs119 := hs119.mono hle234
  replace hsx9 := hsx9.mono hle234
  replace hleL106 := hleL106.mono hle234
  replace hs202 := hs202.mono hle234
  replace hs215 := hs215.mono hle234
  replace hle0 := Fz.le.trans hle0 hle234
  have hM235 : Mem B [] w0 Z0 ((.row b1 [.bool u0.neg, .slice ao2 u0.abs.length cap3] 93) :: Rr) Z233 wd226 := hM229; clear hM229
  have hp236 := hp225 (hs232.small); clear hp225
  have hc237 := hp236.1; have hp238 := hp236.2; clear hp236
  refine cl hF228 121 #[.slice ao213 (gmulS x9 (gwordsS 2)).length cap214, .slice ao230 (gwordsS (wu64 (w64 (w8 ((c141.toNat : Int) - 48))))).length cap231] (nog rfl _) rfl (by kernel_rfl) (by kernel_rfl) ?_
  refine (gadd_fun (gmulS x9 (gwordsS 2)) (gwordsS (wu64 (w64 (w8 ((c141.toNat : Int) - 48))))) hc237 ao213 cap214 ao230 cap231 _ _ hs215 hs232 hM235.fz).mono ?_; rintro _ wd239 ⟨ao243, cap244, Z246, rfl, hs245, hm⟩; refine ⟨_, rfl, ?_⟩; intro a240 hF241; have hM242 := hM235.callZ hm; have hle247 := hm.ext.le; clear hm hM235 hF228
  replace hs119 := hs119.mono hle247
  replace hsx9 := hsx9.mono hle247
  replace hleL106 := hleL106.mono hle247
  replace hs202 := hs202.mono hle247
  replace hs215 := hs215.mono hle247
  replace hs232 := hs232.mono hle247
  replace hle0 := Fz.le.trans hle0 hle247
  have hM248 : Mem B [] w0 Z0 ((.row b1 [.bool u0.neg, .slice ao2 u0.abs.length cap3] 93) :: Rr) Z246 wd239 := hM242; clear hM242
  have hp249 := hp238 (hs245.small); clear hp238
  refine s1 hF241 9 (.slice ao243 (gaddS (gmulS x9 (gwordsS 2)) (gwordsS (wu64 (w64 (w8 ((c141.toNat : Int) - 48)))))).length cap244) ?_; intro a250 hF251; clear hF241
  refine nlH (hQ187 _ _ ?_); clear hQ187 hQ187Q
  refine ibn ?_
  refine thn ?_
  have hF252 : Fr 124 [] [⟨0, [], .pointer (some ⟨b1, 0, none⟩)⟩, ⟨1, [], str u1⟩, ⟨2, [], .int .i64 2⟩, ⟨8, [], .bool false⟩, ⟨9, [], .slice ao243 (gaddS (gmulS x9 (gwordsS 2)) (gwordsS (wu64 (w64 (w8 ((c141.toNat : Int) - 48)))))).length cap244⟩, ⟨10, [], .int .i64 x10⟩] a250 := hF251.reg; clear hF251
  refine rgH ?_; intro hQ253Q hQ253
  refine s1 hF252 71 (.int .i64 x10) ?_; intro a254 hF255; clear hF252
  refine s1 hF255 72 (.int .i64 (w64 (x10 + 1))) ?_; intro a256 hF257; clear hF255
  refine s1 hF257 10 (.int .i64 (w64 (x10 + 1))) ?_; intro a258 hF259; clear hF257
  refine nlH (hQ253 _ _ ?_); clear hQ253 hQ253Q
  refine rd ?_
  exact ⟨⟨(gaddS (gmulS x9 (gwordsS 2)) (gwordsS (wu64 (w64 (w8 ((c141.toNat : Int) - 48)))))), w64 (x10 + 1), ao243, cap244, Z246⟩, ⟨hp249.1, hs245, hleL106⟩, hp249.2, (hF259.reg).anyβ _ (by kernel_rfl), hM248.keep (List.Sublist.cons_cons _ (List.Sublist.refl _))⟩
 ·
  have hp260 := hp118.2 hb129; clear hp118
  refine wp_exit ?_
  refine thx ?_
  refine thx ?_
  refine ibx ?_
  refine thn ?_
  refine sqH ?_; intro hQ261Q hQ261
  refine s1 hF128 120 (.pointer (some ⟨b1, 0, none⟩)) ?_; intro a262 hF263; clear hF128
  refine s1 hF263 121 (.bool false) ?_; intro a264 hF265; clear hF263
  refine s1 hF265 122 (.slice aox9 x9.length capx9) ?_; intro a266 hF267; clear hF265
  refine cl hF267 91 #[.pointer (some ⟨b1, 0, none⟩), .bool false, .slice aox9 x9.length capx9] (nog rfl _) rfl (by kernel_rfl) (by kernel_rfl) ?_
  obtain ⟨r272, hr273⟩ : ∃ x, (ggive u0 false x9) = x := ⟨_, rfl⟩; have hp274 := hp260 r272 hr273; clear hp260
  have h9 := ggive_fun u0 false x9 b1 ao2 cap3 aox9 capx9 _ _ _ _ _ _ hs119 hsx9 hM117 hM117.fz; rw [hr273] at h9; refine h9.mono ?_; clear h9; rintro _ wd268 ⟨ao276, cap277, Z279, rfl, hle280, hs278, hm⟩; refine ⟨_, rfl, ?_⟩; intro a269 hF270; have hM271 := hm; clear hm hM117 hF267
  replace hs119 := hs119.mono hle280
  replace hsx9 := hsx9.mono hle280
  replace hleL106 := hleL106.mono hle280
  replace hle0 := Fz.le.trans hle0 hle280
  have hM281 : Mem B [] w0 Z0 ((.row b1 [.bool r272.neg, .slice ao276 r272.abs.length cap277] 93) :: Rr) Z279 wd268 := hM271; clear hM271
  have hp282 := hp274 (hs278.small); clear hp274
  refine s1 hF270 6 (.pointer (some ⟨b1, 0, none⟩)) ?_; intro a283 hF284; clear hF270
  refine s1 hF284 7 (.bool true) ?_; intro a285 hF286; clear hF284
  refine nlH (hQ261 _ _ ?_); clear hQ261 hQ261Q
  refine wp_ret ?_
  refine rt (fn := Tryd.f90) (v := .tuple #[.pointer (some ⟨b1, 0, none⟩), .bool true]) hF286 (re2 hF286 (fn := Tryd.f90) rfl (by kernel_rfl) (by kernel_rfl)) ?_
  exact ⟨(true, true, r272), ao276, cap277, Z279, rfl, hp282, hle0, hs278, hM281.keep (List.Sublist.cons_cons _ (List.Sublist.refl _))⟩

set_option maxRecDepth 100000 in
set_option maxHeartbeats 0 in
theorem gset_walk (u0 : BInt) (b1 : Nat) (ao2 : Option Addr) (cap3 : Nat) (B : Nat) (w0 : World) (Z0 : Fz) (Rr : List Res) (Z : Fz) (w : World) (hs4 : SlR (tyInt .u32) Z ao2 cap3 u0.abs) (hM0 : Mem B [] w0 Z0 ((.row b1 [.bool u0.neg, .slice ao2 u0.abs.length cap3] 93) :: Rr) Z w) (hZ : Z.on w) {K : BInt → Prop} (hp : gset_vc u0 K) : Calls Tryd.prog 96 #[.pointer (some ⟨b1, 0, none⟩), .pointer (some ⟨b1, 0, none⟩)] w fun e w' => ∃ (r : BInt) (ao1001 : Option Addr) (cap1002 : Nat) (Z' : Fz), e = .returned (.pointer (some ⟨b1, 0, none⟩)) ∧ K r ∧ Fz.le Z Z' ∧ SlR (tyInt .u32) Z' ao1001 cap1002 r.abs ∧ Mem B [] w0 Z0 ((.row b1 [.bool r.neg, .slice ao1001 r.abs.length cap1002] 93) :: Rr) Z' w' := by
 refine enter0 Tryd.func96 rfl rfl (by kernel_rfl) ?_; intro a0 hF0; have hle0 := Fz.le.refl Z
 have hp5 := hp (hs4.small); clear hp
 refine sqH ?_; intro hQ6Q hQ6
 refine s1 hF0 4 (.pointer none) ?_; intro a7 hF8; clear hF0
 refine nlH (hQ6 _ _ ?_); clear hQ6 hQ6Q
 have hF9 : Fr 16 [] [⟨0, [], .pointer (some ⟨b1, 0, none⟩)⟩, ⟨1, [], .pointer (some ⟨b1, 0, none⟩)⟩] a7 := hF8.reg; clear hF8
 have hcd9_0 := hp5.1; have hp54 := hp5.2; clear hp5
 refine wp_seq (any_invE mixed [[], [], [1], [2], [3], [], [5], [6], [7], [8], [0, 4, 9], [0, 1, 2, 3, 4, 5, 6, 7, 8, 9, 10]] 12 (fun S a w1 => ∃ (ao32 : Option Addr) (cap33 : Nat) (ao46 : Option Addr) (cap47 : Nat) (ud4 : Value) (ud5 : Value) (ud6 : Value) (ud7 : Value) (ud8 : Value) (ud9 : Value) (ud10 : Value) (ud11 : Value) (ud12 : Value) (ud13 : Value) (ud14 : Value) (ud15 : Value) (rh0 : Res) (rh1 : Res) (Z55 : Fz), Fz.le Z Z55 ∧ Fr 16 [] [⟨0, [], .pointer (some ⟨b1, 0, none⟩)⟩, ⟨1, [], .pointer (some ⟨b1, 0, none⟩)⟩, ⟨4, [], ud4⟩, ⟨5, [], ud5⟩, ⟨6, [], ud6⟩, ⟨7, [], ud7⟩, ⟨8, [], ud8⟩, ⟨9, [], ud9⟩, ⟨10, [], ud10⟩, ⟨11, [], ud11⟩, ⟨12, [], ud12⟩, ⟨13, [], ud13⟩, ⟨14, [], ud14⟩, ⟨15, [], ud15⟩] a ∧ Mem B [] w0 Z0 (rh0 :: rh1 :: Rr) Z55 w1 ∧ (S 11 = true → ud4 = .pointer (some ⟨b1, 0, none⟩)) ∧ (S 0 = true → ud5 = .pointer (some ⟨b1, 0, none⟩)) ∧ (S 1 = true → ud6 = .pointer (some ⟨b1, 0, none⟩)) ∧ (S 2 = true → ud7 = .pointer (some ⟨b1, 0, none⟩)) ∧ (S 3 = true → ud8 = .pointer (some ⟨b1, 0, none⟩)) ∧ (S 4 = true → ud9 = .bool u0.neg) ∧ (S 5 = true → ud10 = .pointer (some ⟨b1, 0, none⟩)) ∧ (S 6 = true → ud11 = .pointer (some ⟨b1, 0, none⟩)) ∧ (S 7 = true → ud12 = .pointer (some ⟨b1, 1, none⟩)) ∧ (S 8 = true → ud13 = .slice ao2 u0.abs.length cap3) ∧ (S 9 = true → ud14 = .slice ao32 (gtwinS u0.abs).length cap33) ∧ (S 10 = true → ud15 = .pointer (some ⟨b1, 0, none⟩)) ∧ (S 10 = false → rh0 = .row b1 [.bool u0.neg, .slice ao2 u0.abs.length cap3] 93) ∧ (S 10 = true → rh0 = .nil) ∧ (S 9 = false → rh1 = .nil) ∧ (S 9 = true → S 10 = false → rh1 = .own (tyInt .u32) 130 ao32 cap33 (gtwinS u0.abs)) ∧ (S 10 = true → rh1 = .row b1 [.bool ((ggive u0 u0.neg (gtwinS u0.abs)).neg), .slice ao46 ((ggive u0 u0.neg (gtwinS u0.abs)).abs).length cap47] 93) ∧ (S 10 = true → SlR (tyInt .u32) Z55 ao32 cap33 (gtwinS u0.abs)) ∧ (S 10 = true → SlR (tyInt .u32) Z55 ao46 cap47 ((ggive u0 u0.neg (gtwinS u0.abs)).abs))) ?h0 ?hs ?hE)
 case h0 =>
  have hF57 := hF9.any 4
  have hF58 := hF57.any 5
  have hF59 := hF58.any 6
  have hF60 := hF59.any 7
  have hF61 := hF60.any 8
  have hF62 := hF61.any 9
  have hF63 := hF62.any 10
  have hF64 := hF63.any 11
  have hF65 := hF64.any 12
  have hF66 := hF65.any 13
  have hF67 := hF66.any 14
  have hF68 := hF67.any 15
  have hM69 := hM0.nilRes
  have hM70 := (hM69.perm ((pk 1 rfl).trans (lpr.cons _))).drew
  exact ⟨none, 0, none, 0, a7.tmps.getD 4 undef, a7.tmps.getD 5 undef, a7.tmps.getD 6 undef, a7.tmps.getD 7 undef, a7.tmps.getD 8 undef, a7.tmps.getD 9 undef, a7.tmps.getD 10 undef, a7.tmps.getD 11 undef, a7.tmps.getD 12 undef, a7.tmps.getD 13 undef, a7.tmps.getD 14 undef, a7.tmps.getD 15 undef, .row b1 [.bool u0.neg, .slice ao2 u0.abs.length cap3] 93, .nil, Z, Fz.le.refl _, hF68.reg, hM70, ff, ff, ff, ff, ff, ff, ff, ff, ff, ff, ff, ff, kf, ff, kf, ff, ff, ff, ff⟩
 case hs =>
  intro S hcl i o hil hi hSi hpre a w1 hI; refine Go.Sy.hid ?_; intro G hG; obtain ⟨ao32, cap33, ao46, cap47, ud4, ud5, ud6, ud7, ud8, ud9, ud10, ud11, ud12, ud13, ud14, ud15, rh0, rh1, Z55, hle56, hFx, hMx, cu4, cu5, cu6, cu7, cu8, cu9, cu10, cu11, cu12, cu13, cu14, cu15, cr0_0, cr0_1, cr1_0, cr1_1, cr1_2, cf0, hI⟩ := hI; have cf1 := hI; clear hI
  have hcase : i = 0 ∨ i = 1 ∨ i = 2 ∨ i = 3 ∨ i = 4 ∨ i = 5 ∨ i = 6 ∨ i = 7 ∨ i = 8 ∨ i = 9 ∨ i = 10 ∨ i = 11 := by clear hi; omega
  rcases hcase with rfl | rfl | rfl | rfl | rfl | rfl | rfl | rfl | rfl | rfl | rfl | rfl
  ·
   obtain rfl := oj hi
   have hx0 := hSi
   have hx10 := ngF hcl 10 0 hx0
   have hx11 := ngF hcl 11 0 hx0
   obtain rfl := cr0_0 hx10
   refine hG (any_step ?_); clear hG G; intro A J hJ
   have hle0 := Fz.le.trans hle0 hle56
   have hzst := Fz.le.refl Z55
   have hs71 := hs4.mono hle56
   refine s1 hFx 5 (.pointer (some ⟨b1, 0, none⟩)) ?_; intro a72 hF73; clear hFx
   refine nl (qnI (hJ _ _ ?_)); clear hJ J
   exact ⟨ao32, cap33, ao46, cap47, ud4, .pointer (some ⟨b1, 0, none⟩), ud6, ud7, ud8, ud9, ud10, ud11, ud12, ud13, ud14, ud15, .row b1 [.bool u0.neg, .slice ao2 u0.abs.length cap3] 93, rh1, Z55, hle56, hF73.reg, hMx.perm lpr, (nt hx11), kf, cu6, cu7, cu8, cu9, cu10, cu11, cu12, cu13, cu14, (nt hx10), kf, (nt hx10), cr1_0, cr1_1, (nt hx10), (nt hx10), (nt hx10)⟩
  ·
   obtain rfl := oj hi
   have hx1 := hSi
   have hx2 := ngF hcl 2 1 hx1
   have hx3 := ngF hcl 3 2 hx2
   have hx4 := ngF hcl 4 3 hx3
   have hx10 := ngF hcl 10 4 hx4
   have hx11 := ngF hcl 11 1 hx1
   obtain rfl := cr0_0 hx10
   refine hG (any_step ?_); clear hG G; intro A J hJ
   have hle0 := Fz.le.trans hle0 hle56
   have hzst := Fz.le.refl Z55
   have hs75 := hs4.mono hle56
   refine s1 hFx 6 (.pointer (some ⟨b1, 0, none⟩)) ?_; intro a76 hF77; clear hFx
   refine nl (qnI (hJ _ _ ?_)); clear hJ J
   exact ⟨ao32, cap33, ao46, cap47, ud4, ud5, .pointer (some ⟨b1, 0, none⟩), ud7, ud8, ud9, ud10, ud11, ud12, ud13, ud14, ud15, .row b1 [.bool u0.neg, .slice ao2 u0.abs.length cap3] 93, rh1, Z55, hle56, hF77.reg, hMx.perm lpr, (nt hx11), cu5, kf, (nt hx2), (nt hx3), (nt hx4), cu10, cu11, cu12, cu13, cu14, (nt hx10), kf, (nt hx10), cr1_0, cr1_1, (nt hx10), (nt hx10), (nt hx10)⟩
  ·
   obtain rfl := oj hi
   have hx1 := hpre 1 (by kernel_rfl)
   have hx2 := hSi
   have hx3 := ngF hcl 3 2 hx2
   have hx4 := ngF hcl 4 3 hx3
   have hx10 := ngF hcl 10 4 hx4
   have hx11 := ngF hcl 11 2 hx2
   obtain rfl := cu6 hx1
   obtain rfl := cr0_0 hx10
   refine hG (any_step ?_); clear hG G; intro A J hJ
   have hle0 := Fz.le.trans hle0 hle56
   have hzst := Fz.le.refl Z55
   have hs79 := hs4.mono hle56
   refine s1 hFx 7 (.pointer (some ⟨b1, 0, none⟩)) ?_; intro a80 hF81; clear hFx
   refine nl (qnI (hJ _ _ ?_)); clear hJ J
   exact ⟨ao32, cap33, ao46, cap47, ud4, ud5, .pointer (some ⟨b1, 0, none⟩), .pointer (some ⟨b1, 0, none⟩), ud8, ud9, ud10, ud11, ud12, ud13, ud14, ud15, .row b1 [.bool u0.neg, .slice ao2 u0.abs.length cap3] 93, rh1, Z55, hle56, hF81.reg, hMx.perm lpr, (nt hx11), cu5, kf, kf, (nt hx3), (nt hx4), cu10, cu11, cu12, cu13, cu14, (nt hx10), kf, (nt hx10), cr1_0, cr1_1, (nt hx10), (nt hx10), (nt hx10)⟩
  ·
   obtain rfl := oj hi
   have hx2 := hpre 2 (by kernel_rfl)
   have hx1 := hcl 2 1 (by kernel_rfl) hx2
   have hx3 := hSi
   have hx4 := ngF hcl 4 3 hx3
   have hx10 := ngF hcl 10 4 hx4
   have hx11 := ngF hcl 11 3 hx3
   obtain rfl := cu6 hx1
   obtain rfl := cu7 hx2
   obtain rfl := cr0_0 hx10
   refine hG (any_step ?_); clear hG G; intro A J hJ
   have hle0 := Fz.le.trans hle0 hle56
   have hzst := Fz.le.refl Z55
   have hs83 := hs4.mono hle56
   refine s1 hFx 8 (.pointer (some ⟨b1, 0, none⟩)) ?_; intro a84 hF85; clear hFx
   refine nl (qnI (hJ _ _ ?_)); clear hJ J
   exact ⟨ao32, cap33, ao46, cap47, ud4, ud5, .pointer (some ⟨b1, 0, none⟩), .pointer (some ⟨b1, 0, none⟩), .pointer (some ⟨b1, 0, none⟩), ud9, ud10, ud11, ud12, ud13, ud14, ud15, .row b1 [.bool u0.neg, .slice ao2 u0.abs.length cap3] 93, rh1, Z55, hle56, hF85.reg, hMx.perm lpr, (nt hx11), cu5, kf, kf, kf, (nt hx4), cu10, cu11, cu12, cu13, cu14, (nt hx10), kf, (nt hx10), cr1_0, cr1_1, (nt hx10), (nt hx10), (nt hx10)⟩
  ·
   obtain rfl := oj hi
   have hx3 := hpre 3 (by kernel_rfl)
   have hx2 := hcl 3 2 (by kernel_rfl) hx3
   have hx1 := hcl 2 1 (by kernel_rfl) hx2
   have hx4 := hSi
   have hx10 := ngF hcl 10 4 hx4
   have hx11 := ngF hcl 11 4 hx4
   obtain rfl := cu6 hx1
   obtain rfl := cu7 hx2
   obtain rfl := cu8 hx3
   obtain rfl := cr0_0 hx10
   refine hG (any_step ?_); clear hG G; intro A J hJ
   have hle0 := Fz.le.trans hle0 hle56
   have hzst := Fz.le.refl Z55
   have hs87 := hs4.mono hle56
   refine l1 hFx hMx 9 0 0 (.bool u0.neg) rfl rfl ?_; intro a88 hF89; clear hFx
   refine nl (qnI (hJ _ _ ?_)); clear hJ J
   exact ⟨ao32, cap33, ao46, cap47, ud4, ud5, .pointer (some ⟨b1, 0, none⟩), .pointer (some ⟨b1, 0, none⟩), .pointer (some ⟨b1, 0, none⟩), .bool u0.neg, ud10, ud11, ud12, ud13, ud14, ud15, .row b1 [.bool u0.neg, .slice ao2 u0.abs.length cap3] 93, rh1, Z55, hle56, hF89.reg, hMx.perm lpr, (nt hx11), cu5, kf, kf, kf, kf, cu10, cu11, cu12, cu13, cu14, (nt hx10), kf, (nt hx10), cr1_0, cr1_1, (nt hx10), (nt hx10), (nt hx10)⟩
  ·
   obtain rfl := oj hi
   have hx5 := hSi
   have hx6 := ngF hcl 6 5 hx5
   have hx7 := ngF hcl 7 6 hx6
   have hx8 := ngF hcl 8 7 hx7
   have hx9 := ngF hcl 9 8 hx8
   have hx10 := ngF hcl 10 9 hx9
   have hx11 := ngF hcl 11 5 hx5
   obtain rfl := cr0_0 hx10
   obtain rfl := cr1_0 hx9
   refine hG (any_step ?_); clear hG G; intro A J hJ
   have hle0 := Fz.le.trans hle0 hle56
   have hzst := Fz.le.refl Z55
   have hs91 := hs4.mono hle56
   have hM92 := hMx.keep (List.Sublist.cons_cons _ (List.Sublist.cons _ (List.Sublist.refl _))); clear hMx
   refine s1 hFx 10 (.pointer (some ⟨b1, 0, none⟩)) ?_; intro a93 hF94; clear hFx
   refine nl (qnI (hJ _ _ ?_)); clear hJ J
   have hM95 := hM92.nilRes
   exact ⟨ao32, cap33, ao46, cap47, ud4, ud5, ud6, ud7, ud8, ud9, .pointer (some ⟨b1, 0, none⟩), ud11, ud12, ud13, ud14, ud15, .row b1 [.bool u0.neg, .slice ao2 u0.abs.length cap3] 93, .nil, Z55, hle56, hF94.reg, hM95.perm ((pk 1 rfl).trans (lpr.cons _)), (nt hx11), cu5, cu6, cu7, cu8, cu9, kf, (nt hx6), (nt hx7), (nt hx8), (nt hx9), (nt hx10), kf, (nt hx10), kf, (fun h _ => nt hx9 h), (nt hx10), (nt hx10), (nt hx10)⟩
  ·
   obtain rfl := oj hi
   have hx5 := hpre 5 (by kernel_rfl)
   have hx6 := hSi
   have hx7 := ngF hcl 7 6 hx6
   have hx8 := ngF hcl 8 7 hx7
   have hx9 := ngF hcl 9 8 hx8
   have hx10 := ngF hcl 10 9 hx9
   have hx11 := ngF hcl 11 6 hx6
   obtain rfl := cu10 hx5
   obtain rfl := cr0_0 hx10
   obtain rfl := cr1_0 hx9
   refine hG (any_step ?_); clear hG G; intro A J hJ
   have hle0 := Fz.le.trans hle0 hle56
   have hzst := Fz.le.refl Z55
   have hs97 := hs4.mono hle56
   have hM98 := hMx.keep (List.Sublist.cons_cons _ (List.Sublist.cons _ (List.Sublist.refl _))); clear hMx
   refine s1 hFx 11 (.pointer (some ⟨b1, 0, none⟩)) ?_; intro a99 hF100; clear hFx
   refine nl (qnI (hJ _ _ ?_)); clear hJ J
   have hM101 := hM98.nilRes
   exact ⟨ao32, cap33, ao46, cap47, ud4, ud5, ud6, ud7, ud8, ud9, .pointer (some ⟨b1, 0, none⟩), .pointer (some ⟨b1, 0, none⟩), ud12, ud13, ud14, ud15, .row b1 [.bool u0.neg, .slice ao2 u0.abs.length cap3] 93, .nil, Z55, hle56, hF100.reg, hM101.perm ((pk 1 rfl).trans (lpr.cons _)), (nt hx11), cu5, cu6, cu7, cu8, cu9, kf, kf, (nt hx7), (nt hx8), (nt hx9), (nt hx10), kf, (nt hx10), kf, (fun h _ => nt hx9 h), (nt hx10), (nt hx10), (nt hx10)⟩
  ·
   obtain rfl := oj hi
   have hx6 := hpre 6 (by kernel_rfl)
   have hx5 := hcl 6 5 (by kernel_rfl) hx6
   have hx7 := hSi
   have hx8 := ngF hcl 8 7 hx7
   have hx9 := ngF hcl 9 8 hx8
   have hx10 := ngF hcl 10 9 hx9
   have hx11 := ngF hcl 11 7 hx7
   obtain rfl := cu10 hx5
   obtain rfl := cu11 hx6
   obtain rfl := cr0_0 hx10
   obtain rfl := cr1_0 hx9
   refine hG (any_step ?_); clear hG G; intro A J hJ
   have hle0 := Fz.le.trans hle0 hle56
   have hzst := Fz.le.refl Z55
   have hs103 := hs4.mono hle56
   have hM104 := hMx.keep (List.Sublist.cons_cons _ (List.Sublist.cons _ (List.Sublist.refl _))); clear hMx
   refine s1 hFx 12 (.pointer (some ⟨b1, 1, none⟩)) ?_; intro a105 hF106; clear hFx
   refine nl (qnI (hJ _ _ ?_)); clear hJ J
   have hM107 := hM104.nilRes
   exact ⟨ao32, cap33, ao46, cap47, ud4, ud5, ud6, ud7, ud8, ud9, .pointer (some ⟨b1, 0, none⟩), .pointer (some ⟨b1, 0, none⟩), .pointer (some ⟨b1, 1, none⟩), ud13, ud14, ud15, .row b1 [.bool u0.neg, .slice ao2 u0.abs.length cap3] 93, .nil, Z55, hle56, hF106.reg, hM107.perm ((pk 1 rfl).trans (lpr.cons _)), (nt hx11), cu5, cu6, cu7, cu8, cu9, kf, kf, kf, (nt hx8), (nt hx9), (nt hx10), kf, (nt hx10), kf, (fun h _ => nt hx9 h), (nt hx10), (nt hx10), (nt hx10)⟩
  ·
   obtain rfl := oj hi
   have hx7 := hpre 7 (by kernel_rfl)
   have hx6 := hcl 7 6 (by kernel_rfl) hx7
   have hx5 := hcl 6 5 (by kernel_rfl) hx6
   have hx8 := hSi
   have hx9 := ngF hcl 9 8 hx8
   have hx10 := ngF hcl 10 9 hx9
   have hx11 := ngF hcl 11 8 hx8
   obtain rfl := cu10 hx5
   obtain rfl := cu11 hx6
   obtain rfl := cu12 hx7
   obtain rfl := cr0_0 hx10
   obtain rfl := cr1_0 hx9
   refine hG (any_step ?_); clear hG G; intro A J hJ
   have hle0 := Fz.le.trans hle0 hle56
   have hzst := Fz.le.refl Z55
   have hs109 := hs4.mono hle56
   have hM110 := hMx.keep (List.Sublist.cons_cons _ (List.Sublist.cons _ (List.Sublist.refl _))); clear hMx
   refine l1 hFx hM110 13 0 1 (.slice ao2 u0.abs.length cap3) rfl rfl ?_; intro a111 hF112; clear hFx
   refine nl (qnI (hJ _ _ ?_)); clear hJ J
   have hM113 := hM110.nilRes
   exact ⟨ao32, cap33, ao46, cap47, ud4, ud5, ud6, ud7, ud8, ud9, .pointer (some ⟨b1, 0, none⟩), .pointer (some ⟨b1, 0, none⟩), .pointer (some ⟨b1, 1, none⟩), .slice ao2 u0.abs.length cap3, ud14, ud15, .row b1 [.bool u0.neg, .slice ao2 u0.abs.length cap3] 93, .nil, Z55, hle56, hF112.reg, hM113.perm ((pk 1 rfl).trans (lpr.cons _)), (nt hx11), cu5, cu6, cu7, cu8, cu9, kf, kf, kf, kf, (nt hx9), (nt hx10), kf, (nt hx10), kf, (fun h _ => nt hx9 h), (nt hx10), (nt hx10), (nt hx10)⟩
  ·
   obtain rfl := oj hi
   have hx8 := hpre 8 (by kernel_rfl)
   have hx7 := hcl 8 7 (by kernel_rfl) hx8
   have hx6 := hcl 7 6 (by kernel_rfl) hx7
   have hx5 := hcl 6 5 (by kernel_rfl) hx6
   have hx9 := hSi
   have hx10 := ngF hcl 10 9 hx9
   have hx11 := ngF hcl 11 9 hx9
   obtain rfl := cu10 hx5
   obtain rfl := cu11 hx6
   obtain rfl := cu12 hx7
   obtain rfl := cu13 hx8
   obtain rfl := cr0_0 hx10
   obtain rfl := cr1_0 hx9
   refine hG (any_step ?_); clear hG G; intro A J hJ
   have hle0 := Fz.le.trans hle0 hle56
   have hzst := Fz.le.refl Z55
   have hs115 := hs4.mono hle56
   have hM116 := hMx.keep (List.Sublist.cons_cons _ (List.Sublist.cons _ (List.Sublist.refl _))); clear hMx
   refine cl hFx 125 #[.slice ao2 u0.abs.length cap3] (nog rfl _) rfl (by kernel_rfl) (by kernel_rfl) ?_
   refine (gtwin_fun u0.abs hcd9_0 ao2 cap3 _ _ hs115 hM116.fz).mono ?_; rintro _ wd117 ⟨ao121, cap122, Z123, rfl, hm⟩; refine ⟨_, rfl, ?_⟩; intro a118 hF119; have hM120 := hM116.callZ hm; have hle124 := hm.ext.le; clear hm hM116 hFx
   replace hzst := hzst.mono hle124
   replace hs115 := hs115.mono hle124
   replace hle0 := Fz.le.trans hle0 hle124
   have hM125 : Mem B [] w0 Z0 ((.own (tyInt .u32) 130 ao121 cap122 (gtwinS u0.abs)) :: (.row b1 [.bool u0.neg, .slice ao2 u0.abs.length cap3] 93) :: Rr) Z123 wd117 := hM120; clear hM120
   refine nl (qnI (hJ _ _ ?_)); clear hJ J
   exact ⟨ao121, cap122, ao46, cap47, ud4, ud5, ud6, ud7, ud8, ud9, .pointer (some ⟨b1, 0, none⟩), .pointer (some ⟨b1, 0, none⟩), .pointer (some ⟨b1, 1, none⟩), .slice ao2 u0.abs.length cap3, .slice ao121 (gtwinS u0.abs).length cap122, ud15, .row b1 [.bool u0.neg, .slice ao2 u0.abs.length cap3] 93, .own (tyInt .u32) 130 ao121 cap122 (gtwinS u0.abs), Z123, hle56.trans hzst, hF119.reg, hM125.perm ((pk 1 rfl).trans (lpr.cons _)), (nt hx11), cu5, cu6, cu7, cu8, cu9, kf, kf, kf, kf, kf, (nt hx10), kf, (nt hx10), nu, kf2, (nt hx10), (nt hx10), (nt hx10)⟩
  ·
   obtain rfl := oj hi
   have hx9 := hpre 9 (by kernel_rfl)
   have hx4 := hpre 4 (by kernel_rfl)
   have hx0 := hpre 0 (by kernel_rfl)
   have hx8 := hcl 9 8 (by kernel_rfl) hx9
   have hx3 := hcl 4 3 (by kernel_rfl) hx4
   have hx7 := hcl 8 7 (by kernel_rfl) hx8
   have hx2 := hcl 3 2 (by kernel_rfl) hx3
   have hx6 := hcl 7 6 (by kernel_rfl) hx7
   have hx1 := hcl 2 1 (by kernel_rfl) hx2
   have hx5 := hcl 6 5 (by kernel_rfl) hx6
   have hx10 := hSi
   have hx11 := ngF hcl 11 10 hx10
   obtain rfl := cu5 hx0
   obtain rfl := cu6 hx1
   obtain rfl := cu7 hx2
   obtain rfl := cu8 hx3
   obtain rfl := cu9 hx4
   obtain rfl := cu10 hx5
   obtain rfl := cu11 hx6
   obtain rfl := cu12 hx7
   obtain rfl := cu13 hx8
   obtain rfl := cu14 hx9
   obtain rfl := cr0_0 hx10
   obtain rfl := cr1_1 hx9 hx10
   refine hG (any_step ?_); clear hG G; intro A J hJ
   have hle0 := Fz.le.trans hle0 hle56
   have hzst := Fz.le.refl Z55
   have hs127 := hs4.mono hle56
   obtain ⟨Z128, hle129, hM130, hs131⟩ := hMx.freeze 1 rfl
   replace hzst := hzst.mono hle129
   replace hs127 := hs127.mono hle129
   replace hle0 := Fz.le.trans hle0 hle129
   have hM132 : Mem B [] w0 Z0 ((.row b1 [.bool u0.neg, .slice ao2 u0.abs.length cap3] 93) :: Rr) Z128 w1 := hM130; clear hM130
   refine cl hFx 91 #[.pointer (some ⟨b1, 0, none⟩), .bool u0.neg, .slice ao32 (gtwinS u0.abs).length cap33] (nog rfl _) rfl (by kernel_rfl) (by kernel_rfl) ?_
   refine (ggive_fun u0 u0.neg (gtwinS u0.abs) b1 ao2 cap3 ao32 cap33 _ _ _ _ _ _ hs127 hs131 hM132 hM132.fz).mono ?_; rintro _ wd133 ⟨ao137, cap138, Z140, rfl, hle141, hs139, hm⟩; refine ⟨_, rfl, ?_⟩; intro a134 hF135; have hM136 := hm; clear hm hM132 hFx
   replace hzst := hzst.mono hle141
   replace hs127 := hs127.mono hle141
   replace hs131 := hs131.mono hle141
   replace hle0 := Fz.le.trans hle0 hle141
   have hM142 : Mem B [] w0 Z0 ((.row b1 [.bool ((ggive u0 u0.neg (gtwinS u0.abs)).neg), .slice ao137 ((ggive u0 u0.neg (gtwinS u0.abs)).abs).length cap138] 93) :: Rr) Z140 wd133 := hM136; clear hM136
   refine nl (qnI (hJ _ _ ?_)); clear hJ J
   have hM143 := hM142.nilRes
   exact ⟨ao32, cap33, ao137, cap138, ud4, .pointer (some ⟨b1, 0, none⟩), .pointer (some ⟨b1, 0, none⟩), .pointer (some ⟨b1, 0, none⟩), .pointer (some ⟨b1, 0, none⟩), .bool u0.neg, .pointer (some ⟨b1, 0, none⟩), .pointer (some ⟨b1, 0, none⟩), .pointer (some ⟨b1, 1, none⟩), .slice ao2 u0.abs.length cap3, .slice ao32 (gtwinS u0.abs).length cap33, .pointer (some ⟨b1, 0, none⟩), .nil, .row b1 [.bool ((ggive u0 u0.neg (gtwinS u0.abs)).neg), .slice ao137 ((ggive u0 u0.neg (gtwinS u0.abs)).abs).length cap138] 93, Z140, hle56.trans hzst, hF135.reg, hM143.perm lpr, (nt hx11), kf, kf, kf, kf, kf, kf, kf, kf, kf, kf, kf, nu, kf, (tn hx9), (fun _ => nu), kf, (fun _ => hs131), (fun _ => hs139)⟩
  ·
   obtain rfl := oj hi
   have hx10 := hpre 10 (by kernel_rfl)
   have hx9 := hpre 9 (by kernel_rfl)
   have hx8 := hpre 8 (by kernel_rfl)
   have hx7 := hpre 7 (by kernel_rfl)
   have hx6 := hpre 6 (by kernel_rfl)
   have hx5 := hpre 5 (by kernel_rfl)
   have hx4 := hpre 4 (by kernel_rfl)
   have hx3 := hpre 3 (by kernel_rfl)
   have hx2 := hpre 2 (by kernel_rfl)
   have hx1 := hpre 1 (by kernel_rfl)
   have hx0 := hpre 0 (by kernel_rfl)
   have hx11 := hSi
   obtain rfl := cu5 hx0
   obtain rfl := cu6 hx1
   obtain rfl := cu7 hx2
   obtain rfl := cu8 hx3
   obtain rfl := cu9 hx4
   obtain rfl := cu10 hx5
   obtain rfl := cu11 hx6
   obtain rfl := cu12 hx7
   obtain rfl := cu13 hx8
   obtain rfl := cu14 hx9
   obtain rfl := cu15 hx10
   obtain rfl := cr0_1 hx10
   obtain rfl := cr1_2 hx10
   refine hG (any_step ?_); clear hG G; intro A J hJ
   have hle0 := Fz.le.trans hle0 hle56
   have hzst := Fz.le.refl Z55
   have hs145 := hs4.mono hle56
   have hs146 := cf0 hx10
   have hs147 := cf1 hx10
   have hM148 := hMx.keep (List.Sublist.cons _ (List.Sublist.cons_cons _ (List.Sublist.refl _))); clear hMx
   refine s1 hFx 4 (.pointer (some ⟨b1, 0, none⟩)) ?_; intro a149 hF150; clear hFx
   refine nl (qnI (hJ _ _ ?_)); clear hJ J
   have hM151 := hM148.nilRes
   exact ⟨ao32, cap33, ao46, cap47, .pointer (some ⟨b1, 0, none⟩), .pointer (some ⟨b1, 0, none⟩), .pointer (some ⟨b1, 0, none⟩), .pointer (some ⟨b1, 0, none⟩), .pointer (some ⟨b1, 0, none⟩), .bool u0.neg, .pointer (some ⟨b1, 0, none⟩), .pointer (some ⟨b1, 0, none⟩), .pointer (some ⟨b1, 1, none⟩), .slice ao2 u0.abs.length cap3, .slice ao32 (gtwinS u0.abs).length cap33, .pointer (some ⟨b1, 0, none⟩), .nil, .row b1 [.bool ((ggive u0 u0.neg (gtwinS u0.abs)).neg), .slice ao46 ((ggive u0 u0.neg (gtwinS u0.abs)).abs).length cap47] 93, Z55, hle56, hF150.reg, hM151.perm lpr, kf, kf, kf, kf, kf, kf, kf, kf, kf, kf, kf, kf, (tn hx10), kf, (tn hx9), (fun _ => tn hx10), kf, (fun _ => hs146), (fun _ => hs147)⟩
 case hE =>
  intro S hS a153 wd154 hI; refine Go.Sy.hid ?_; intro G hG; obtain ⟨ao32, cap33, ao46, cap47, ud4, ud5, ud6, ud7, ud8, ud9, ud10, ud11, ud12, ud13, ud14, ud15, rh0, rh1, Z55, hle56, hFx, hMx, cu4, cu5, cu6, cu7, cu8, cu9, cu10, cu11, cu12, cu13, cu14, cu15, cr0_0, cr0_1, cr1_0, cr1_1, cr1_2, cf0, hI⟩ := hI; have cf1 := hI; clear hI; refine hG ?_; clear hG G
  obtain rfl := cu4 (hS 11 (by decide))
  obtain rfl := cu5 (hS 0 (by decide))
  obtain rfl := cu6 (hS 1 (by decide))
  obtain rfl := cu7 (hS 2 (by decide))
  obtain rfl := cu8 (hS 3 (by decide))
  obtain rfl := cu9 (hS 4 (by decide))
  obtain rfl := cu10 (hS 5 (by decide))
  obtain rfl := cu11 (hS 6 (by decide))
  obtain rfl := cu12 (hS 7 (by decide))
  obtain rfl := cu13 (hS 8 (by decide))
  obtain rfl := cu14 (hS 9 (by decide))
  obtain rfl := cu15 (hS 10 (by decide))
  obtain rfl := cr0_1 (hS 10 (by decide))
  obtain rfl := cr1_2 (hS 10 (by decide))
  have hle0 := Fz.le.trans hle0 hle56
  have hs155 := hs4.mono hle56
  have hs156 := cf0 (hS 10 (by decide))
  have hs157 := cf1 (hS 10 (by decide))
  have hMx := hMx.keep (List.Sublist.cons _ (List.Sublist.cons_cons _ (List.Sublist.refl _)))
  refine thn ?_
  refine wp_ret ?_
  refine rt (fn := Tryd.f96) (v := .pointer (some ⟨b1, 0, none⟩)) hFx (re1 hFx (fn := Tryd.f96) rfl (by kernel_rfl)) ?_
  exact ⟨(ggive u0 u0.neg (gtwinS u0.abs)), ao46, cap47, Z55, rfl, hp54, hle0, hs157, hMx.keep (List.Sublist.cons_cons _ (List.Sublist.refl _))⟩

end Go.Proofs.YtinegicenfndkaaDoor
