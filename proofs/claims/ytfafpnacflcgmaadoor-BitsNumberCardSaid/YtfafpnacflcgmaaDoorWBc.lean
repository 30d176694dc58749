/- The walks, made by program: each call does what its pure predicate says. -/
import Derived.Test.YtfafpnacflcgmaaDoorPBc
import Derived.Test.YtfafpnacflcgmaaDoorWBb
set_option linter.unusedVariables false
set_option linter.unusedSimpArgs false
namespace Go.Proofs.YtfafpnacflcgmaaDoor
open Go.Sy Go.RowKit
theorem gwords_fun (u0 : Int) (hpre : 0 ≤ u0 ∧ u0 ≤ 18446744073709551615)  (Z : Fz) (w : World)  (hZ : Z.on w) : Calls Tryd.prog 72 #[.int .u64 u0] w fun e w' => ∃ (ao1001 : Option Addr) (cap1002 : Nat) (Z' : Fz), e = .returned (.slice ao1001 (gwordsS u0).length cap1002) ∧ SlR (tyInt .u32) Z' ao1001 cap1002 (gwordsS u0) ∧ Mem w.heap.size [] w Z [] Z' w' :=
  (gwords_walk u0  Z w  hZ (gwords_ok u0 hpre)).mono fun _ _ ⟨r, h0, h1, h2, he, hk, f0, hm⟩ => by subst hk; exact ⟨h0, h1, h2, he, f0, hm⟩

theorem gadd_fun (u0 : List Int) (u1 : List Int) (hpre : wok u0 ∧ wok u1 ∧ u0.length ≤ 1000000 ∧ u1.length ≤ 1000000) (ao1 : Option Addr) (cap2 : Nat) (ao4 : Option Addr) (cap5 : Nat) (Z : Fz) (w : World) (hs3 : SlR (tyInt .u32) Z ao1 cap2 u0) (hs6 : SlR (tyInt .u32) Z ao4 cap5 u1) (hZ : Z.on w) : Calls Tryd.prog 70 #[.slice ao1 u0.length cap2, .slice ao4 u1.length cap5] w fun e w' => ∃ (ao1001 : Option Addr) (cap1002 : Nat) (Z' : Fz), e = .returned (.slice ao1001 (gaddS u0 u1).length cap1002) ∧ SlR (tyInt .u32) Z' ao1001 cap1002 (gaddS u0 u1) ∧ Mem w.heap.size [] w Z [] Z' w' :=
  (gadd_walk u0 u1 ao1 cap2 ao4 cap5 Z w hs3 hs6 hZ (gadd_ok u0 u1 hpre)).mono fun _ _ ⟨r, h0, h1, h2, he, hk, f0, hm⟩ => by subst hk; exact ⟨h0, h1, h2, he, f0, hm⟩

theorem gmul_fun (u0 : List Int) (u1 : List Int) (hpre : wok u0 ∧ wok u1 ∧ u0.length ≤ 1000 ∧ u1.length ≤ 1000) (ao1 : Option Addr) (cap2 : Nat) (ao4 : Option Addr) (cap5 : Nat) (Z : Fz) (w : World) (hs3 : SlR (tyInt .u32) Z ao1 cap2 u0) (hs6 : SlR (tyInt .u32) Z ao4 cap5 u1) (hZ : Z.on w) : Calls Tryd.prog 71 #[.slice ao1 u0.length cap2, .slice ao4 u1.length cap5] w fun e w' => ∃ (ao1001 : Option Addr) (cap1002 : Nat) (Z' : Fz), e = .returned (.slice ao1001 (gmulS u0 u1).length cap1002) ∧ SlR (tyInt .u32) Z' ao1001 cap1002 (gmulS u0 u1) ∧ Mem w.heap.size [] w Z [] Z' w' :=
  (gmul_walk u0 u1 ao1 cap2 ao4 cap5 Z w hs3 hs6 hZ (gmul_ok u0 u1 hpre)).mono fun _ _ ⟨r, h0, h1, h2, he, hk, f0, hm⟩ => by subst hk; exact ⟨h0, h1, h2, he, f0, hm⟩

theorem guint64_fun (u0 : BInt) (hpre : wok u0.abs) (b1 : Nat) (ao2 : Option Addr) (cap3 : Nat) (B : Nat) (w0 : World) (Z0 : Fz) (Rr : List Res) (Z : Fz) (w : World) (hs4 : SlR (tyInt .u32) Z ao2 cap3 u0.abs) (hM0 : Mem B [] w0 Z0 ((.row b1 [.bool u0.neg, .slice ao2 u0.abs.length cap3] 71) :: Rr) Z w) (hZ : Z.on w) : Calls Tryd.prog 45 #[.pointer (some ⟨b1, 0, none⟩)] w fun e w' => ∃ (ao1001 : Option Addr) (cap1002 : Nat) (Z' : Fz), e = .returned (.int .u64 (guint64S u0).1) ∧ Fz.le Z Z' ∧ SlR (tyInt .u32) Z' ao1001 cap1002 (guint64S u0).2.abs ∧ Mem B [] w0 Z0 ((.row b1 [.bool (guint64S u0).2.neg, .slice ao1001 (guint64S u0).2.abs.length cap1002] 71) :: Rr) Z' w' :=
  (guint64_walk u0 b1 ao2 cap3 B w0 Z0 Rr Z w hs4 hM0 hZ (guint64_ok u0 hpre)).mono fun _ _ ⟨r, h0, h1, h2, he, hk, f0, f1, hm⟩ => by subst hk; exact ⟨h0, h1, h2, he, f0, f1, hm⟩

set_option maxRecDepth 100000 in
set_option maxHeartbeats 0 in
theorem gint64_walk (u0 : BInt) (b1 : Nat) (ao2 : Option Addr) (cap3 : Nat) (B : Nat) (w0 : World) (Z0 : Fz) (Rr : List Res) (Z : Fz) (w : World) (hs4 : SlR (tyInt .u32) Z ao2 cap3 u0.abs) (hM0 : Mem B [] w0 Z0 ((.row b1 [.bool u0.neg, .slice ao2 u0.abs.length cap3] 71) :: Rr) Z w) (hZ : Z.on w) {K : (Int × BInt) → Prop} (hp : gint64_vc u0 K) : Calls Tryd.prog 24 #[.pointer (some ⟨b1, 0, none⟩)] w fun e w' => ∃ (r : Int × BInt) (ao1001 : Option Addr) (cap1002 : Nat) (Z' : Fz), e = .returned (.int .i64 r.1) ∧ K r ∧ Fz.le Z Z' ∧ SlR (tyInt .u32) Z' ao1001 cap1002 r.2.abs ∧ Mem B [] w0 Z0 ((.row b1 [.bool r.2.neg, .slice ao1001 r.2.abs.length cap1002] 71) :: Rr) Z' w' := by
 refine enter0 Tryd.func24 rfl rfl (by kernel_rfl) ?_; intro a0 hF0; have hle0 := Fz.le.refl Z
 have hp5 := hp (hs4.small); clear hp
 refine sqH ?_; intro hQ6Q hQ6
 refine s1 hF0 2 (.int .i64 0) ?_; intro a7 hF8; clear hF0
 refine nlH (hQ6 _ _ ?_); clear hQ6 hQ6Q
 refine sqH ?_; intro hQ9Q hQ9
 refine s1 hF8 4 (.pointer (some ⟨b1, 0, none⟩)) ?_; intro a10 hF11; clear hF8
 have hc12 := hp5.1; have hp13 := hp5.2; clear hp5
 refine cl hF11 45 #[.pointer (some ⟨b1, 0, none⟩)] (nog rfl _) rfl (by kernel_rfl) (by kernel_rfl) ?_
 obtain ⟨r18, hr19⟩ : ∃ x, (guint64S u0) = x := ⟨_, rfl⟩; have hp20 := hp13 r18 hr19; clear hp13
 have h9 := guint64_fun u0 hc12 b1 ao2 cap3 _ _ _ _ _ _ hs4 hM0 hM0.fz; rw [hr19] at h9; refine h9.mono ?_; clear h9; rintro _ wd14 ⟨ao22, cap23, Z25, rfl, hle26, hs24, hm⟩; refine ⟨_, rfl, ?_⟩; intro a15 hF16; have hM17 := hm; clear hm hM0 hF11
 replace hs4 := hs4.mono hle26
 replace hle0 := Fz.le.trans hle0 hle26
 have hM27 : Mem B [] w0 Z0 ((.row b1 [.bool r18.2.neg, .slice ao22 r18.2.abs.length cap23] 71) :: Rr) Z25 wd14 := hM17; clear hM17
 have hp28 := hp20 (hs24.small); clear hp20
 refine s1 hF16 6 (.int .i64 (w64 r18.1)) ?_; intro a29 hF30; clear hF16
 refine s1 hF30 3 (.int .i64 (w64 r18.1)) ?_; intro a31 hF32; clear hF30
 refine nlH (hQ9 _ _ ?_); clear hQ9 hQ9Q
 refine wp_seq ?_
 refine sqH ?_; intro hQ33Q hQ33
 refine s1 hF32 7 (.pointer (some ⟨b1, 0, none⟩)) ?_; intro a34 hF35; clear hF32
 refine s1 hF35 8 (.pointer (some ⟨b1, 0, none⟩)) ?_; intro a36 hF37; clear hF35
 refine s1 hF37 9 (.pointer (some ⟨b1, 0, none⟩)) ?_; intro a38 hF39; clear hF37
 refine l1 hF39 hM27 10 0 0 (.bool r18.2.neg) rfl rfl ?_; intro a40 hF41; clear hF39
 refine nlH (hQ33 _ _ ?_); clear hQ33 hQ33Q
 have hc42 := hp28.1; have hp43 := hp28.2; clear hp28
 refine cd hF41 (t := r18.2.neg) (by kernel_rfl) (fun h => Bool.noConfusion (hc42.symm.trans h)) (fun _ => ?_)
 refine wp_skip ?_
 refine thn ?_
 refine sqH ?_; intro hQ45Q hQ45
 refine s1 hF41 13 (.int .i64 (w64 r18.1)) ?_; intro a46 hF47; clear hF41
 refine s1 hF47 2 (.int .i64 (w64 r18.1)) ?_; intro a48 hF49; clear hF47
 refine nlH (hQ45 _ _ ?_); clear hQ45 hQ45Q
 refine wp_ret ?_
 refine rt (fn := Tryd.f24) (v := .int .i64 (w64 r18.1)) hF49 (re1 hF49 (fn := Tryd.f24) rfl (by kernel_rfl)) ?_
 exact ⟨(w64 r18.1, r18.2), ao22, cap23, Z25, rfl, hp43, hle0, hs24, hM27.keep (List.Sublist.cons_cons _ (List.Sublist.refl _))⟩

set_option maxRecDepth 100000 in
set_option maxHeartbeats 0 in
theorem gsetstr_walk (u0 : BInt) (u1 : List UInt8) (b1 : Nat) (ao2 : Option Addr) (cap3 : Nat) (B : Nat) (w0 : World) (Z0 : Fz) (Rr : List Res) (Z : Fz) (w : World) (hs4 : SlR (tyInt .u32) Z ao2 cap3 u0.abs) (hM0 : Mem B [] w0 Z0 ((.row b1 [.bool u0.neg, .slice ao2 u0.abs.length cap3] 71) :: Rr) Z w) (hZ : Z.on w) {K : (Bool × Bool × BInt) → Prop} (hp : gsetstr_vc u0 u1 K) : Calls Tryd.prog 44 #[.pointer (some ⟨b1, 0, none⟩), str u1, .int .i64 2] w fun e w' => ∃ (r : Bool × Bool × BInt) (ao1001 : Option Addr) (cap1002 : Nat) (Z' : Fz), e = .returned (.tuple #[.pointer (if r.1 = true then some ⟨b1, 0, none⟩ else none), .bool r.2.1]) ∧ K r ∧ Fz.le Z Z' ∧ SlR (tyInt .u32) Z' ao1001 cap1002 r.2.2.abs ∧ Mem B [] w0 Z0 ((.row b1 [.bool r.2.2.neg, .slice ao1001 r.2.2.abs.length cap1002] 71) :: Rr) Z' w' := by
 refine enter0 Tryd.func44 rfl rfl (by kernel_rfl) ?_; intro a0 hF0; have hle0 := Fz.le.refl Z
 have hp5 := hp (hs4.small); clear hp
 refine sqH ?_; intro hQ6Q hQ6
 refine s1 hF0 6 (.pointer none) ?_; intro a7 hF8; clear hF0
 refine s1 hF8 7 (.bool false) ?_; intro a9 hF10; clear hF8
 refine nlH (hQ6 _ _ ?_); clear hQ6 hQ6Q
 refine sqH ?_; intro hQ11Q hQ11
 refine s1 hF10 8 (.bool false) ?_; intro a12 hF13; clear hF10
 refine nlH (hQ11 _ _ ?_); clear hQ11 hQ11Q
 refine wp_seq ?_
 refine sqH ?_; intro hQ14Q hQ14
 refine s1 hF13 13 (str u1) ?_; intro a15 hF16; clear hF13
 refine s1 hF16 14 (.int .i64 (u1.length : Int)) ?_; intro a17 hF18; clear hF16
 refine s1 hF18 15 (.bool (decide ((u1.length : Int) > 0))) ?_; intro a19 hF20; clear hF18
 refine s1 hF20 16 (.bool (decide ((u1.length : Int) > 0))) ?_; intro a21 hF22; clear hF20
 have hF23 := hF22.atom ((decide ((u1.length : Int) > 0)) == true) (by kernel_rfl); clear hF22
 refine gp hF23 17 0 [] (decide ((u1.length : Int) > 0)) (str u1) rfl rfl ?_; intro a24 hF25; clear hF23
 have hc26 := hp5.1; have hp27 := hp5.2; clear hp5
 have hF28 := hF25.reval (d := 16) (c := []) (v := .bool (decide ((u1.length : Int) > 0))) (by kernel_rfl) (.bool true) (by rw [hc26]); clear hF25
 have hF29 := hF28.setc (d := 17) (c := [0]) (v := str u1) (by kernel_rfl) (v' := str u1) (by rw [hc26]; kernel_rfl); clear hF28
 have hc30 := hp27.1; have hp31 := hp27.2; clear hp27
 obtain ⟨c32, hq33⟩ : ∃ q, u1[(0 : Int).toNat]? = some q := ⟨_, List.getElem?_eq_getElem (by omega)⟩; have hp34 := hp31 c32 hq33
 refine st hF29 (.int .u8 (c32.toNat : Int)) (by rw [wanted_of hF29 (b := true) rfl rfl (by kernel_rfl) (by kernel_rfl)]; rfl) rfl (by kernel_rfl) (stridx_run hF29 (k := .i64) rfl (by kernel_rfl) (by kernel_rfl) (by kernel_rfl) hc30.1 hq33) ?_; intro a35 hF36; clear hF29
 refine st hF36 (.bool ((c32.toNat : Int) == 45)) (by rw [wanted_of hF36 (b := true) rfl rfl (by kernel_rfl) (by kernel_rfl)]; rfl) rfl (by kernel_rfl) (p0 hF36 (by kernel_rfl)) ?_; intro a37 hF38; clear hF36
 refine st hF38 (.bool ((c32.toNat : Int) == 45)) (by rw [wanted_of hF38 (b := true) rfl rfl (by kernel_rfl) (by kernel_rfl)]; rfl) rfl (by kernel_rfl) (p0 hF38 (by kernel_rfl)) ?_; intro a39 hF40; clear hF38
 have hF41 := hF40.atom (((c32.toNat : Int) == 45) == false) (by kernel_rfl); clear hF40
 refine gp hF41 21 1 [] ((c32.toNat : Int) == 45) (str u1) rfl rfl ?_; intro a42 hF43; clear hF41
 have hc44 := hp34.1; have hp45 := hp34.2; clear hp34
 have hF46 := hF43.reval (d := 20) (c := []) (v := .bool ((c32.toNat : Int) == 45)) (by kernel_rfl) (.bool false) (by rw [hc44]); clear hF43
 have hF47 := hF46.setc (d := 21) (c := [1]) (v := str u1) (by kernel_rfl) (v' := str u1) (by rw [hc44]; kernel_rfl); clear hF46
 have hc48 := hp45.1; have hp49 := hp45.2; clear hp45
 obtain ⟨c50, hq51⟩ : ∃ q, u1[(0 : Int).toNat]? = some q := ⟨_, List.getElem?_eq_getElem (by omega)⟩; have hp52 := hp49 c50 hq51
 refine st hF47 (.int .u8 (c50.toNat : Int)) (by rw [wanted_of hF47 (b := false) rfl rfl (by kernel_rfl) (by kernel_rfl)]; rfl) rfl (by kernel_rfl) (stridx_run hF47 (k := .i64) rfl (by kernel_rfl) (by kernel_rfl) (by kernel_rfl) hc48.1 hq51) ?_; intro a53 hF54; clear hF47
 refine st hF54 (.bool ((c50.toNat : Int) == 43)) (by rw [wanted_of hF54 (b := false) rfl rfl (by kernel_rfl) (by kernel_rfl)]; rfl) rfl (by kernel_rfl) (p0 hF54 (by kernel_rfl)) ?_; intro a55 hF56; clear hF54
 refine st hF56 (.bool ((c50.toNat : Int) == 43)) (by rw [wanted_of hF56 (b := true) rfl rfl (by kernel_rfl) (by kernel_rfl)]; rfl) rfl (by kernel_rfl) (p0 hF56 (by kernel_rfl)) ?_; intro a57 hF58; clear hF56
 refine s1 hF58 25 (.bool ((c50.toNat : Int) == 43)) ?_; intro a59 hF60; clear hF58
 refine nlH (hQ14 _ _ ?_); clear hQ14 hQ14Q
 have hc61 := hp52.1; have hp62 := hp52.2; clear hp52
 refine cd hF60 (t := (c50.toNat : Int) == 43) (by kernel_rfl) (fun h => Bool.noConfusion (hc61.symm.trans h)) (fun _ => ?_)
 refine wp_skip ?_
 refine thn ?_
 refine wp_seq ?_
 have hF64 : Fr 124 [] [⟨0, [], .pointer (some ⟨b1, 0, none⟩)⟩, ⟨1, [], str u1⟩, ⟨2, [], .int .i64 2⟩, ⟨8, [], .bool false⟩] a59 := hF60.region (by kernel_rfl) (by kernel_rfl); clear hF60
 refine sqH ?_; intro hQ65Q hQ65
 refine s1 hF64 31 (.int .i64 2) ?_; intro a66 hF67; clear hF64
 refine s1 hF67 32 (.bool false) ?_; intro a68 hF69; clear hF67
 refine nlH (hQ65 _ _ ?_); clear hQ65 hQ65Q
 refine cdF hF69 (by kernel_rfl) ?_
 refine wp_skip ?_
 refine thn ?_
 refine wp_seq ?_
 refine sqH ?_; intro hQ70Q hQ70
 refine s1 hF69 56 (str u1) ?_; intro a71 hF72; clear hF69
 refine s1 hF72 57 (.int .i64 (u1.length : Int)) ?_; intro a73 hF74; clear hF72
 refine s1 hF74 58 (.bool ((u1.length : Int) == 0)) ?_; intro a75 hF76; clear hF74
 refine s1 hF76 59 (.bool ((u1.length : Int) == 0)) ?_; intro a77 hF78; clear hF76
 have hF79 := hF78.atom (((u1.length : Int) == 0) == false) (by kernel_rfl); clear hF78
 refine gp hF79 60 0 [] ((u1.length : Int) == 0) (.int .i64 2) rfl rfl ?_; intro a80 hF81; clear hF79
 refine gp hF81 61 0 [] ((u1.length : Int) == 0) (.bool false) rfl rfl ?_; intro a82 hF83; clear hF81
 refine st hF83 (.bool (((u1.length : Int) == 0) || false)) (nog rfl _) rfl (by kernel_rfl) (pk_or hF83 (g := []) (m := 0) (b := (u1.length : Int) == 0) (v := false) rfl (by kernel_rfl) (by kernel_rfl) (by kernel_rfl) rfl) ?_; intro a84 hF85; clear hF83
 refine s1 hF85 63 (.bool (((u1.length : Int) == 0) || false)) ?_; intro a86 hF87; clear hF85
 have hF88 := hF87.atom ((((u1.length : Int) == 0) || false) == false) (by kernel_rfl); clear hF87
 refine gp hF88 64 1 [] (((u1.length : Int) == 0) || false) (.int .i64 2) rfl rfl ?_; intro a89 hF90; clear hF88
 refine gp hF90 65 1 [] (((u1.length : Int) == 0) || false) (.bool false) rfl rfl ?_; intro a91 hF92; clear hF90
 refine st hF92 (.bool ((((u1.length : Int) == 0) || false) || false)) (nog rfl _) rfl (by kernel_rfl) (pk_or hF92 (g := []) (m := 1) (b := ((u1.length : Int) == 0) || false) (v := false) rfl (by kernel_rfl) (by kernel_rfl) (by kernel_rfl) rfl) ?_; intro a93 hF94; clear hF92
 refine nlH (hQ70 _ _ ?_); clear hQ70 hQ70Q
 have hc95 := hp62.1; have hp96 := hp62.2; clear hp62
 refine cd hF94 (t := (((u1.length : Int) == 0) || false) || false) (by kernel_rfl) (fun h => Bool.noConfusion (hc95.symm.trans h)) (fun _ => ?_)
 refine wp_skip ?_
 refine thn ?_
 have hF98 : Fr 124 [] [⟨0, [], .pointer (some ⟨b1, 0, none⟩)⟩, ⟨1, [], str u1⟩, ⟨2, [], .int .i64 2⟩, ⟨8, [], .bool false⟩] a93 := hF94.region (by kernel_rfl) (by kernel_rfl); clear hF94
 refine sqH ?_; intro hQ99Q hQ99
 refine s1 hF98 9 (.slice none 0 0) ?_; intro a100 hF101; clear hF98
 refine nlH (hQ99 _ _ ?_); clear hQ99 hQ99Q
 refine wp_seq ?_
 refine sqH ?_; intro hQ102Q hQ102
 refine s1 hF101 10 (.int .i64 0) ?_; intro a103 hF104; clear hF101
 refine nlH (hQ102 _ _ ?_); clear hQ102 hQ102Q
 refine wp_block ?_
 have hF105 : Fr 124 [] [⟨0, [], .pointer (some ⟨b1, 0, none⟩)⟩, ⟨1, [], str u1⟩, ⟨2, [], .int .i64 2⟩, ⟨8, [], .bool false⟩, ⟨9, [], .slice none 0 0⟩, ⟨10, [], .int .i64 0⟩] a103 := hF104.region (by kernel_rfl) (by kernel_rfl); clear hF104
 have hF107 : Fr 124 [] [⟨0, [], .pointer (some ⟨b1, 0, none⟩)⟩, ⟨1, [], str u1⟩, ⟨2, [], .int .i64 2⟩, ⟨8, [], .bool false⟩, ⟨9, [], .slice none 0 0⟩, ⟨10, [], .int .i64 0⟩] a103 := hF105.region (by kernel_rfl) (by kernel_rfl); clear hF105
 obtain ⟨inv106, mu106, hI110, hr109⟩ := hp96
 have hle111 := hle0
 refine lp (ι := (List Int) × Int × (Option Addr) × Nat × Fz) (fun (s : (List Int) × Int × (Option Addr) × Nat × Fz) => [⟨0, [], .pointer (some ⟨b1, 0, none⟩)⟩, ⟨1, [], str u1⟩, ⟨2, [], .int .i64 2⟩, ⟨8, [], .bool false⟩, ⟨9, [], .slice s.2.2.1 s.1.length s.2.2.2.1⟩, ⟨10, [], .int .i64 s.2.1⟩]) (fun (s : (List Int) × Int × (Option Addr) × Nat × Fz) => ((.row b1 [.bool u0.neg, .slice ao2 u0.abs.length cap3] 71) :: Rr)) (fun (s : (List Int) × Int × (Option Addr) × Nat × Fz) => s.2.2.2.2) (fun (s : (List Int) × Int × (Option Addr) × Nat × Fz) => inv106 s.1 s.2.1 ∧ SlR (tyInt .u32) s.2.2.2.2 s.2.2.1 s.2.2.2.1 s.1 ∧ Fz.le Z s.2.2.2.2) (fun (s : (List Int) × Int × (Option Addr) × Nat × Fz) => mu106 s.1 s.2.1) ⟨([] : List Int), 0, none, 0, Z⟩ ⟨hI110, (SlR.nil _ _), Fz.le.refl _⟩ (by exact hF107.region (by kernel_rfl) (by kernel_rfl)) (by exact hM0) ?_
 rintro ⟨x9, x10, aox9, capx9, ZL106⟩ ⟨hI108, hsx9, hleL106⟩ a112 wd113 hF114 hM115
 have hF116 : Fr 124 [] [⟨0, [], .pointer (some ⟨b1, 0, none⟩)⟩, ⟨1, [], str u1⟩, ⟨2, [], .int .i64 2⟩, ⟨8, [], .bool false⟩, ⟨9, [], .slice aox9 x9.length capx9⟩, ⟨10, [], .int .i64 x10⟩] a112 := hF114; clear hF114 hF107
 have hM117 : Mem B [] w0 Z0 ((.row b1 [.bool u0.neg, .slice ao2 u0.abs.length cap3] 71) :: Rr) ZL106 wd113 := hM115; clear hM115 hM0
 have hp118 := hr109 x9 x10 hI108
 replace hle0 := Fz.le.trans hle0 hleL106
 have hs119 := hs4.mono hleL106
 refine wp_seq ?_
 refine sqH ?_; intro hQ120Q hQ120
 refine s1 hF116 67 (.int .i64 x10) ?_; intro a121 hF122; clear hF116
 refine s1 hF122 68 (str u1) ?_; intro a123 hF124; clear hF122
 refine s1 hF124 69 (.int .i64 (u1.length : Int)) ?_; intro a125 hF126; clear hF124
 refine s1 hF126 70 (.bool (decide (x10 < (u1.length : Int)))) ?_; intro a127 hF128; clear hF126
 refine nlH (hQ120 _ _ ?_); clear hQ120 hQ120Q
 refine cd hF128 (t := decide (x10 < (u1.length : Int))) (by kernel_rfl) (fun hb129 => ?_) (fun hb129 => ?_)
 · -- yes
  have hp130 := hp118.1 hb129; clear hp118
  refine wp_skip ?_
  refine thn ?_
  refine wp_seq ?_
  refine wp_block ?_
  refine sqH ?_; intro hQ131Q hQ131
  refine s1 hF128 11 (.int .i64 99) ?_; intro a132 hF133; clear hF128
  refine nlH (hQ131 _ _ ?_); clear hQ131 hQ131Q
  refine wp_seq ?_
  refine sqH ?_; intro hQ134Q hQ134
  refine s1 hF133 73 (str u1) ?_; intro a135 hF136; clear hF133
  refine s1 hF136 74 (.int .i64 x10) ?_; intro a137 hF138; clear hF136
  have hc139 := hp130.1; have hp140 := hp130.2; clear hp130
  obtain ⟨c141, hq142⟩ : ∃ q, u1[x10.toNat]? = some q := ⟨_, List.getElem?_eq_getElem (by omega)⟩; have hp143 := hp140 c141 hq142
  refine st hF138 (.int .u8 (c141.toNat : Int)) (nog rfl _) rfl (by kernel_rfl) (stridx_run hF138 (k := .i64) rfl (by kernel_rfl) (by kernel_rfl) (by kernel_rfl) hc139.1 hq142) ?_; intro a144 hF145; clear hF138
  refine s1 hF145 12 (.int .u8 (c141.toNat : Int)) ?_; intro a146 hF147; clear hF145
  refine nlH (hQ134 _ _ ?_); clear hQ134 hQ134Q
  refine wp_block ?_
  refine sqH ?_; intro hQ148Q hQ148
  refine s1 hF147 77 (.int .u8 (c141.toNat : Int)) ?_; intro a149 hF150; clear hF147
  refine s1 hF150 78 (.bool (decide ((c141.toNat : Int) ≥ 48))) ?_; intro a151 hF152; clear hF150
  refine s1 hF152 79 (.bool (decide ((c141.toNat : Int) ≥ 48))) ?_; intro a153 hF154; clear hF152
  have hF155 := hF154.atom ((decide ((c141.toNat : Int) ≥ 48)) == true) (by kernel_rfl); clear hF154
  refine gp hF155 80 0 [] (decide ((c141.toNat : Int) ≥ 48)) (.int .u8 (c141.toNat : Int)) rfl rfl ?_; intro a156 hF157; clear hF155
  refine gp hF157 81 0 [] (decide ((c141.toNat : Int) ≥ 48)) (.bool (decide ((c141.toNat : Int) ≤ 57))) rfl rfl ?_; intro a158 hF159; clear hF157
  refine st hF159 (.bool ((decide ((c141.toNat : Int) ≥ 48)) && (decide ((c141.toNat : Int) ≤ 57)))) (nog rfl _) rfl (by kernel_rfl) (pk_and hF159 (g := []) (m := 0) (b := decide ((c141.toNat : Int) ≥ 48)) (v := decide ((c141.toNat : Int) ≤ 57)) rfl (by kernel_rfl) (by kernel_rfl) (by kernel_rfl) rfl) ?_; intro a160 hF161; clear hF159
  refine s1 hF161 76 (.bool ((decide ((c141.toNat : Int) ≥ 48)) && (decide ((c141.toNat : Int) ≤ 57)))) ?_; intro a162 hF163; clear hF161
  refine nlH (hQ148 _ _ ?_); clear hQ148 hQ148Q
  have hc164 := hp143.1; have hp165 := hp143.2; clear hp143
  refine cd hF163 (t := (decide ((c141.toNat : Int) ≥ 48)) && (decide ((c141.toNat : Int) ≤ 57))) (by kernel_rfl) (fun _ => ?_) (fun h => Bool.noConfusion (hc164.symm.trans h))
  have hF167 : Fr 124 [] [⟨0, [], .pointer (some ⟨b1, 0, none⟩)⟩, ⟨1, [], str u1⟩, ⟨2, [], .int .i64 2⟩, ⟨8, [], .bool false⟩, ⟨9, [], .slice aox9 x9.length capx9⟩, ⟨10, [], .int .i64 x10⟩, ⟨12, [], .int .u8 (c141.toNat : Int)⟩] a162 := hF163.region (by kernel_rfl) (by kernel_rfl); clear hF163
  refine rgH ?_; intro hQ168Q hQ168
  refine s1 hF167 83 (.int .u8 (c141.toNat : Int)) ?_; intro a169 hF170; clear hF167
  refine s1 hF170 84 (.int .u8 (w8 ((c141.toNat : Int) - 48))) ?_; intro a171 hF172; clear hF170
  refine s1 hF172 85 (.int .i64 (w64 (w8 ((c141.toNat : Int) - 48)))) ?_; intro a173 hF174; clear hF172
  refine s1 hF174 11 (.int .i64 (w64 (w8 ((c141.toNat : Int) - 48)))) ?_; intro a175 hF176; clear hF174
  refine nlH (hQ168 _ _ ?_); clear hQ168 hQ168Q
  refine ibn ?_
  refine thn ?_
  refine wp_seq ?_
  refine sqH ?_; intro hQ177Q hQ177
  refine s1 hF176 108 (.int .i64 (w64 (w8 ((c141.toNat : Int) - 48)))) ?_; intro a178 hF179; clear hF176
  refine s1 hF179 109 (.int .i64 2) ?_; intro a180 hF181; clear hF179
  refine s1 hF181 110 (.bool (decide ((w64 (w8 ((c141.toNat : Int) - 48))) ≥ 2))) ?_; intro a182 hF183; clear hF181
  refine nlH (hQ177 _ _ ?_); clear hQ177 hQ177Q
  have hc184 := hp165.1; have hp185 := hp165.2; clear hp165
  refine cd hF183 (t := decide ((w64 (w8 ((c141.toNat : Int) - 48))) ≥ 2)) (by kernel_rfl) (fun h => Bool.noConfusion (hc184.symm.trans h)) (fun _ => ?_)
  refine wp_skip ?_
  refine thn ?_
  refine rgH ?_; intro hQ187Q hQ187
  refine s1 hF183 111 (.slice aox9 x9.length capx9) ?_; intro a188 hF189; clear hF183
  refine s1 hF189 112 (.int .i64 2) ?_; intro a190 hF191; clear hF189
  refine s1 hF191 113 (.int .u64 2) ?_; intro a192 hF193; clear hF191
  have hc194 := hp185.1; have hp195 := hp185.2; clear hp185
  refine cl hF193 72 #[.int .u64 2] (nog rfl _) rfl (by kernel_rfl) (by kernel_rfl) ?_
  refine (gwords_fun 2 hc194 _ _ hM117.fz).mono ?_; rintro _ wd196 ⟨ao200, cap201, Z203, rfl, hs202, hm⟩; refine ⟨_, rfl, ?_⟩; intro a197 hF198; have hM199 := hM117.callZ hm; have hle204 := hm.ext.le; clear hm hM117 hF193
  replace hs119 := hs119.mono hle204
  replace hsx9 := hsx9.mono hle204
  replace hleL106 := hleL106.mono hle204
  replace hle0 := Fz.le.trans hle0 hle204
  have hM205 : Mem B [] w0 Z0 ((.row b1 [.bool u0.neg, .slice ao2 u0.abs.length cap3] 71) :: Rr) Z203 wd196 := hM199; clear hM199
  have hp206 := hp195 (hs202.small); clear hp195
  have hc207 := hp206.1; have hp208 := hp206.2; clear hp206
  refine cl hF198 71 #[.slice aox9 x9.length capx9, .slice ao200 (gwordsS 2).length cap201] (nog rfl _) rfl (by kernel_rfl) (by kernel_rfl) ?_
  refine (gmul_fun x9 (gwordsS 2) hc207 aox9 capx9 ao200 cap201 _ _ hsx9 hs202 hM205.fz).mono ?_; rintro _ wd209 ⟨ao213, cap214, Z216, rfl, hs215, hm⟩; refine ⟨_, rfl, ?_⟩; intro a210 hF211; have hM212 := hM205.callZ hm; have hle217 := hm.ext.le; clear hm hM205 hF198
  replace hs119 := hs119.mono hle217
  replace hsx9 := hsx9.mono hle217
  replace hleL106 := hleL106.mono hle217
  replace hs202 := hs202.mono hle217
  replace hle0 := Fz.le.trans hle0 hle217
  have hM218 : Mem B [] w0 Z0 ((.row b1 [.bool u0.neg, .slice ao2 u0.abs.length cap3] 71) :: Rr) Z216 wd209 := hM212; clear hM212
  have hp219 := hp208 (hs215.small); clear hp208
  refine s1 hF211 116 (.int .i64 (w64 (w8 ((c141.toNat : Int) - 48)))) ?_; intro a220 hF221; clear hF211
  refine s1 hF221 117 (.int .u64 (wu64 (w64 (w8 ((c141.toNat : Int) - 48))))) ?_; intro a222 hF223; clear hF221
  have hc224 := hp219.1; have hp225 := hp219.2; clear hp219
  refine cl hF223 72 #[.int .u64 (wu64 (w64 (w8 ((c141.toNat : Int) - 48))))] (nog rfl _) rfl (by kernel_rfl) (by kernel_rfl) ?_
  refine (gwords_fun (wu64 (w64 (w8 ((c141.toNat : Int) - 48)))) hc224 _ _ hM218.fz).mono ?_; rintro _ wd226 ⟨ao230, cap231, Z233, rfl, hs232, hm⟩; refine ⟨_, rfl, ?_⟩; intro a227 hF228; have hM229 := hM218.callZ hm; have hle234 := hm.ext.le; clear hm hM218 hF223
  replace hs119 := hs119.mono hle234
  replace hsx9 := hsx9.mono hle234
  replace hleL106 := hleL106.mono hle234
  replace hs202 := hs202.mono hle234
  replace hs215 := hs215.mono hle234
  replace hle0 := Fz.le.trans hle0 hle234
  have hM235 : Mem B [] w0 Z0 ((.row b1 [.bool u0.neg, .slice ao2 u0.abs.length cap3] 71) :: Rr) Z233 wd226 := hM229; clear hM229
  have hp236 := hp225 (hs232.small); clear hp225
  have hc237 := hp236.1; have hp238 := hp236.2; clear hp236
  refine cl hF228 70 #[.slice ao213 (gmulS x9 (gwordsS 2)).length cap214, .slice ao230 (gwordsS (wu64 (w64 (w8 ((c141.toNat : Int) - 48))))).length cap231] (nog rfl _) rfl (by kernel_rfl) (by kernel_rfl) ?_
  refine (gadd_fun (gmulS x9 (gwordsS 2)) (gwordsS (wu64 (w64 (w8 ((c141.toNat : Int) - 48))))) hc237 ao213 cap214 ao230 cap231 _ _ hs215 hs232 hM235.fz).mono ?_; rintro _ wd239 ⟨ao243, cap244, Z246, rfl, hs245, hm⟩; refine ⟨_, rfl, ?_⟩; intro a240 hF241; have hM242 := hM235.callZ hm; have hle247 := hm.ext.le; clear hm hM235 hF228
  replace hs119 := hs119.mono hle247
  replace hsx9 := hsx9.mono hle247
  replace hleL106 := hleL106.mono hle247
  replace hs202 := hs202.mono hle247
  replace hs215 := hs215.mono hle247
  replace hs232 := hs232.mono hle247
  replace hle0 := Fz.le.trans hle0 hle247
  have hM248 : Mem B [] w0 Z0 ((.row b1 [.bool u0.neg, .slice ao2 u0.abs.length cap3] 71) :: Rr) Z246 wd239 := hM242; clear hM242
  have hp249 := hp238 (hs245.small); clear hp238
  refine s1 hF241 9 (.slice ao243 (gaddS (gmulS x9 (gwordsS 2)) (gwordsS (wu64 (w64 (w8 ((c141.toNat : Int) - 48)))))).length cap244) ?_; intro a250 hF251; clear hF241
  refine nlH (hQ187 _ _ ?_); clear hQ187 hQ187Q
  refine ibn ?_
  refine thn ?_
  have hF252 : Fr 124 [] [⟨0, [], .pointer (some ⟨b1, 0, none⟩)⟩, ⟨1, [], str u1⟩, ⟨2, [], .int .i64 2⟩, ⟨8, [], .bool false⟩, ⟨9, [], .slice ao243 (gaddS (gmulS x9 (gwordsS 2)) (gwordsS (wu64 (w64 (w8 ((c141.toNat : Int) - 48)))))).length cap244⟩, ⟨10, [], .int .i64 x10⟩] a250 := hF251.region (by kernel_rfl) (by kernel_rfl); clear hF251
  refine rgH ?_; intro hQ253Q hQ253
  refine s1 hF252 71 (.int .i64 x10) ?_; intro a254 hF255; clear hF252
  refine s1 hF255 72 (.int .i64 (w64 (x10 + 1))) ?_; intro a256 hF257; clear hF255
  refine s1 hF257 10 (.int .i64 (w64 (x10 + 1))) ?_; intro a258 hF259; clear hF257
  refine nlH (hQ253 _ _ ?_); clear hQ253 hQ253Q
  refine rd ?_
  exact ⟨⟨(gaddS (gmulS x9 (gwordsS 2)) (gwordsS (wu64 (w64 (w8 ((c141.toNat : Int) - 48)))))), w64 (x10 + 1), ao243, cap244, Z246⟩, ⟨hp249.1, hs245, hleL106⟩, hp249.2, (hF259.region (by kernel_rfl) (by kernel_rfl)).anyβ _ (by kernel_rfl), hM248.keep (List.Sublist.cons_cons _ (List.Sublist.refl _))⟩
 · -- no
  have hp260 := hp118.2 hb129; clear hp118
  refine wp_exit ?_
  refine thx ?_
  refine thx ?_
  refine ibx ?_
  refine thn ?_
  refine sqH ?_; intro hQ261Q hQ261
  refine s1 hF128 120 (.pointer (some ⟨b1, 0, none⟩)) ?_; intro a262 hF263; clear hF128
  refine s1 hF263 121 (.bool false) ?_; intro a264 hF265; clear hF263
  refine s1 hF265 122 (.slice aox9 x9.length capx9) ?_; intro a266 hF267; clear hF265
  refine cl hF267 73 #[.pointer (some ⟨b1, 0, none⟩), .bool false, .slice aox9 x9.length capx9] (nog rfl _) rfl (by kernel_rfl) (by kernel_rfl) ?_
  obtain ⟨r272, hr273⟩ : ∃ x, (ggive u0 false x9) = x := ⟨_, rfl⟩; have hp274 := hp260 r272 hr273; clear hp260
  have h9 := ggive_fun u0 false x9 b1 ao2 cap3 aox9 capx9 _ _ _ _ _ _ hs119 hsx9 hM117 hM117.fz; rw [hr273] at h9; refine h9.mono ?_; clear h9; rintro _ wd268 ⟨ao276, cap277, Z279, rfl, hle280, hs278, hm⟩; refine ⟨_, rfl, ?_⟩; intro a269 hF270; have hM271 := hm; clear hm hM117 hF267
  replace hs119 := hs119.mono hle280
  replace hsx9 := hsx9.mono hle280
  replace hleL106 := hleL106.mono hle280
  replace hle0 := Fz.le.trans hle0 hle280
  have hM281 : Mem B [] w0 Z0 ((.row b1 [.bool r272.neg, .slice ao276 r272.abs.length cap277] 71) :: Rr) Z279 wd268 := hM271; clear hM271
  have hp282 := hp274 (hs278.small); clear hp274
  refine s1 hF270 6 (.pointer (some ⟨b1, 0, none⟩)) ?_; intro a283 hF284; clear hF270
  refine s1 hF284 7 (.bool true) ?_; intro a285 hF286; clear hF284
  refine nlH (hQ261 _ _ ?_); clear hQ261 hQ261Q
  refine wp_ret ?_
  refine rt (fn := Tryd.f44) (v := .tuple #[.pointer (some ⟨b1, 0, none⟩), .bool true]) hF286 (re2 hF286 (fn := Tryd.f44) rfl (by kernel_rfl) (by kernel_rfl)) ?_
  exact ⟨(true, true, r272), ao276, cap277, Z279, rfl, hp282, hle0, hs278, hM281.keep (List.Sublist.cons_cons _ (List.Sublist.refl _))⟩

end Go.Proofs.YtfafpnacflcgmaaDoor
