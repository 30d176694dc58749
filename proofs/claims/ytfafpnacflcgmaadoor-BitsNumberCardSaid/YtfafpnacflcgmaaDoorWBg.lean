/- The walks, made by program: each call does what its pure predicate says. -/
import Derived.Test.YtfafpnacflcgmaaDoorPBg
import Derived.Test.YtfafpnacflcgmaaDoorWBf
set_option linter.unusedVariables false
set_option linter.unusedSimpArgs false
namespace Go.Proofs.YtfafpnacflcgmaaDoor
open Go.Sy Go.RowKit
theorem tz64_fun (u0 : Int) (hpre : u0 = 2)  (Z : Fz) (w : World) (hg5 : SlR (tyInt .u8) Z (some ⟨5, 0, none⟩) 64 deBruijn64) (hZ : Z.on w) : Calls Tryd.prog 111 #[.int .u64 u0] w fun e w' => e = .returned (.int .i64 (tz64S u0)) ∧ Below w.heap.size w w' :=
  (tz64_walk u0  Z w hg5 hZ (tz64_ok u0 hpre)).mono fun _ _ ⟨r, he, hk, hb⟩ => ⟨by subst hk; exact he, hb⟩

set_option maxRecDepth 100000 in
set_option maxHeartbeats 0 in
theorem tz_walk (u0 : Int)  (Z : Fz) (w : World) (hg5 : SlR (tyInt .u8) Z (some ⟨5, 0, none⟩) 64 deBruijn64) (hZ : Z.on w) {K : Int → Prop} (hp : tz_vc u0 K) : Calls Tryd.prog 105 #[.int .u64 u0] w fun e w' => ∃ r : Int, e = .returned (.int .i64 r) ∧ K r ∧ Below w.heap.size w w' := by
 refine enter0 Tryd.func105 rfl rfl (by kernel_rfl) ?_; intro a0 hF0; have hM0 := Mem.start w Z hZ; have hle0 := Fz.le.refl Z
 refine sqH ?_; intro hQ1Q hQ1
 refine s1 hF0 2 (.int .i64 0) ?_; intro a2 hF3; clear hF0
 refine nlH (hQ1 _ _ ?_); clear hQ1 hQ1Q
 refine wp_seq ?_
 refine cdF hF3 (by kernel_rfl) ?_
 refine wp_skip ?_
 refine thn ?_
 refine sqH ?_; intro hQ4Q hQ4
 refine s1 hF3 6 (.int .u64 u0) ?_; intro a5 hF6; clear hF3
 have hc7 := hp.1; have hp8 := hp.2; clear hp
 refine fcl hF6 hM0 (.int .i64 (tz64S u0)) 111 #[.int .u64 u0] (nog rfl _) rfl (by kernel_rfl) (fun _ => by kernel_rfl) (tz64_fun u0 hc7 _ _ hg5 hM0.fz) ?_; intro a9 wd11 hF10 hM12; clear hF6 hM0
 refine s1 hF10 2 (.int .i64 (tz64S u0)) ?_; intro a13 hF14; clear hF10
 refine nlH (hQ4 _ _ ?_); clear hQ4 hQ4Q
 refine wp_ret ?_
 refine rt (fn := Tryd.f105) (v := .int .i64 (tz64S u0)) hF14 (re1 hF14 (fn := Tryd.f105) rfl (by kernel_rfl)) ?_
 exact ⟨(tz64S u0), rfl, hp8, hM12.below⟩

set_option maxRecDepth 100000 in
set_option maxHeartbeats 0 in
theorem fbits_walk (u1 : Int) (u3 : Bool)  (Z : Fz) (w : World) (hg5 : SlR (tyInt .u8) Z (some ⟨5, 0, none⟩) 64 deBruijn64) (hZ : Z.on w) {K : ((List Int) × (List UInt8)) → Prop} (hp : fbits_vc u1 u3 K) : Calls Tryd.prog 90 #[.slice none 0 0, .int .u64 u1, .int .i64 2, .bool u3, .bool false] w fun e w' => ∃ (r : (List Int) × (List UInt8)) (ao1001 : Option Addr) (cap1002 : Nat) (Z' : Fz), e = .returned (.tuple #[.slice ao1001 r.1.length cap1002, str r.2]) ∧ K r ∧ Mem w.heap.size [] w Z [.own (tyInt .u8) 5 ao1001 cap1002 r.1] Z' w' := by
 refine enter0 Tryd.func90 rfl rfl (by kernel_rfl) ?_; intro a0 hF0; have hM0 := Mem.start w Z hZ; have hle0 := Fz.le.refl Z
 refine sqH ?_; intro hQ1Q hQ1
 refine s1 hF0 10 (.slice none 0 0) ?_; intro a2 hF3; clear hF0
 refine s1 hF3 11 (str []) ?_; intro a4 hF5; clear hF3
 refine nlH (hQ1 _ _ ?_); clear hQ1 hQ1Q
 refine wp_seq ?_
 refine sqH ?_; intro hQ6Q hQ6
 refine s1 hF5 19 (.int .i64 2) ?_; intro a7 hF8; clear hF5
 refine s1 hF8 20 (.bool false) ?_; intro a9 hF10; clear hF8
 refine s1 hF10 21 (.bool false) ?_; intro a11 hF12; clear hF10
 refine st hF12 (.int .i64 2) (by rw [wanted_of hF12 (b := false) rfl rfl (by kernel_rfl) (by kernel_rfl)]; rfl) rfl (by kernel_rfl) (p0 hF12 (by kernel_rfl)) ?_; intro a13 hF14; clear hF12
 refine st hF14 (.bool false) (by rw [wanted_of hF14 (b := false) rfl rfl (by kernel_rfl) (by kernel_rfl)]; rfl) rfl (by kernel_rfl) (p0 hF14 (by kernel_rfl)) ?_; intro a15 hF16; clear hF14
 refine s1 hF16 24 (.bool false) ?_; intro a17 hF18; clear hF16
 refine s1 hF18 25 (.bool false) ?_; intro a19 hF20; clear hF18
 refine st hF20 (.int .i64 2) (by rw [wanted_of hF20 (b := false) rfl rfl (by kernel_rfl) (by kernel_rfl)]; rfl) rfl (by kernel_rfl) (p0 hF20 (by kernel_rfl)) ?_; intro a21 hF22; clear hF20
 refine st hF22 (.bool false) (by rw [wanted_of hF22 (b := false) rfl rfl (by kernel_rfl) (by kernel_rfl)]; rfl) rfl (by kernel_rfl) (p0 hF22 (by kernel_rfl)) ?_; intro a23 hF24; clear hF22
 refine s1 hF24 28 (.bool false) ?_; intro a25 hF26; clear hF24
 refine nlH (hQ6 _ _ ?_); clear hQ6 hQ6Q
 refine cdF hF26 (by kernel_rfl) ?_
 refine wp_skip ?_
 refine thn ?_
 refine sqH ?_; intro hQ27Q hQ27
 refine alA (T := (tyInt .u8)) hF26 hM0 65 (.int .u8 0) 0 135 (nog rfl _) rfl (by kernel_rfl) (by kernel_rfl) rfl (by decide) rfl ?_; intro b28 a29 wd31 hF30 hM32; clear hF26 hM0
 have hM33 : Mem w.heap.size [] w Z [.own (tyInt .u8) 135 (some ⟨b28, 0, none⟩) 65 (List.replicate 65 (0 : Int))] Z wd31 := hM32; clear hM32
 refine nlH (hQ27 _ _ ?_); clear hQ27 hQ27Q
 refine sqH ?_; intro hQ34Q hQ34
 refine s1 hF30 13 (.int .i64 65) ?_; intro a35 hF36; clear hF30
 refine nlH (hQ34 _ _ ?_); clear hQ34 hQ34Q
 refine wp_seq ?_
 have hF37 : Fr 102 [] [⟨0, [], .slice none 0 0⟩, ⟨1, [], .int .u64 u1⟩, ⟨2, [], .int .i64 2⟩, ⟨3, [], .bool u3⟩, ⟨4, [], .bool false⟩, ⟨10, [], .slice none 0 0⟩, ⟨11, [], str []⟩, ⟨12, [], .pointer (some ⟨b28, 0, none⟩)⟩, ⟨13, [], .int .i64 65⟩] a35 := hF36.reg; clear hF36
 refine sqH ?_; intro hQ38Q hQ38
 refine s1 hF37 30 (.bool u3) ?_; intro a39 hF40; clear hF37
 refine nlH (hQ38 _ _ ?_); clear hQ38 hQ38Q
 refine cd hF40 (t := u3) (by kernel_rfl) (fun hb41 => ?_) (fun hb41 => ?_)
 ·
  have hp42 := hp.1 hb41; clear hp
  refine rgH ?_; intro hQ43Q hQ43
  refine s1 hF40 31 (.int .u64 u1) ?_; intro a44 hF45; clear hF40
  refine s1 hF45 32 (.int .u64 (wu64 (0 - u1))) ?_; intro a46 hF47; clear hF45
  refine s1 hF47 1 (.int .u64 (wu64 (0 - u1))) ?_; intro a48 hF49; clear hF47
  refine nlH (hQ43 _ _ ?_); clear hQ43 hQ43Q
  refine thn ?_
  refine wp_seq ?_
  refine sqH ?_; intro hQ50Q hQ50
  refine s1 hF49 33 (.int .i64 2) ?_; intro a51 hF52; clear hF49
  refine fcl hF52 hM33 (.bool (isp2 2)) 104 #[.int .i64 2] (nog rfl _) rfl (by kernel_rfl) (fun _ => by kernel_rfl) (isp2_fun 2 _ _ hM33.fz) ?_; intro a53 wd55 hF54 hM56; clear hF52 hM33
  refine nlH (hQ50 _ _ ?_); clear hQ50 hQ50Q
  refine cd hF54 (t := (isp2 2)) (by kernel_rfl) (fun hb57 => ?_) (fun hb57 => ?_)
  ·
   have hp58 := hp42.1 hb57; clear hp42
   refine sqH ?_; intro hQ59Q hQ59
   refine s1 hF54 35 (.int .i64 2) ?_; intro a60 hF61; clear hF54
   refine s1 hF61 36 (.int .u64 2) ?_; intro a62 hF63; clear hF61
   refine cl hF63 105 #[.int .u64 2] (nog rfl _) rfl (by kernel_rfl) (by kernel_rfl) ?_
   refine (tz_walk 2 _ _ hg5 hM56.fz hp58).mono ?_; rintro _ wd65 ⟨r64, rfl, hp69, hb⟩; refine ⟨_, rfl, ?_⟩; intro a66 hF67; have hM68 := hM56.call hb; clear hb hM56 hF63
   refine s1 hF67 38 (.int .u64 (wu64 r64)) ?_; intro a70 hF71; clear hF67
   refine s1 hF71 14 (.int .u64 (wu64 r64)) ?_; intro a72 hF73; clear hF71
   refine nlH (hQ59 _ _ ?_); clear hQ59 hQ59Q
   refine sqH ?_; intro hQ74Q hQ74
   refine s1 hF73 39 (.int .i64 2) ?_; intro a75 hF76; clear hF73
   refine s1 hF76 40 (.int .u64 2) ?_; intro a77 hF78; clear hF76
   refine s1 hF78 15 (.int .u64 2) ?_; intro a79 hF80; clear hF78
   refine nlH (hQ74 _ _ ?_); clear hQ74 hQ74Q
   have hF81 : Fr 102 [] [⟨0, [], .slice none 0 0⟩, ⟨1, [], .int .u64 (wu64 (0 - u1))⟩, ⟨2, [], .int .i64 2⟩, ⟨3, [], .bool u3⟩, ⟨4, [], .bool false⟩, ⟨10, [], .slice none 0 0⟩, ⟨11, [], str []⟩, ⟨12, [], .pointer (some ⟨b28, 0, none⟩)⟩, ⟨13, [], .int .i64 65⟩, ⟨14, [], .int .u64 (wu64 r64)⟩, ⟨15, [], .int .u64 2⟩] a79 := hF80.reg; clear hF80
   refine sqH ?_; intro hQ82Q hQ82
   refine s1 hF81 41 (.int .i64 2) ?_; intro a83 hF84; clear hF81
   refine s1 hF84 42 (.int .u64 2) ?_; intro a85 hF86; clear hF84
   refine s1 hF86 43 (.int .u64 (wu64 (2 - 1))) ?_; intro a87 hF88; clear hF86
   refine s1 hF88 16 (.int .u64 (wu64 (2 - 1))) ?_; intro a89 hF90; clear hF88
   refine nlH (hQ82 _ _ ?_); clear hQ82 hQ82Q
   refine wp_seq ?_
   refine wp_block ?_
   have hF91 : Fr 102 [] [⟨0, [], .slice none 0 0⟩, ⟨1, [], .int .u64 (wu64 (0 - u1))⟩, ⟨3, [], .bool u3⟩, ⟨4, [], .bool false⟩, ⟨10, [], .slice none 0 0⟩, ⟨11, [], str []⟩, ⟨12, [], .pointer (some ⟨b28, 0, none⟩)⟩, ⟨13, [], .int .i64 65⟩, ⟨14, [], .int .u64 (wu64 r64)⟩, ⟨15, [], .int .u64 2⟩, ⟨16, [], .int .u64 (wu64 (2 - 1))⟩] a89 := hF90.reg; clear hF90
   have hF93 : Fr 102 [] [⟨0, [], .slice none 0 0⟩, ⟨1, [], .int .u64 (wu64 (0 - u1))⟩, ⟨3, [], .bool u3⟩, ⟨4, [], .bool false⟩, ⟨10, [], .slice none 0 0⟩, ⟨11, [], str []⟩, ⟨12, [], .pointer (some ⟨b28, 0, none⟩)⟩, ⟨13, [], .int .i64 65⟩, ⟨14, [], .int .u64 (wu64 r64)⟩, ⟨15, [], .int .u64 2⟩, ⟨16, [], .int .u64 (wu64 (2 - 1))⟩] a89 := hF91.reg; clear hF91
   obtain ⟨inv92, mu92, hI96, hr95⟩ := hp69
   refine lp (ι := Int × Int × (List Int)) (fun (s : Int × Int × (List Int)) => [⟨0, [], .slice none 0 0⟩, ⟨1, [], .int .u64 s.1⟩, ⟨3, [], .bool u3⟩, ⟨4, [], .bool false⟩, ⟨10, [], .slice none 0 0⟩, ⟨11, [], str []⟩, ⟨12, [], .pointer (some ⟨b28, 0, none⟩)⟩, ⟨13, [], .int .i64 s.2.1⟩, ⟨14, [], .int .u64 (wu64 r64)⟩, ⟨15, [], .int .u64 2⟩, ⟨16, [], .int .u64 (wu64 (2 - 1))⟩]) (fun (s : Int × Int × (List Int)) => [.own (tyInt .u8) 135 (some ⟨b28, 0, none⟩) 65 s.2.2]) (fun (s : Int × Int × (List Int)) => Z) (fun (s : Int × Int × (List Int)) => inv92 s.1 s.2.1 s.2.2) (fun (s : Int × Int × (List Int)) => mu92 s.1 s.2.1 s.2.2) ⟨wu64 (0 - u1), 65, (List.replicate 65 (0 : Int))⟩ hI96 (by exact hF93.reg) (by exact hM68) ?_
   rintro ⟨x1, x13, zb280⟩ hI94 a98 wd99 hF100 hM101
   have hF102 : Fr 102 [] [⟨0, [], .slice none 0 0⟩, ⟨1, [], .int .u64 x1⟩, ⟨3, [], .bool u3⟩, ⟨4, [], .bool false⟩, ⟨10, [], .slice none 0 0⟩, ⟨11, [], str []⟩, ⟨12, [], .pointer (some ⟨b28, 0, none⟩)⟩, ⟨13, [], .int .i64 x13⟩, ⟨14, [], .int .u64 (wu64 r64)⟩, ⟨15, [], .int .u64 2⟩, ⟨16, [], .int .u64 (wu64 (2 - 1))⟩] a98 := hF100; clear hF100 hF93
   have hM103 : Mem w.heap.size [] w Z [.own (tyInt .u8) 135 (some ⟨b28, 0, none⟩) 65 zb280] Z wd99 := hM101; clear hM101 hM68
   have hp104 := hr95 x1 x13 zb280 hI94
   refine wp_seq ?_
   refine sqH ?_; intro hQ105Q hQ105
   refine s1 hF102 44 (.int .u64 x1) ?_; intro a106 hF107; clear hF102
   refine s1 hF107 45 (.int .u64 2) ?_; intro a108 hF109; clear hF107
   refine s1 hF109 46 (.bool (decide (x1 ≥ 2))) ?_; intro a110 hF111; clear hF109
   refine nlH (hQ105 _ _ ?_); clear hQ105 hQ105Q
   refine cd hF111 (t := decide (x1 ≥ 2)) (by kernel_rfl) (fun hb112 => ?_) (fun hb112 => ?_)
   ·
    have hp113 := hp104.1 hb112; clear hp104
    refine wp_skip ?_
    refine thn ?_
    refine wp_block ?_
    refine sqH ?_; intro hQ114Q hQ114
    refine s1 hF111 47 (.int .i64 x13) ?_; intro a115 hF116; clear hF111
    refine s1 hF116 48 (.int .i64 (w64 (x13 - 1))) ?_; intro a117 hF118; clear hF116
    refine s1 hF118 13 (.int .i64 (w64 (x13 - 1))) ?_; intro a119 hF120; clear hF118
    refine nlH (hQ114 _ _ ?_); clear hQ114 hQ114Q
    refine sqH ?_; intro hQ121Q hQ121
    refine s1 hF120 49 (.int .i64 (w64 (x13 - 1))) ?_; intro a122 hF123; clear hF120
    refine s1 hF123 50 (.int .u64 x1) ?_; intro a124 hF125; clear hF123
    refine s1 hF125 51 (.int .u64 (wu64 (2 - 1))) ?_; intro a126 hF127; clear hF125
    refine s1 hF127 52 (.int .u64 (bAnd .u64 x1 (wu64 (2 - 1)))) ?_; intro a128 hF129; clear hF127
    have hc130 := hp113.1; have hp131 := hp113.2; clear hp113
    obtain ⟨c132, hq133⟩ : ∃ q, ([48, 49, 50, 51, 52, 53, 54, 55, 56, 57, 97, 98, 99, 100, 101, 102, 103, 104, 105, 106, 107, 108, 109, 110, 111, 112, 113, 114, 115, 116, 117, 118, 119, 120, 121, 122] : List UInt8)[(bAnd .u64 x1 (wu64 (2 - 1))).toNat]? = some q := ⟨_, List.getElem?_eq_getElem (by omega)⟩; have hp134 := hp131 c132 hq133
    refine st hF129 (.int .u8 (c132.toNat : Int)) (nog rfl _) rfl (by kernel_rfl) (stridx_run hF129 (k := .u64) rfl (by kernel_rfl) (by kernel_rfl) (by kernel_rfl) hc130.1 hq133) ?_; intro a135 hF136; clear hF129
    have hc137 := hp134.1; have hp138 := hp134.2; clear hp134
    refine ixA (g := b28) hF136 (w64 (x13 - 1)) 65 1 hc137.1 (e := 5) (k := .i64) (nog rfl _) rfl (by kernel_rfl) rfl (by kernel_rfl) (by kernel_rfl) (by kernel_rfl) ?_; intro a139 hF140; clear hF136
    refine so hF140 hM103 0 (T := (tyInt .u8)) (xs := zb280) (w64 (x13 - 1)).toNat (c132.toNat : Int) (u := .int .u8 (c132.toNat : Int)) (nog rfl _) rfl rfl (by kernel_rfl) rfl (by kernel_rfl) rfl (by kernel_rfl) (by first | omega | (simp only [List.length_set] at *; omega)) rfl ?_; intro wd141 hM142; clear hM103
    have hF143 : Fr 102 [] [⟨0, [], .slice none 0 0⟩, ⟨1, [], .int .u64 x1⟩, ⟨3, [], .bool u3⟩, ⟨4, [], .bool false⟩, ⟨10, [], .slice none 0 0⟩, ⟨11, [], str []⟩, ⟨12, [], .pointer (some ⟨b28, 0, none⟩)⟩, ⟨13, [], .int .i64 (w64 (x13 - 1))⟩, ⟨14, [], .int .u64 (wu64 r64)⟩, ⟨15, [], .int .u64 2⟩, ⟨16, [], .int .u64 (wu64 (2 - 1))⟩, ⟨44, [], .int .u64 x1⟩, ⟨45, [], .int .u64 2⟩, ⟨46, [], .bool (decide (x1 ≥ 2))⟩, ⟨47, [], .int .i64 x13⟩, ⟨48, [], .int .i64 (w64 (x13 - 1))⟩, ⟨49, [], .int .i64 (w64 (x13 - 1))⟩, ⟨50, [], .int .u64 x1⟩, ⟨51, [], .int .u64 (wu64 (2 - 1))⟩, ⟨52, [], .int .u64 (bAnd .u64 x1 (wu64 (2 - 1)))⟩, ⟨53, [], .int .u8 (c132.toNat : Int)⟩, ⟨54, [], .pointer (some ⟨b28, (w64 (x13 - 1)).toNat * 1, none⟩)⟩] a139 := by (try simp only [List.length_set] at hF140); (try simp only [List.length_set]); exact hF140.reg
    clear hF140
    have hM144 : Mem w.heap.size [] w Z [.own (tyInt .u8) 135 (some ⟨b28, 0, none⟩) 65 (zb280.set (w64 (x13 - 1)).toNat (c132.toNat : Int))] Z wd141 := hM142; clear hM142
    refine nlH (hQ121 _ _ ?_); clear hQ121 hQ121Q
    refine rgH ?_; intro hQ145Q hQ145
    refine s1 hF143 55 (.int .u64 x1) ?_; intro a146 hF147; clear hF143
    refine s1 hF147 56 (.int .u64 (wu64 r64)) ?_; intro a148 hF149; clear hF147
    have hc150 := hp138.1; have hp151 := hp138.2; clear hp138
    refine st hF149 (.int .u64 (bShr .u64 x1 (wu64 r64))) (nog rfl _) rfl (by kernel_rfl) (shr_run hF149 (g := []) (k' := .u64) rfl (by kernel_rfl) (by kernel_rfl) hc150 rfl) ?_; intro a152 hF153; clear hF149
    refine s1 hF153 1 (.int .u64 (bShr .u64 x1 (wu64 r64))) ?_; intro a154 hF155; clear hF153
    refine nlH (hQ145 _ _ ?_); clear hQ145 hQ145Q
    refine ibn ?_
    refine rd ?_
    exact ⟨⟨bShr .u64 x1 (wu64 r64), w64 (x13 - 1), zb280.set (w64 (x13 - 1)).toNat (c132.toNat : Int)⟩, hp151.1, hp151.2, (hF155.reg).anyβ _ (by kernel_rfl), hM144.keep (List.Sublist.cons_cons _ (List.Sublist.slnil))⟩
   ·
    have hp156 := hp104.2 hb112; clear hp104
    refine wp_exit ?_
    refine thx ?_
    refine thx ?_
    refine ibx ?_
    refine thn ?_
    refine sqH ?_; intro hQ157Q hQ157
    refine s1 hF111 58 (.int .i64 x13) ?_; intro a158 hF159; clear hF111
    refine s1 hF159 59 (.int .i64 (w64 (x13 - 1))) ?_; intro a160 hF161; clear hF159
    refine s1 hF161 13 (.int .i64 (w64 (x13 - 1))) ?_; intro a162 hF163; clear hF161
    refine nlH (hQ157 _ _ ?_); clear hQ157 hQ157Q
    refine rgH ?_; intro hQ164Q hQ164
    refine s1 hF163 60 (.int .i64 (w64 (x13 - 1))) ?_; intro a165 hF166; clear hF163
    refine s1 hF166 61 (.int .u64 x1) ?_; intro a167 hF168; clear hF166
    have hc169 := hp156.1; have hp170 := hp156.2; clear hp156
    obtain ⟨c171, hq172⟩ : ∃ q, ([48, 49, 50, 51, 52, 53, 54, 55, 56, 57, 97, 98, 99, 100, 101, 102, 103, 104, 105, 106, 107, 108, 109, 110, 111, 112, 113, 114, 115, 116, 117, 118, 119, 120, 121, 122] : List UInt8)[x1.toNat]? = some q := ⟨_, List.getElem?_eq_getElem (by omega)⟩; have hp173 := hp170 c171 hq172
    refine st hF168 (.int .u8 (c171.toNat : Int)) (nog rfl _) rfl (by kernel_rfl) (stridx_run hF168 (k := .u64) rfl (by kernel_rfl) (by kernel_rfl) (by kernel_rfl) hc169.1 hq172) ?_; intro a174 hF175; clear hF168
    have hc176 := hp173.1; have hp177 := hp173.2; clear hp173
    refine ixA (g := b28) hF175 (w64 (x13 - 1)) 65 1 hc176.1 (e := 5) (k := .i64) (nog rfl _) rfl (by kernel_rfl) rfl (by kernel_rfl) (by kernel_rfl) (by kernel_rfl) ?_; intro a178 hF179; clear hF175
    refine so hF179 hM103 0 (T := (tyInt .u8)) (xs := zb280) (w64 (x13 - 1)).toNat (c171.toNat : Int) (u := .int .u8 (c171.toNat : Int)) (nog rfl _) rfl rfl (by kernel_rfl) rfl (by kernel_rfl) rfl (by kernel_rfl) (by first | omega | (simp only [List.length_set] at *; omega)) rfl ?_; intro wd180 hM181; clear hM103
    have hF182 : Fr 102 [] [⟨0, [], .slice none 0 0⟩, ⟨1, [], .int .u64 x1⟩, ⟨3, [], .bool u3⟩, ⟨4, [], .bool false⟩, ⟨10, [], .slice none 0 0⟩, ⟨11, [], str []⟩, ⟨12, [], .pointer (some ⟨b28, 0, none⟩)⟩, ⟨13, [], .int .i64 (w64 (x13 - 1))⟩, ⟨14, [], .int .u64 (wu64 r64)⟩, ⟨15, [], .int .u64 2⟩, ⟨16, [], .int .u64 (wu64 (2 - 1))⟩, ⟨44, [], .int .u64 x1⟩, ⟨45, [], .int .u64 2⟩, ⟨46, [], .bool (decide (x1 ≥ 2))⟩, ⟨58, [], .int .i64 x13⟩, ⟨59, [], .int .i64 (w64 (x13 - 1))⟩, ⟨60, [], .int .i64 (w64 (x13 - 1))⟩, ⟨61, [], .int .u64 x1⟩, ⟨62, [], .int .u8 (c171.toNat : Int)⟩, ⟨63, [], .pointer (some ⟨b28, (w64 (x13 - 1)).toNat * 1, none⟩)⟩] a178 := by (try simp only [List.length_set] at hF179); (try simp only [List.length_set]); exact hF179.reg
    clear hF179
    have hM183 : Mem w.heap.size [] w Z [.own (tyInt .u8) 135 (some ⟨b28, 0, none⟩) 65 (zb280.set (w64 (x13 - 1)).toNat (c171.toNat : Int))] Z wd180 := hM181; clear hM181
    refine nlH (hQ164 _ _ ?_); clear hQ164 hQ164Q
    refine thn ?_
    refine wp_seq ?_
    refine sqH ?_; intro hQ184Q hQ184
    refine s1 hF182 89 (.bool u3) ?_; intro a185 hF186; clear hF182
    refine nlH (hQ184 _ _ ?_); clear hQ184 hQ184Q
    refine cd hF186 (t := u3) (by kernel_rfl) (fun _ => ?_) (fun h => Bool.noConfusion (hb41.symm.trans h))
    refine sqH ?_; intro hQ188Q hQ188
    refine s1 hF186 90 (.int .i64 (w64 (x13 - 1))) ?_; intro a189 hF190; clear hF186
    refine s1 hF190 91 (.int .i64 (w64 ((w64 (x13 - 1)) - 1))) ?_; intro a191 hF192; clear hF190
    refine s1 hF192 13 (.int .i64 (w64 ((w64 (x13 - 1)) - 1))) ?_; intro a193 hF194; clear hF192
    refine nlH (hQ188 _ _ ?_); clear hQ188 hQ188Q
    have hF195 : Fr 102 [] [⟨0, [], .slice none 0 0⟩, ⟨4, [], .bool false⟩, ⟨10, [], .slice none 0 0⟩, ⟨11, [], str []⟩, ⟨12, [], .pointer (some ⟨b28, 0, none⟩)⟩, ⟨13, [], .int .i64 (w64 ((w64 (x13 - 1)) - 1))⟩] a193 := hF194.reg; clear hF194
    refine rgH ?_; intro hQ196Q hQ196
    refine s1 hF195 92 (.int .i64 (w64 ((w64 (x13 - 1)) - 1))) ?_; intro a197 hF198; clear hF195
    have hc199 := hp177.1; have hp200 := hp177.2; clear hp177
    refine ixA (g := b28) hF198 (w64 ((w64 (x13 - 1)) - 1)) 65 1 hc199.1 (e := 5) (k := .i64) (nog rfl _) rfl (by kernel_rfl) rfl (by kernel_rfl) (by kernel_rfl) (by kernel_rfl) ?_; intro a201 hF202; clear hF198
    refine so hF202 hM183 0 (T := (tyInt .u8)) (xs := zb280.set (w64 (x13 - 1)).toNat (c171.toNat : Int)) (w64 ((w64 (x13 - 1)) - 1)).toNat 45 (u := .int .u8 45) (nog rfl _) rfl rfl (by kernel_rfl) rfl (by kernel_rfl) rfl (by kernel_rfl) (by first | omega | (simp only [List.length_set] at *; omega)) rfl ?_; intro wd203 hM204; clear hM183
    have hF205 : Fr 102 [] [⟨0, [], .slice none 0 0⟩, ⟨4, [], .bool false⟩, ⟨10, [], .slice none 0 0⟩, ⟨11, [], str []⟩, ⟨12, [], .pointer (some ⟨b28, 0, none⟩)⟩, ⟨13, [], .int .i64 (w64 ((w64 (x13 - 1)) - 1))⟩, ⟨92, [], .int .i64 (w64 ((w64 (x13 - 1)) - 1))⟩, ⟨93, [], .pointer (some ⟨b28, (w64 ((w64 (x13 - 1)) - 1)).toNat * 1, none⟩)⟩] a201 := by (try simp only [List.length_set] at hF202); (try simp only [List.length_set]); exact hF202.reg
    clear hF202
    have hM206 : Mem w.heap.size [] w Z [.own (tyInt .u8) 135 (some ⟨b28, 0, none⟩) 65 ((zb280.set (w64 (x13 - 1)).toNat (c171.toNat : Int)).set (w64 ((w64 (x13 - 1)) - 1)).toNat 45)] Z wd203 := hM204; clear hM204
    refine nlH (hQ196 _ _ ?_); clear hQ196 hQ196Q
    refine thn ?_
    refine wp_seq ?_
    refine sqH ?_; intro hQ207Q hQ207
    refine s1 hF205 94 (.bool false) ?_; intro a208 hF209; clear hF205
    refine nlH (hQ207 _ _ ?_); clear hQ207 hQ207Q
    refine cdF hF209 (by kernel_rfl) ?_
    refine wp_skip ?_
    refine thn ?_
    refine sqH ?_; intro hQ210Q hQ210
    refine s1 hF209 99 (.int .i64 (w64 ((w64 (x13 - 1)) - 1))) ?_; intro a211 hF212; clear hF209
    have hc213 := hp200.1; have hp214 := hp200.2; clear hp200
    obtain ⟨Z215, hle216, hM217, hs218⟩ := hM206.freeze 0 rfl
    replace hg5 := hg5.mono hle216
    replace hle0 := Fz.le.trans hle0 hle216
    have hM219 : Mem w.heap.size [] w Z [] Z215 wd203 := hM217; clear hM217
    refine slA hF212 (T := (tyInt .u8)) (xs := (zb280.set (w64 (x13 - 1)).toNat (c171.toNat : Int)).set (w64 ((w64 (x13 - 1)) - 1)).toNat 45) hs218 65 (w64 ((w64 (x13 - 1)) - 1)) hc213.2 hc213.1 (e := 5) (k := .i64) (nog rfl _) rfl (by kernel_rfl) rfl (by kernel_rfl) (by kernel_rfl) (by kernel_rfl) ?_; intro ao220 cap221 a224 hn222 hs223 hF225; clear hF212
    refine st hF225 (str (bstr (((zb280.set (w64 (x13 - 1)).toNat (c171.toNat : Int)).set (w64 ((w64 (x13 - 1)) - 1)).toNat 45).drop (w64 ((w64 (x13 - 1)) - 1)).toNat))) (nog rfl _) rfl (by kernel_rfl) (bstr_op hF225 (g := []) (e := 5) (ao := ao220) (cap := cap221) (xs := (((zb280.set (w64 (x13 - 1)).toNat (c171.toNat : Int)).set (w64 ((w64 (x13 - 1)) - 1)).toNat 45).drop (w64 ((w64 (x13 - 1)) - 1)).toNat)) rfl (by kernel_rfl) (by kernel_rfl) (by kernel_rfl) (by kernel_rfl) hs223 hM219.fz rfl) ?_; intro a226 hF227; clear hF225
    refine s1 hF227 11 (str (bstr (((zb280.set (w64 (x13 - 1)).toNat (c171.toNat : Int)).set (w64 ((w64 (x13 - 1)) - 1)).toNat 45).drop (w64 ((w64 (x13 - 1)) - 1)).toNat))) ?_; intro a228 hF229; clear hF227
    refine nlH (hQ210 _ _ ?_); clear hQ210 hQ210Q
    refine wp_ret ?_
    have hM230 : Mem w.heap.size [] w Z [.own (tyInt .u8) 5 none 0 ([] : List Int)] Z215 wd203 := hM219.addNil (tyInt .u8) 5 (by decide); clear hM219
    refine rt (fn := Tryd.f90) (v := .tuple #[.slice none ([] : List Int).length 0, str (bstr (((zb280.set (w64 (x13 - 1)).toNat (c171.toNat : Int)).set (w64 ((w64 (x13 - 1)) - 1)).toNat 45).drop (w64 ((w64 (x13 - 1)) - 1)).toNat))]) hF229 (re2 hF229 (fn := Tryd.f90) rfl (by kernel_rfl) (by kernel_rfl)) ?_
    exact ⟨(([] : List Int), bstr (((zb280.set (w64 (x13 - 1)).toNat (c171.toNat : Int)).set (w64 ((w64 (x13 - 1)) - 1)).toNat 45).drop (w64 ((w64 (x13 - 1)) - 1)).toNat)), none, 0, Z215, rfl, hp214, hM230.keep (List.Sublist.cons_cons _ (List.Sublist.slnil))⟩
  ·
   have hp231 := hp42.2 hb57; clear hp42
   refine sqH ?_; intro hQ232Q hQ232
   refine s1 hF54 64 (.int .i64 2) ?_; intro a233 hF234; clear hF54
   refine s1 hF234 65 (.int .u64 2) ?_; intro a235 hF236; clear hF234
   refine s1 hF236 17 (.int .u64 2) ?_; intro a237 hF238; clear hF236
   refine nlH (hQ232 _ _ ?_); clear hQ232 hQ232Q
   refine wp_seq ?_
   refine wp_block ?_
   have hF239 : Fr 102 [] [⟨0, [], .slice none 0 0⟩, ⟨1, [], .int .u64 (wu64 (0 - u1))⟩, ⟨3, [], .bool u3⟩, ⟨4, [], .bool false⟩, ⟨10, [], .slice none 0 0⟩, ⟨11, [], str []⟩, ⟨12, [], .pointer (some ⟨b28, 0, none⟩)⟩, ⟨13, [], .int .i64 65⟩, ⟨17, [], .int .u64 2⟩] a237 := hF238.reg; clear hF238
   have hF241 : Fr 102 [] [⟨0, [], .slice none 0 0⟩, ⟨1, [], .int .u64 (wu64 (0 - u1))⟩, ⟨3, [], .bool u3⟩, ⟨4, [], .bool false⟩, ⟨10, [], .slice none 0 0⟩, ⟨11, [], str []⟩, ⟨12, [], .pointer (some ⟨b28, 0, none⟩)⟩, ⟨13, [], .int .i64 65⟩, ⟨17, [], .int .u64 2⟩] a237 := hF239.reg; clear hF239
   obtain ⟨inv240, mu240, hI244, hr243⟩ := hp231
   refine lp (ι := Int × Int × (List Int)) (fun (s : Int × Int × (List Int)) => [⟨0, [], .slice none 0 0⟩, ⟨1, [], .int .u64 s.1⟩, ⟨3, [], .bool u3⟩, ⟨4, [], .bool false⟩, ⟨10, [], .slice none 0 0⟩, ⟨11, [], str []⟩, ⟨12, [], .pointer (some ⟨b28, 0, none⟩)⟩, ⟨13, [], .int .i64 s.2.1⟩, ⟨17, [], .int .u64 2⟩]) (fun (s : Int × Int × (List Int)) => [.own (tyInt .u8) 135 (some ⟨b28, 0, none⟩) 65 s.2.2]) (fun (s : Int × Int × (List Int)) => Z) (fun (s : Int × Int × (List Int)) => inv240 s.1 s.2.1 s.2.2) (fun (s : Int × Int × (List Int)) => mu240 s.1 s.2.1 s.2.2) ⟨wu64 (0 - u1), 65, (List.replicate 65 (0 : Int))⟩ hI244 (by exact hF241.reg) (by exact hM56) ?_
   rintro ⟨x1, x13, zb280⟩ hI242 a246 wd247 hF248 hM249
   have hF250 : Fr 102 [] [⟨0, [], .slice none 0 0⟩, ⟨1, [], .int .u64 x1⟩, ⟨3, [], .bool u3⟩, ⟨4, [], .bool false⟩, ⟨10, [], .slice none 0 0⟩, ⟨11, [], str []⟩, ⟨12, [], .pointer (some ⟨b28, 0, none⟩)⟩, ⟨13, [], .int .i64 x13⟩, ⟨17, [], .int .u64 2⟩] a246 := hF248; clear hF248 hF241
   have hM251 : Mem w.heap.size [] w Z [.own (tyInt .u8) 135 (some ⟨b28, 0, none⟩) 65 zb280] Z wd247 := hM249; clear hM249 hM56
   have hp252 := hr243 x1 x13 zb280 hI242
   refine wp_seq ?_
   refine sqH ?_; intro hQ253Q hQ253
   refine s1 hF250 66 (.int .u64 x1) ?_; intro a254 hF255; clear hF250
   refine s1 hF255 67 (.int .u64 2) ?_; intro a256 hF257; clear hF255
   refine s1 hF257 68 (.bool (decide (x1 ≥ 2))) ?_; intro a258 hF259; clear hF257
   refine nlH (hQ253 _ _ ?_); clear hQ253 hQ253Q
   refine cd hF259 (t := decide (x1 ≥ 2)) (by kernel_rfl) (fun hb260 => ?_) (fun hb260 => ?_)
   ·
    have hp261 := hp252.1 hb260; clear hp252
    refine wp_skip ?_
    refine thn ?_
    refine wp_block ?_
    refine sqH ?_; intro hQ262Q hQ262
    refine s1 hF259 69 (.int .i64 x13) ?_; intro a263 hF264; clear hF259
    refine s1 hF264 70 (.int .i64 (w64 (x13 - 1))) ?_; intro a265 hF266; clear hF264
    refine s1 hF266 13 (.int .i64 (w64 (x13 - 1))) ?_; intro a267 hF268; clear hF266
    refine nlH (hQ262 _ _ ?_); clear hQ262 hQ262Q
    refine sqH ?_; intro hQ269Q hQ269
    refine s1 hF268 71 (.int .u64 x1) ?_; intro a270 hF271; clear hF268
    refine s1 hF271 72 (.int .u64 2) ?_; intro a272 hF273; clear hF271
    refine s1 hF273 73 (.int .u64 (wu64 (x1.tdiv 2))) ?_; intro a274 hF275; clear hF273
    refine s1 hF275 18 (.int .u64 (wu64 (x1.tdiv 2))) ?_; intro a276 hF277; clear hF275
    refine nlH (hQ269 _ _ ?_); clear hQ269 hQ269Q
    refine sqH ?_; intro hQ278Q hQ278
    refine s1 hF277 74 (.int .i64 (w64 (x13 - 1))) ?_; intro a279 hF280; clear hF277
    refine s1 hF280 75 (.int .u64 x1) ?_; intro a281 hF282; clear hF280
    refine s1 hF282 76 (.int .u64 (wu64 (x1.tdiv 2))) ?_; intro a283 hF284; clear hF282
    refine s1 hF284 77 (.int .u64 2) ?_; intro a285 hF286; clear hF284
    refine s1 hF286 78 (.int .u64 (wu64 ((wu64 (x1.tdiv 2)) * 2))) ?_; intro a287 hF288; clear hF286
    refine s1 hF288 79 (.int .u64 (wu64 (x1 - (wu64 ((wu64 (x1.tdiv 2)) * 2))))) ?_; intro a289 hF290; clear hF288
    have hc291 := hp261.1; have hp292 := hp261.2; clear hp261
    obtain ⟨c293, hq294⟩ : ∃ q, ([48, 49, 50, 51, 52, 53, 54, 55, 56, 57, 97, 98, 99, 100, 101, 102, 103, 104, 105, 106, 107, 108, 109, 110, 111, 112, 113, 114, 115, 116, 117, 118, 119, 120, 121, 122] : List UInt8)[(wu64 (x1 - (wu64 ((wu64 (x1.tdiv 2)) * 2)))).toNat]? = some q := ⟨_, List.getElem?_eq_getElem (by omega)⟩; have hp295 := hp292 c293 hq294
    refine st hF290 (.int .u8 (c293.toNat : Int)) (nog rfl _) rfl (by kernel_rfl) (stridx_run hF290 (k := .u64) rfl (by kernel_rfl) (by kernel_rfl) (by kernel_rfl) hc291.1 hq294) ?_; intro a296 hF297; clear hF290
    have hc298 := hp295.1; have hp299 := hp295.2; clear hp295
    refine ixA (g := b28) hF297 (w64 (x13 - 1)) 65 1 hc298.1 (e := 5) (k := .i64) (nog rfl _) rfl (by kernel_rfl) rfl (by kernel_rfl) (by kernel_rfl) (by kernel_rfl) ?_; intro a300 hF301; clear hF297
    refine so hF301 hM251 0 (T := (tyInt .u8)) (xs := zb280) (w64 (x13 - 1)).toNat (c293.toNat : Int) (u := .int .u8 (c293.toNat : Int)) (nog rfl _) rfl rfl (by kernel_rfl) rfl (by kernel_rfl) rfl (by kernel_rfl) (by first | omega | (simp only [List.length_set] at *; omega)) rfl ?_; intro wd302 hM303; clear hM251
    have hF304 : Fr 102 [] [⟨0, [], .slice none 0 0⟩, ⟨1, [], .int .u64 x1⟩, ⟨3, [], .bool u3⟩, ⟨4, [], .bool false⟩, ⟨10, [], .slice none 0 0⟩, ⟨11, [], str []⟩, ⟨12, [], .pointer (some ⟨b28, 0, none⟩)⟩, ⟨13, [], .int .i64 (w64 (x13 - 1))⟩, ⟨17, [], .int .u64 2⟩, ⟨18, [], .int .u64 (wu64 (x1.tdiv 2))⟩, ⟨66, [], .int .u64 x1⟩, ⟨67, [], .int .u64 2⟩, ⟨68, [], .bool (decide (x1 ≥ 2))⟩, ⟨69, [], .int .i64 x13⟩, ⟨70, [], .int .i64 (w64 (x13 - 1))⟩, ⟨71, [], .int .u64 x1⟩, ⟨72, [], .int .u64 2⟩, ⟨73, [], .int .u64 (wu64 (x1.tdiv 2))⟩, ⟨74, [], .int .i64 (w64 (x13 - 1))⟩, ⟨75, [], .int .u64 x1⟩, ⟨76, [], .int .u64 (wu64 (x1.tdiv 2))⟩, ⟨77, [], .int .u64 2⟩, ⟨78, [], .int .u64 (wu64 ((wu64 (x1.tdiv 2)) * 2))⟩, ⟨79, [], .int .u64 (wu64 (x1 - (wu64 ((wu64 (x1.tdiv 2)) * 2))))⟩, ⟨80, [], .int .u8 (c293.toNat : Int)⟩, ⟨81, [], .pointer (some ⟨b28, (w64 (x13 - 1)).toNat * 1, none⟩)⟩] a300 := by (try simp only [List.length_set] at hF301); (try simp only [List.length_set]); exact hF301.reg
    clear hF301
    have hM305 : Mem w.heap.size [] w Z [.own (tyInt .u8) 135 (some ⟨b28, 0, none⟩) 65 (zb280.set (w64 (x13 - 1)).toNat (c293.toNat : Int))] Z wd302 := hM303; clear hM303
    refine nlH (hQ278 _ _ ?_); clear hQ278 hQ278Q
    have hF306 : Fr 102 [] [⟨0, [], .slice none 0 0⟩, ⟨3, [], .bool u3⟩, ⟨4, [], .bool false⟩, ⟨10, [], .slice none 0 0⟩, ⟨11, [], str []⟩, ⟨12, [], .pointer (some ⟨b28, 0, none⟩)⟩, ⟨13, [], .int .i64 (w64 (x13 - 1))⟩, ⟨17, [], .int .u64 2⟩, ⟨18, [], .int .u64 (wu64 (x1.tdiv 2))⟩] a300 := hF304.reg; clear hF304
    refine rgH ?_; intro hQ307Q hQ307
    refine s1 hF306 82 (.int .u64 (wu64 (x1.tdiv 2))) ?_; intro a308 hF309; clear hF306
    refine s1 hF309 1 (.int .u64 (wu64 (x1.tdiv 2))) ?_; intro a310 hF311; clear hF309
    refine nlH (hQ307 _ _ ?_); clear hQ307 hQ307Q
    refine ibn ?_
    refine rd ?_
    exact ⟨⟨wu64 (x1.tdiv 2), w64 (x13 - 1), zb280.set (w64 (x13 - 1)).toNat (c293.toNat : Int)⟩, hp299.1, hp299.2, (hF311.reg).anyβ _ (by kernel_rfl), hM305.keep (List.Sublist.cons_cons _ (List.Sublist.slnil))⟩
   ·
    have hp312 := hp252.2 hb260; clear hp252
    refine wp_exit ?_
    refine thx ?_
    refine thx ?_
    refine ibx ?_
    refine thn ?_
    refine sqH ?_; intro hQ313Q hQ313
    refine s1 hF259 83 (.int .i64 x13) ?_; intro a314 hF315; clear hF259
    refine s1 hF315 84 (.int .i64 (w64 (x13 - 1))) ?_; intro a316 hF317; clear hF315
    refine s1 hF317 13 (.int .i64 (w64 (x13 - 1))) ?_; intro a318 hF319; clear hF317
    refine nlH (hQ313 _ _ ?_); clear hQ313 hQ313Q
    refine rgH ?_; intro hQ320Q hQ320
    refine s1 hF319 85 (.int .i64 (w64 (x13 - 1))) ?_; intro a321 hF322; clear hF319
    refine s1 hF322 86 (.int .u64 x1) ?_; intro a323 hF324; clear hF322
    have hc325 := hp312.1; have hp326 := hp312.2; clear hp312
    obtain ⟨c327, hq328⟩ : ∃ q, ([48, 49, 50, 51, 52, 53, 54, 55, 56, 57, 97, 98, 99, 100, 101, 102, 103, 104, 105, 106, 107, 108, 109, 110, 111, 112, 113, 114, 115, 116, 117, 118, 119, 120, 121, 122] : List UInt8)[x1.toNat]? = some q := ⟨_, List.getElem?_eq_getElem (by omega)⟩; have hp329 := hp326 c327 hq328
    refine st hF324 (.int .u8 (c327.toNat : Int)) (nog rfl _) rfl (by kernel_rfl) (stridx_run hF324 (k := .u64) rfl (by kernel_rfl) (by kernel_rfl) (by kernel_rfl) hc325.1 hq328) ?_; intro a330 hF331; clear hF324
    have hc332 := hp329.1; have hp333 := hp329.2; clear hp329
    refine ixA (g := b28) hF331 (w64 (x13 - 1)) 65 1 hc332.1 (e := 5) (k := .i64) (nog rfl _) rfl (by kernel_rfl) rfl (by kernel_rfl) (by kernel_rfl) (by kernel_rfl) ?_; intro a334 hF335; clear hF331
    refine so hF335 hM251 0 (T := (tyInt .u8)) (xs := zb280) (w64 (x13 - 1)).toNat (c327.toNat : Int) (u := .int .u8 (c327.toNat : Int)) (nog rfl _) rfl rfl (by kernel_rfl) rfl (by kernel_rfl) rfl (by kernel_rfl) (by first | omega | (simp only [List.length_set] at *; omega)) rfl ?_; intro wd336 hM337; clear hM251
    have hF338 : Fr 102 [] [⟨0, [], .slice none 0 0⟩, ⟨1, [], .int .u64 x1⟩, ⟨3, [], .bool u3⟩, ⟨4, [], .bool false⟩, ⟨10, [], .slice none 0 0⟩, ⟨11, [], str []⟩, ⟨12, [], .pointer (some ⟨b28, 0, none⟩)⟩, ⟨13, [], .int .i64 (w64 (x13 - 1))⟩, ⟨17, [], .int .u64 2⟩, ⟨66, [], .int .u64 x1⟩, ⟨67, [], .int .u64 2⟩, ⟨68, [], .bool (decide (x1 ≥ 2))⟩, ⟨83, [], .int .i64 x13⟩, ⟨84, [], .int .i64 (w64 (x13 - 1))⟩, ⟨85, [], .int .i64 (w64 (x13 - 1))⟩, ⟨86, [], .int .u64 x1⟩, ⟨87, [], .int .u8 (c327.toNat : Int)⟩, ⟨88, [], .pointer (some ⟨b28, (w64 (x13 - 1)).toNat * 1, none⟩)⟩] a334 := by (try simp only [List.length_set] at hF335); (try simp only [List.length_set]); exact hF335.reg
    clear hF335
    have hM339 : Mem w.heap.size [] w Z [.own (tyInt .u8) 135 (some ⟨b28, 0, none⟩) 65 (zb280.set (w64 (x13 - 1)).toNat (c327.toNat : Int))] Z wd336 := hM337; clear hM337
    refine nlH (hQ320 _ _ ?_); clear hQ320 hQ320Q
    refine thn ?_
    refine wp_seq ?_
    refine sqH ?_; intro hQ340Q hQ340
    refine s1 hF338 89 (.bool u3) ?_; intro a341 hF342; clear hF338
    refine nlH (hQ340 _ _ ?_); clear hQ340 hQ340Q
    refine cd hF342 (t := u3) (by kernel_rfl) (fun _ => ?_) (fun h => Bool.noConfusion (hb41.symm.trans h))
    refine sqH ?_; intro hQ344Q hQ344
    refine s1 hF342 90 (.int .i64 (w64 (x13 - 1))) ?_; intro a345 hF346; clear hF342
    refine s1 hF346 91 (.int .i64 (w64 ((w64 (x13 - 1)) - 1))) ?_; intro a347 hF348; clear hF346
    refine s1 hF348 13 (.int .i64 (w64 ((w64 (x13 - 1)) - 1))) ?_; intro a349 hF350; clear hF348
    refine nlH (hQ344 _ _ ?_); clear hQ344 hQ344Q
    have hF351 : Fr 102 [] [⟨0, [], .slice none 0 0⟩, ⟨4, [], .bool false⟩, ⟨10, [], .slice none 0 0⟩, ⟨11, [], str []⟩, ⟨12, [], .pointer (some ⟨b28, 0, none⟩)⟩, ⟨13, [], .int .i64 (w64 ((w64 (x13 - 1)) - 1))⟩] a349 := hF350.reg; clear hF350
    refine rgH ?_; intro hQ352Q hQ352
    refine s1 hF351 92 (.int .i64 (w64 ((w64 (x13 - 1)) - 1))) ?_; intro a353 hF354; clear hF351
    have hc355 := hp333.1; have hp356 := hp333.2; clear hp333
    refine ixA (g := b28) hF354 (w64 ((w64 (x13 - 1)) - 1)) 65 1 hc355.1 (e := 5) (k := .i64) (nog rfl _) rfl (by kernel_rfl) rfl (by kernel_rfl) (by kernel_rfl) (by kernel_rfl) ?_; intro a357 hF358; clear hF354
    refine so hF358 hM339 0 (T := (tyInt .u8)) (xs := zb280.set (w64 (x13 - 1)).toNat (c327.toNat : Int)) (w64 ((w64 (x13 - 1)) - 1)).toNat 45 (u := .int .u8 45) (nog rfl _) rfl rfl (by kernel_rfl) rfl (by kernel_rfl) rfl (by kernel_rfl) (by first | omega | (simp only [List.length_set] at *; omega)) rfl ?_; intro wd359 hM360; clear hM339
    have hF361 : Fr 102 [] [⟨0, [], .slice none 0 0⟩, ⟨4, [], .bool false⟩, ⟨10, [], .slice none 0 0⟩, ⟨11, [], str []⟩, ⟨12, [], .pointer (some ⟨b28, 0, none⟩)⟩, ⟨13, [], .int .i64 (w64 ((w64 (x13 - 1)) - 1))⟩, ⟨92, [], .int .i64 (w64 ((w64 (x13 - 1)) - 1))⟩, ⟨93, [], .pointer (some ⟨b28, (w64 ((w64 (x13 - 1)) - 1)).toNat * 1, none⟩)⟩] a357 := by (try simp only [List.length_set] at hF358); (try simp only [List.length_set]); exact hF358.reg
    clear hF358
    have hM362 : Mem w.heap.size [] w Z [.own (tyInt .u8) 135 (some ⟨b28, 0, none⟩) 65 ((zb280.set (w64 (x13 - 1)).toNat (c327.toNat : Int)).set (w64 ((w64 (x13 - 1)) - 1)).toNat 45)] Z wd359 := hM360; clear hM360
    refine nlH (hQ352 _ _ ?_); clear hQ352 hQ352Q
    refine thn ?_
    refine wp_seq ?_
    refine sqH ?_; intro hQ363Q hQ363
    refine s1 hF361 94 (.bool false) ?_; intro a364 hF365; clear hF361
    refine nlH (hQ363 _ _ ?_); clear hQ363 hQ363Q
    refine cdF hF365 (by kernel_rfl) ?_
    refine wp_skip ?_
    refine thn ?_
    refine sqH ?_; intro hQ366Q hQ366
    refine s1 hF365 99 (.int .i64 (w64 ((w64 (x13 - 1)) - 1))) ?_; intro a367 hF368; clear hF365
    have hc369 := hp356.1; have hp370 := hp356.2; clear hp356
    obtain ⟨Z371, hle372, hM373, hs374⟩ := hM362.freeze 0 rfl
    replace hg5 := hg5.mono hle372
    replace hle0 := Fz.le.trans hle0 hle372
    have hM375 : Mem w.heap.size [] w Z [] Z371 wd359 := hM373; clear hM373
    refine slA hF368 (T := (tyInt .u8)) (xs := (zb280.set (w64 (x13 - 1)).toNat (c327.toNat : Int)).set (w64 ((w64 (x13 - 1)) - 1)).toNat 45) hs374 65 (w64 ((w64 (x13 - 1)) - 1)) hc369.2 hc369.1 (e := 5) (k := .i64) (nog rfl _) rfl (by kernel_rfl) rfl (by kernel_rfl) (by kernel_rfl) (by kernel_rfl) ?_; intro ao376 cap377 a380 hn378 hs379 hF381; clear hF368
    refine st hF381 (str (bstr (((zb280.set (w64 (x13 - 1)).toNat (c327.toNat : Int)).set (w64 ((w64 (x13 - 1)) - 1)).toNat 45).drop (w64 ((w64 (x13 - 1)) - 1)).toNat))) (nog rfl _) rfl (by kernel_rfl) (bstr_op hF381 (g := []) (e := 5) (ao := ao376) (cap := cap377) (xs := (((zb280.set (w64 (x13 - 1)).toNat (c327.toNat : Int)).set (w64 ((w64 (x13 - 1)) - 1)).toNat 45).drop (w64 ((w64 (x13 - 1)) - 1)).toNat)) rfl (by kernel_rfl) (by kernel_rfl) (by kernel_rfl) (by kernel_rfl) hs379 hM375.fz rfl) ?_; intro a382 hF383; clear hF381
    refine s1 hF383 11 (str (bstr (((zb280.set (w64 (x13 - 1)).toNat (c327.toNat : Int)).set (w64 ((w64 (x13 - 1)) - 1)).toNat 45).drop (w64 ((w64 (x13 - 1)) - 1)).toNat))) ?_; intro a384 hF385; clear hF383
    refine nlH (hQ366 _ _ ?_); clear hQ366 hQ366Q
    refine wp_ret ?_
    have hM386 : Mem w.heap.size [] w Z [.own (tyInt .u8) 5 none 0 ([] : List Int)] Z371 wd359 := hM375.addNil (tyInt .u8) 5 (by decide); clear hM375
    refine rt (fn := Tryd.f90) (v := .tuple #[.slice none ([] : List Int).length 0, str (bstr (((zb280.set (w64 (x13 - 1)).toNat (c327.toNat : Int)).set (w64 ((w64 (x13 - 1)) - 1)).toNat 45).drop (w64 ((w64 (x13 - 1)) - 1)).toNat))]) hF385 (re2 hF385 (fn := Tryd.f90) rfl (by kernel_rfl) (by kernel_rfl)) ?_
    exact ⟨(([] : List Int), bstr (((zb280.set (w64 (x13 - 1)).toNat (c327.toNat : Int)).set (w64 ((w64 (x13 - 1)) - 1)).toNat 45).drop (w64 ((w64 (x13 - 1)) - 1)).toNat)), none, 0, Z371, rfl, hp370, hM386.keep (List.Sublist.cons_cons _ (List.Sublist.slnil))⟩
 ·
  have hp387 := hp.2 hb41; clear hp
  refine wp_skip ?_
  refine thn ?_
  refine wp_seq ?_
  refine sqH ?_; intro hQ388Q hQ388
  refine s1 hF40 33 (.int .i64 2) ?_; intro a389 hF390; clear hF40
  refine fcl hF390 hM33 (.bool (isp2 2)) 104 #[.int .i64 2] (nog rfl _) rfl (by kernel_rfl) (fun _ => by kernel_rfl) (isp2_fun 2 _ _ hM33.fz) ?_; intro a391 wd393 hF392 hM394; clear hF390 hM33
  refine nlH (hQ388 _ _ ?_); clear hQ388 hQ388Q
  refine cd hF392 (t := (isp2 2)) (by kernel_rfl) (fun hb395 => ?_) (fun hb395 => ?_)
  ·
   have hp396 := hp387.1 hb395; clear hp387
   refine sqH ?_; intro hQ397Q hQ397
   refine s1 hF392 35 (.int .i64 2) ?_; intro a398 hF399; clear hF392
   refine s1 hF399 36 (.int .u64 2) ?_; intro a400 hF401; clear hF399
   refine cl hF401 105 #[.int .u64 2] (nog rfl _) rfl (by kernel_rfl) (by kernel_rfl) ?_
   refine (tz_walk 2 _ _ hg5 hM394.fz hp396).mono ?_; rintro _ wd403 ⟨r402, rfl, hp407, hb⟩; refine ⟨_, rfl, ?_⟩; intro a404 hF405; have hM406 := hM394.call hb; clear hb hM394 hF401
   refine s1 hF405 38 (.int .u64 (wu64 r402)) ?_; intro a408 hF409; clear hF405
   refine s1 hF409 14 (.int .u64 (wu64 r402)) ?_; intro a410 hF411; clear hF409
   refine nlH (hQ397 _ _ ?_); clear hQ397 hQ397Q
   refine sqH ?_; intro hQ412Q hQ412
   refine s1 hF411 39 (.int .i64 2) ?_; intro a413 hF414; clear hF411
   refine s1 hF414 40 (.int .u64 2) ?_; intro a415 hF416; clear hF414
   refine s1 hF416 15 (.int .u64 2) ?_; intro a417 hF418; clear hF416
   refine nlH (hQ412 _ _ ?_); clear hQ412 hQ412Q
   refine sqH ?_; intro hQ419Q hQ419
   refine s1 hF418 41 (.int .i64 2) ?_; intro a420 hF421; clear hF418
   refine s1 hF421 42 (.int .u64 2) ?_; intro a422 hF423; clear hF421
   refine s1 hF423 43 (.int .u64 (wu64 (2 - 1))) ?_; intro a424 hF425; clear hF423
   refine s1 hF425 16 (.int .u64 (wu64 (2 - 1))) ?_; intro a426 hF427; clear hF425
   refine nlH (hQ419 _ _ ?_); clear hQ419 hQ419Q
   refine wp_seq ?_
   refine wp_block ?_
   have hF428 : Fr 102 [] [⟨0, [], .slice none 0 0⟩, ⟨1, [], .int .u64 u1⟩, ⟨3, [], .bool u3⟩, ⟨4, [], .bool false⟩, ⟨10, [], .slice none 0 0⟩, ⟨11, [], str []⟩, ⟨12, [], .pointer (some ⟨b28, 0, none⟩)⟩, ⟨13, [], .int .i64 65⟩, ⟨14, [], .int .u64 (wu64 r402)⟩, ⟨15, [], .int .u64 2⟩, ⟨16, [], .int .u64 (wu64 (2 - 1))⟩] a426 := hF427.reg; clear hF427
   have hF430 : Fr 102 [] [⟨0, [], .slice none 0 0⟩, ⟨1, [], .int .u64 u1⟩, ⟨3, [], .bool u3⟩, ⟨4, [], .bool false⟩, ⟨10, [], .slice none 0 0⟩, ⟨11, [], str []⟩, ⟨12, [], .pointer (some ⟨b28, 0, none⟩)⟩, ⟨13, [], .int .i64 65⟩, ⟨14, [], .int .u64 (wu64 r402)⟩, ⟨15, [], .int .u64 2⟩, ⟨16, [], .int .u64 (wu64 (2 - 1))⟩] a426 := hF428.reg; clear hF428
   obtain ⟨inv429, mu429, hI433, hr432⟩ := hp407
   refine lp (ι := Int × Int × (List Int)) (fun (s : Int × Int × (List Int)) => [⟨0, [], .slice none 0 0⟩, ⟨1, [], .int .u64 s.1⟩, ⟨3, [], .bool u3⟩, ⟨4, [], .bool false⟩, ⟨10, [], .slice none 0 0⟩, ⟨11, [], str []⟩, ⟨12, [], .pointer (some ⟨b28, 0, none⟩)⟩, ⟨13, [], .int .i64 s.2.1⟩, ⟨14, [], .int .u64 (wu64 r402)⟩, ⟨15, [], .int .u64 2⟩, ⟨16, [], .int .u64 (wu64 (2 - 1))⟩]) (fun (s : Int × Int × (List Int)) => [.own (tyInt .u8) 135 (some ⟨b28, 0, none⟩) 65 s.2.2]) (fun (s : Int × Int × (List Int)) => Z) (fun (s : Int × Int × (List Int)) => inv429 s.1 s.2.1 s.2.2) (fun (s : Int × Int × (List Int)) => mu429 s.1 s.2.1 s.2.2) ⟨u1, 65, (List.replicate 65 (0 : Int))⟩ hI433 (by exact hF430.reg) (by exact hM406) ?_
   rintro ⟨x1, x13, zb280⟩ hI431 a435 wd436 hF437 hM438
   have hF439 : Fr 102 [] [⟨0, [], .slice none 0 0⟩, ⟨1, [], .int .u64 x1⟩, ⟨3, [], .bool u3⟩, ⟨4, [], .bool false⟩, ⟨10, [], .slice none 0 0⟩, ⟨11, [], str []⟩, ⟨12, [], .pointer (some ⟨b28, 0, none⟩)⟩, ⟨13, [], .int .i64 x13⟩, ⟨14, [], .int .u64 (wu64 r402)⟩, ⟨15, [], .int .u64 2⟩, ⟨16, [], .int .u64 (wu64 (2 - 1))⟩] a435 := hF437; clear hF437 hF430
   have hM440 : Mem w.heap.size [] w Z [.own (tyInt .u8) 135 (some ⟨b28, 0, none⟩) 65 zb280] Z wd436 := hM438; clear hM438 hM406
   have hp441 := hr432 x1 x13 zb280 hI431
   refine wp_seq ?_
   refine sqH ?_; intro hQ442Q hQ442
   refine s1 hF439 44 (.int .u64 x1) ?_; intro a443 hF444; clear hF439
   refine s1 hF444 45 (.int .u64 2) ?_; intro a445 hF446; clear hF444
   refine s1 hF446 46 (.bool (decide (x1 ≥ 2))) ?_; intro a447 hF448; clear hF446
   refine nlH (hQ442 _ _ ?_); clear hQ442 hQ442Q
   refine cd hF448 (t := decide (x1 ≥ 2)) (by kernel_rfl) (fun hb449 => ?_) (fun hb449 => ?_)
   ·
    have hp450 := hp441.1 hb449; clear hp441
    refine wp_skip ?_
    refine thn ?_
    refine wp_block ?_
    refine sqH ?_; intro hQ451Q hQ451
    refine s1 hF448 47 (.int .i64 x13) ?_; intro a452 hF453; clear hF448
    refine s1 hF453 48 (.int .i64 (w64 (x13 - 1))) ?_; intro a454 hF455; clear hF453
    refine s1 hF455 13 (.int .i64 (w64 (x13 - 1))) ?_; intro a456 hF457; clear hF455
    refine nlH (hQ451 _ _ ?_); clear hQ451 hQ451Q
    refine sqH ?_; intro hQ458Q hQ458
    refine s1 hF457 49 (.int .i64 (w64 (x13 - 1))) ?_; intro a459 hF460; clear hF457
    refine s1 hF460 50 (.int .u64 x1) ?_; intro a461 hF462; clear hF460
    refine s1 hF462 51 (.int .u64 (wu64 (2 - 1))) ?_; intro a463 hF464; clear hF462
    refine s1 hF464 52 (.int .u64 (bAnd .u64 x1 (wu64 (2 - 1)))) ?_; intro a465 hF466; clear hF464
    have hc467 := hp450.1; have hp468 := hp450.2; clear hp450
    obtain ⟨c469, hq470⟩ : ∃ q, ([48, 49, 50, 51, 52, 53, 54, 55, 56, 57, 97, 98, 99, 100, 101, 102, 103, 104, 105, 106, 107, 108, 109, 110, 111, 112, 113, 114, 115, 116, 117, 118, 119, 120, 121, 122] : List UInt8)[(bAnd .u64 x1 (wu64 (2 - 1))).toNat]? = some q := ⟨_, List.getElem?_eq_getElem (by omega)⟩; have hp471 := hp468 c469 hq470
    refine st hF466 (.int .u8 (c469.toNat : Int)) (nog rfl _) rfl (by kernel_rfl) (stridx_run hF466 (k := .u64) rfl (by kernel_rfl) (by kernel_rfl) (by kernel_rfl) hc467.1 hq470) ?_; intro a472 hF473; clear hF466
    have hc474 := hp471.1; have hp475 := hp471.2; clear hp471
    refine ixA (g := b28) hF473 (w64 (x13 - 1)) 65 1 hc474.1 (e := 5) (k := .i64) (nog rfl _) rfl (by kernel_rfl) rfl (by kernel_rfl) (by kernel_rfl) (by kernel_rfl) ?_; intro a476 hF477; clear hF473
    refine so hF477 hM440 0 (T := (tyInt .u8)) (xs := zb280) (w64 (x13 - 1)).toNat (c469.toNat : Int) (u := .int .u8 (c469.toNat : Int)) (nog rfl _) rfl rfl (by kernel_rfl) rfl (by kernel_rfl) rfl (by kernel_rfl) (by first | omega | (simp only [List.length_set] at *; omega)) rfl ?_; intro wd478 hM479; clear hM440
    have hF480 : Fr 102 [] [⟨0, [], .slice none 0 0⟩, ⟨1, [], .int .u64 x1⟩, ⟨3, [], .bool u3⟩, ⟨4, [], .bool false⟩, ⟨10, [], .slice none 0 0⟩, ⟨11, [], str []⟩, ⟨12, [], .pointer (some ⟨b28, 0, none⟩)⟩, ⟨13, [], .int .i64 (w64 (x13 - 1))⟩, ⟨14, [], .int .u64 (wu64 r402)⟩, ⟨15, [], .int .u64 2⟩, ⟨16, [], .int .u64 (wu64 (2 - 1))⟩, ⟨44, [], .int .u64 x1⟩, ⟨45, [], .int .u64 2⟩, ⟨46, [], .bool (decide (x1 ≥ 2))⟩, ⟨47, [], .int .i64 x13⟩, ⟨48, [], .int .i64 (w64 (x13 - 1))⟩, ⟨49, [], .int .i64 (w64 (x13 - 1))⟩, ⟨50, [], .int .u64 x1⟩, ⟨51, [], .int .u64 (wu64 (2 - 1))⟩, ⟨52, [], .int .u64 (bAnd .u64 x1 (wu64 (2 - 1)))⟩, ⟨53, [], .int .u8 (c469.toNat : Int)⟩, ⟨54, [], .pointer (some ⟨b28, (w64 (x13 - 1)).toNat * 1, none⟩)⟩] a476 := by (try simp only [List.length_set] at hF477); (try simp only [List.length_set]); exact hF477.reg
    clear hF477
    have hM481 : Mem w.heap.size [] w Z [.own (tyInt .u8) 135 (some ⟨b28, 0, none⟩) 65 (zb280.set (w64 (x13 - 1)).toNat (c469.toNat : Int))] Z wd478 := hM479; clear hM479
    refine nlH (hQ458 _ _ ?_); clear hQ458 hQ458Q
    refine rgH ?_; intro hQ482Q hQ482
    refine s1 hF480 55 (.int .u64 x1) ?_; intro a483 hF484; clear hF480
    refine s1 hF484 56 (.int .u64 (wu64 r402)) ?_; intro a485 hF486; clear hF484
    have hc487 := hp475.1; have hp488 := hp475.2; clear hp475
    refine st hF486 (.int .u64 (bShr .u64 x1 (wu64 r402))) (nog rfl _) rfl (by kernel_rfl) (shr_run hF486 (g := []) (k' := .u64) rfl (by kernel_rfl) (by kernel_rfl) hc487 rfl) ?_; intro a489 hF490; clear hF486
    refine s1 hF490 1 (.int .u64 (bShr .u64 x1 (wu64 r402))) ?_; intro a491 hF492; clear hF490
    refine nlH (hQ482 _ _ ?_); clear hQ482 hQ482Q
    refine ibn ?_
    refine rd ?_
    exact ⟨⟨bShr .u64 x1 (wu64 r402), w64 (x13 - 1), zb280.set (w64 (x13 - 1)).toNat (c469.toNat : Int)⟩, hp488.1, hp488.2, (hF492.reg).anyβ _ (by kernel_rfl), hM481.keep (List.Sublist.cons_cons _ (List.Sublist.slnil))⟩
   ·
    have hp493 := hp441.2 hb449; clear hp441
    refine wp_exit ?_
    refine thx ?_
    refine thx ?_
    refine ibx ?_
    refine thn ?_
    refine sqH ?_; intro hQ494Q hQ494
    refine s1 hF448 58 (.int .i64 x13) ?_; intro a495 hF496; clear hF448
    refine s1 hF496 59 (.int .i64 (w64 (x13 - 1))) ?_; intro a497 hF498; clear hF496
    refine s1 hF498 13 (.int .i64 (w64 (x13 - 1))) ?_; intro a499 hF500; clear hF498
    refine nlH (hQ494 _ _ ?_); clear hQ494 hQ494Q
    refine rgH ?_; intro hQ501Q hQ501
    refine s1 hF500 60 (.int .i64 (w64 (x13 - 1))) ?_; intro a502 hF503; clear hF500
    refine s1 hF503 61 (.int .u64 x1) ?_; intro a504 hF505; clear hF503
    have hc506 := hp493.1; have hp507 := hp493.2; clear hp493
    obtain ⟨c508, hq509⟩ : ∃ q, ([48, 49, 50, 51, 52, 53, 54, 55, 56, 57, 97, 98, 99, 100, 101, 102, 103, 104, 105, 106, 107, 108, 109, 110, 111, 112, 113, 114, 115, 116, 117, 118, 119, 120, 121, 122] : List UInt8)[x1.toNat]? = some q := ⟨_, List.getElem?_eq_getElem (by omega)⟩; have hp510 := hp507 c508 hq509
    refine st hF505 (.int .u8 (c508.toNat : Int)) (nog rfl _) rfl (by kernel_rfl) (stridx_run hF505 (k := .u64) rfl (by kernel_rfl) (by kernel_rfl) (by kernel_rfl) hc506.1 hq509) ?_; intro a511 hF512; clear hF505
    have hc513 := hp510.1; have hp514 := hp510.2; clear hp510
    refine ixA (g := b28) hF512 (w64 (x13 - 1)) 65 1 hc513.1 (e := 5) (k := .i64) (nog rfl _) rfl (by kernel_rfl) rfl (by kernel_rfl) (by kernel_rfl) (by kernel_rfl) ?_; intro a515 hF516; clear hF512
    refine so hF516 hM440 0 (T := (tyInt .u8)) (xs := zb280) (w64 (x13 - 1)).toNat (c508.toNat : Int) (u := .int .u8 (c508.toNat : Int)) (nog rfl _) rfl rfl (by kernel_rfl) rfl (by kernel_rfl) rfl (by kernel_rfl) (by first | omega | (simp only [List.length_set] at *; omega)) rfl ?_; intro wd517 hM518; clear hM440
    have hF519 : Fr 102 [] [⟨0, [], .slice none 0 0⟩, ⟨1, [], .int .u64 x1⟩, ⟨3, [], .bool u3⟩, ⟨4, [], .bool false⟩, ⟨10, [], .slice none 0 0⟩, ⟨11, [], str []⟩, ⟨12, [], .pointer (some ⟨b28, 0, none⟩)⟩, ⟨13, [], .int .i64 (w64 (x13 - 1))⟩, ⟨14, [], .int .u64 (wu64 r402)⟩, ⟨15, [], .int .u64 2⟩, ⟨16, [], .int .u64 (wu64 (2 - 1))⟩, ⟨44, [], .int .u64 x1⟩, ⟨45, [], .int .u64 2⟩, ⟨46, [], .bool (decide (x1 ≥ 2))⟩, ⟨58, [], .int .i64 x13⟩, ⟨59, [], .int .i64 (w64 (x13 - 1))⟩, ⟨60, [], .int .i64 (w64 (x13 - 1))⟩, ⟨61, [], .int .u64 x1⟩, ⟨62, [], .int .u8 (c508.toNat : Int)⟩, ⟨63, [], .pointer (some ⟨b28, (w64 (x13 - 1)).toNat * 1, none⟩)⟩] a515 := by (try simp only [List.length_set] at hF516); (try simp only [List.length_set]); exact hF516.reg
    clear hF516
    have hM520 : Mem w.heap.size [] w Z [.own (tyInt .u8) 135 (some ⟨b28, 0, none⟩) 65 (zb280.set (w64 (x13 - 1)).toNat (c508.toNat : Int))] Z wd517 := hM518; clear hM518
    refine nlH (hQ501 _ _ ?_); clear hQ501 hQ501Q
    refine thn ?_
    refine wp_seq ?_
    refine sqH ?_; intro hQ521Q hQ521
    refine s1 hF519 89 (.bool u3) ?_; intro a522 hF523; clear hF519
    refine nlH (hQ521 _ _ ?_); clear hQ521 hQ521Q
    refine cd hF523 (t := u3) (by kernel_rfl) (fun h => Bool.noConfusion (hb41.symm.trans h)) (fun _ => ?_)
    refine wp_skip ?_
    refine thn ?_
    refine wp_seq ?_
    refine sqH ?_; intro hQ525Q hQ525
    refine s1 hF523 94 (.bool false) ?_; intro a526 hF527; clear hF523
    refine nlH (hQ525 _ _ ?_); clear hQ525 hQ525Q
    refine cdF hF527 (by kernel_rfl) ?_
    refine wp_skip ?_
    refine thn ?_
    refine sqH ?_; intro hQ528Q hQ528
    refine s1 hF527 99 (.int .i64 (w64 (x13 - 1))) ?_; intro a529 hF530; clear hF527
    have hc531 := hp514.1; have hp532 := hp514.2; clear hp514
    obtain ⟨Z533, hle534, hM535, hs536⟩ := hM520.freeze 0 rfl
    replace hg5 := hg5.mono hle534
    replace hle0 := Fz.le.trans hle0 hle534
    have hM537 : Mem w.heap.size [] w Z [] Z533 wd517 := hM535; clear hM535
    refine slA hF530 (T := (tyInt .u8)) (xs := zb280.set (w64 (x13 - 1)).toNat (c508.toNat : Int)) hs536 65 (w64 (x13 - 1)) hc531.2 hc531.1 (e := 5) (k := .i64) (nog rfl _) rfl (by kernel_rfl) rfl (by kernel_rfl) (by kernel_rfl) (by kernel_rfl) ?_; intro ao538 cap539 a542 hn540 hs541 hF543; clear hF530
    refine st hF543 (str (bstr ((zb280.set (w64 (x13 - 1)).toNat (c508.toNat : Int)).drop (w64 (x13 - 1)).toNat))) (nog rfl _) rfl (by kernel_rfl) (bstr_op hF543 (g := []) (e := 5) (ao := ao538) (cap := cap539) (xs := ((zb280.set (w64 (x13 - 1)).toNat (c508.toNat : Int)).drop (w64 (x13 - 1)).toNat)) rfl (by kernel_rfl) (by kernel_rfl) (by kernel_rfl) (by kernel_rfl) hs541 hM537.fz rfl) ?_; intro a544 hF545; clear hF543
    refine s1 hF545 11 (str (bstr ((zb280.set (w64 (x13 - 1)).toNat (c508.toNat : Int)).drop (w64 (x13 - 1)).toNat))) ?_; intro a546 hF547; clear hF545
    refine nlH (hQ528 _ _ ?_); clear hQ528 hQ528Q
    refine wp_ret ?_
    have hM548 : Mem w.heap.size [] w Z [.own (tyInt .u8) 5 none 0 ([] : List Int)] Z533 wd517 := hM537.addNil (tyInt .u8) 5 (by decide); clear hM537
    refine rt (fn := Tryd.f90) (v := .tuple #[.slice none ([] : List Int).length 0, str (bstr ((zb280.set (w64 (x13 - 1)).toNat (c508.toNat : Int)).drop (w64 (x13 - 1)).toNat))]) hF547 (re2 hF547 (fn := Tryd.f90) rfl (by kernel_rfl) (by kernel_rfl)) ?_
    exact ⟨(([] : List Int), bstr ((zb280.set (w64 (x13 - 1)).toNat (c508.toNat : Int)).drop (w64 (x13 - 1)).toNat)), none, 0, Z533, rfl, hp532, hM548.keep (List.Sublist.cons_cons _ (List.Sublist.slnil))⟩
  ·
   have hp549 := hp387.2 hb395; clear hp387
   refine sqH ?_; intro hQ550Q hQ550
   refine s1 hF392 64 (.int .i64 2) ?_; intro a551 hF552; clear hF392
   refine s1 hF552 65 (.int .u64 2) ?_; intro a553 hF554; clear hF552
   refine s1 hF554 17 (.int .u64 2) ?_; intro a555 hF556; clear hF554
   refine nlH (hQ550 _ _ ?_); clear hQ550 hQ550Q
   refine wp_seq ?_
   refine wp_block ?_
   have hF557 : Fr 102 [] [⟨0, [], .slice none 0 0⟩, ⟨1, [], .int .u64 u1⟩, ⟨3, [], .bool u3⟩, ⟨4, [], .bool false⟩, ⟨10, [], .slice none 0 0⟩, ⟨11, [], str []⟩, ⟨12, [], .pointer (some ⟨b28, 0, none⟩)⟩, ⟨13, [], .int .i64 65⟩, ⟨17, [], .int .u64 2⟩] a555 := hF556.reg; clear hF556
   have hF559 : Fr 102 [] [⟨0, [], .slice none 0 0⟩, ⟨1, [], .int .u64 u1⟩, ⟨3, [], .bool u3⟩, ⟨4, [], .bool false⟩, ⟨10, [], .slice none 0 0⟩, ⟨11, [], str []⟩, ⟨12, [], .pointer (some ⟨b28, 0, none⟩)⟩, ⟨13, [], .int .i64 65⟩, ⟨17, [], .int .u64 2⟩] a555 := hF557.reg; clear hF557
   obtain ⟨inv558, mu558, hI562, hr561⟩ := hp549
   refine lp (ι := Int × Int × (List Int)) (fun (s : Int × Int × (List Int)) => [⟨0, [], .slice none 0 0⟩, ⟨1, [], .int .u64 s.1⟩, ⟨3, [], .bool u3⟩, ⟨4, [], .bool false⟩, ⟨10, [], .slice none 0 0⟩, ⟨11, [], str []⟩, ⟨12, [], .pointer (some ⟨b28, 0, none⟩)⟩, ⟨13, [], .int .i64 s.2.1⟩, ⟨17, [], .int .u64 2⟩]) (fun (s : Int × Int × (List Int)) => [.own (tyInt .u8) 135 (some ⟨b28, 0, none⟩) 65 s.2.2]) (fun (s : Int × Int × (List Int)) => Z) (fun (s : Int × Int × (List Int)) => inv558 s.1 s.2.1 s.2.2) (fun (s : Int × Int × (List Int)) => mu558 s.1 s.2.1 s.2.2) ⟨u1, 65, (List.replicate 65 (0 : Int))⟩ hI562 (by exact hF559.reg) (by exact hM394) ?_
   rintro ⟨x1, x13, zb280⟩ hI560 a564 wd565 hF566 hM567
   have hF568 : Fr 102 [] [⟨0, [], .slice none 0 0⟩, ⟨1, [], .int .u64 x1⟩, ⟨3, [], .bool u3⟩, ⟨4, [], .bool false⟩, ⟨10, [], .slice none 0 0⟩, ⟨11, [], str []⟩, ⟨12, [], .pointer (some ⟨b28, 0, none⟩)⟩, ⟨13, [], .int .i64 x13⟩, ⟨17, [], .int .u64 2⟩] a564 := hF566; clear hF566 hF559
   have hM569 : Mem w.heap.size [] w Z [.own (tyInt .u8) 135 (some ⟨b28, 0, none⟩) 65 zb280] Z wd565 := hM567; clear hM567 hM394
   have hp570 := hr561 x1 x13 zb280 hI560
   refine wp_seq ?_
   refine sqH ?_; intro hQ571Q hQ571
   refine s1 hF568 66 (.int .u64 x1) ?_; intro a572 hF573; clear hF568
   refine s1 hF573 67 (.int .u64 2) ?_; intro a574 hF575; clear hF573
   refine s1 hF575 68 (.bool (decide (x1 ≥ 2))) ?_; intro a576 hF577; clear hF575
   refine nlH (hQ571 _ _ ?_); clear hQ571 hQ571Q
   refine cd hF577 (t := decide (x1 ≥ 2)) (by kernel_rfl) (fun hb578 => ?_) (fun hb578 => ?_)
   ·
    have hp579 := hp570.1 hb578; clear hp570
    refine wp_skip ?_
    refine thn ?_
    refine wp_block ?_
    refine sqH ?_; intro hQ580Q hQ580
    refine s1 hF577 69 (.int .i64 x13) ?_; intro a581 hF582; clear hF577
    refine s1 hF582 70 (.int .i64 (w64 (x13 - 1))) ?_; intro a583 hF584; clear hF582
    refine s1 hF584 13 (.int .i64 (w64 (x13 - 1))) ?_; intro a585 hF586; clear hF584
    refine nlH (hQ580 _ _ ?_); clear hQ580 hQ580Q
    refine sqH ?_; intro hQ587Q hQ587
    refine s1 hF586 71 (.int .u64 x1) ?_; intro a588 hF589; clear hF586
    refine s1 hF589 72 (.int .u64 2) ?_; intro a590 hF591; clear hF589
    refine s1 hF591 73 (.int .u64 (wu64 (x1.tdiv 2))) ?_; intro a592 hF593; clear hF591
    refine s1 hF593 18 (.int .u64 (wu64 (x1.tdiv 2))) ?_; intro a594 hF595; clear hF593
    refine nlH (hQ587 _ _ ?_); clear hQ587 hQ587Q
    refine sqH ?_; intro hQ596Q hQ596
    refine s1 hF595 74 (.int .i64 (w64 (x13 - 1))) ?_; intro a597 hF598; clear hF595
    refine s1 hF598 75 (.int .u64 x1) ?_; intro a599 hF600; clear hF598
    refine s1 hF600 76 (.int .u64 (wu64 (x1.tdiv 2))) ?_; intro a601 hF602; clear hF600
    refine s1 hF602 77 (.int .u64 2) ?_; intro a603 hF604; clear hF602
    refine s1 hF604 78 (.int .u64 (wu64 ((wu64 (x1.tdiv 2)) * 2))) ?_; intro a605 hF606; clear hF604
    refine s1 hF606 79 (.int .u64 (wu64 (x1 - (wu64 ((wu64 (x1.tdiv 2)) * 2))))) ?_; intro a607 hF608; clear hF606
    have hc609 := hp579.1; have hp610 := hp579.2; clear hp579
    obtain ⟨c611, hq612⟩ : ∃ q, ([48, 49, 50, 51, 52, 53, 54, 55, 56, 57, 97, 98, 99, 100, 101, 102, 103, 104, 105, 106, 107, 108, 109, 110, 111, 112, 113, 114, 115, 116, 117, 118, 119, 120, 121, 122] : List UInt8)[(wu64 (x1 - (wu64 ((wu64 (x1.tdiv 2)) * 2)))).toNat]? = some q := ⟨_, List.getElem?_eq_getElem (by omega)⟩; have hp613 := hp610 c611 hq612
    refine st hF608 (.int .u8 (c611.toNat : Int)) (nog rfl _) rfl (by kernel_rfl) (stridx_run hF608 (k := .u64) rfl (by kernel_rfl) (by kernel_rfl) (by kernel_rfl) hc609.1 hq612) ?_; intro a614 hF615; clear hF608
    have hc616 := hp613.1; have hp617 := hp613.2; clear hp613
    refine ixA (g := b28) hF615 (w64 (x13 - 1)) 65 1 hc616.1 (e := 5) (k := .i64) (nog rfl _) rfl (by kernel_rfl) rfl (by kernel_rfl) (by kernel_rfl) (by kernel_rfl) ?_; intro a618 hF619; clear hF615
    refine so hF619 hM569 0 (T := (tyInt .u8)) (xs := zb280) (w64 (x13 - 1)).toNat (c611.toNat : Int) (u := .int .u8 (c611.toNat : Int)) (nog rfl _) rfl rfl (by kernel_rfl) rfl (by kernel_rfl) rfl (by kernel_rfl) (by first | omega | (simp only [List.length_set] at *; omega)) rfl ?_; intro wd620 hM621; clear hM569
    have hF622 : Fr 102 [] [⟨0, [], .slice none 0 0⟩, ⟨1, [], .int .u64 x1⟩, ⟨3, [], .bool u3⟩, ⟨4, [], .bool false⟩, ⟨10, [], .slice none 0 0⟩, ⟨11, [], str []⟩, ⟨12, [], .pointer (some ⟨b28, 0, none⟩)⟩, ⟨13, [], .int .i64 (w64 (x13 - 1))⟩, ⟨17, [], .int .u64 2⟩, ⟨18, [], .int .u64 (wu64 (x1.tdiv 2))⟩, ⟨66, [], .int .u64 x1⟩, ⟨67, [], .int .u64 2⟩, ⟨68, [], .bool (decide (x1 ≥ 2))⟩, ⟨69, [], .int .i64 x13⟩, ⟨70, [], .int .i64 (w64 (x13 - 1))⟩, ⟨71, [], .int .u64 x1⟩, ⟨72, [], .int .u64 2⟩, ⟨73, [], .int .u64 (wu64 (x1.tdiv 2))⟩, ⟨74, [], .int .i64 (w64 (x13 - 1))⟩, ⟨75, [], .int .u64 x1⟩, ⟨76, [], .int .u64 (wu64 (x1.tdiv 2))⟩, ⟨77, [], .int .u64 2⟩, ⟨78, [], .int .u64 (wu64 ((wu64 (x1.tdiv 2)) * 2))⟩, ⟨79, [], .int .u64 (wu64 (x1 - (wu64 ((wu64 (x1.tdiv 2)) * 2))))⟩, ⟨80, [], .int .u8 (c611.toNat : Int)⟩, ⟨81, [], .pointer (some ⟨b28, (w64 (x13 - 1)).toNat * 1, none⟩)⟩] a618 := by (try simp only [List.length_set] at hF619); (try simp only [List.length_set]); exact hF619.reg
    clear hF619
    have hM623 : Mem w.heap.size [] w Z [.own (tyInt .u8) 135 (some ⟨b28, 0, none⟩) 65 (zb280.set (w64 (x13 - 1)).toNat (c611.toNat : Int))] Z wd620 := hM621; clear hM621
    refine nlH (hQ596 _ _ ?_); clear hQ596 hQ596Q
    have hF624 : Fr 102 [] [⟨0, [], .slice none 0 0⟩, ⟨3, [], .bool u3⟩, ⟨4, [], .bool false⟩, ⟨10, [], .slice none 0 0⟩, ⟨11, [], str []⟩, ⟨12, [], .pointer (some ⟨b28, 0, none⟩)⟩, ⟨13, [], .int .i64 (w64 (x13 - 1))⟩, ⟨17, [], .int .u64 2⟩, ⟨18, [], .int .u64 (wu64 (x1.tdiv 2))⟩] a618 := hF622.reg; clear hF622
    refine rgH ?_; intro hQ625Q hQ625
    refine s1 hF624 82 (.int .u64 (wu64 (x1.tdiv 2))) ?_; intro a626 hF627; clear hF624
    refine s1 hF627 1 (.int .u64 (wu64 (x1.tdiv 2))) ?_; intro a628 hF629; clear hF627
    refine nlH (hQ625 _ _ ?_); clear hQ625 hQ625Q
    refine ibn ?_
    refine rd ?_
    exact ⟨⟨wu64 (x1.tdiv 2), w64 (x13 - 1), zb280.set (w64 (x13 - 1)).toNat (c611.toNat : Int)⟩, hp617.1, hp617.2, (hF629.reg).anyβ _ (by kernel_rfl), hM623.keep (List.Sublist.cons_cons _ (List.Sublist.slnil))⟩
   ·
    have hp630 := hp570.2 hb578; clear hp570
    refine wp_exit ?_
    refine thx ?_
    refine thx ?_
    refine ibx ?_
    refine thn ?_
    refine sqH ?_; intro hQ631Q hQ631
    refine s1 hF577 83 (.int .i64 x13) ?_; intro a632 hF633; clear hF577
    refine s1 hF633 84 (.int .i64 (w64 (x13 - 1))) ?_; intro a634 hF635; clear hF633
    refine s1 hF635 13 (.int .i64 (w64 (x13 - 1))) ?_; intro a636 hF637; clear hF635
    refine nlH (hQ631 _ _ ?_); clear hQ631 hQ631Q
    refine rgH ?_; intro hQ638Q hQ638
    refine s1 hF637 85 (.int .i64 (w64 (x13 - 1))) ?_; intro a639 hF640; clear hF637
    refine s1 hF640 86 (.int .u64 x1) ?_; intro a641 hF642; clear hF640
    have hc643 := hp630.1; have hp644 := hp630.2; clear hp630
    obtain ⟨c645, hq646⟩ : ∃ q, ([48, 49, 50, 51, 52, 53, 54, 55, 56, 57, 97, 98, 99, 100, 101, 102, 103, 104, 105, 106, 107, 108, 109, 110, 111, 112, 113, 114, 115, 116, 117, 118, 119, 120, 121, 122] : List UInt8)[x1.toNat]? = some q := ⟨_, List.getElem?_eq_getElem (by omega)⟩; have hp647 := hp644 c645 hq646
    refine st hF642 (.int .u8 (c645.toNat : Int)) (nog rfl _) rfl (by kernel_rfl) (stridx_run hF642 (k := .u64) rfl (by kernel_rfl) (by kernel_rfl) (by kernel_rfl) hc643.1 hq646) ?_; intro a648 hF649; clear hF642
    have hc650 := hp647.1; have hp651 := hp647.2; clear hp647
    refine ixA (g := b28) hF649 (w64 (x13 - 1)) 65 1 hc650.1 (e := 5) (k := .i64) (nog rfl _) rfl (by kernel_rfl) rfl (by kernel_rfl) (by kernel_rfl) (by kernel_rfl) ?_; intro a652 hF653; clear hF649
    refine so hF653 hM569 0 (T := (tyInt .u8)) (xs := zb280) (w64 (x13 - 1)).toNat (c645.toNat : Int) (u := .int .u8 (c645.toNat : Int)) (nog rfl _) rfl rfl (by kernel_rfl) rfl (by kernel_rfl) rfl (by kernel_rfl) (by first | omega | (simp only [List.length_set] at *; omega)) rfl ?_; intro wd654 hM655; clear hM569
    have hF656 : Fr 102 [] [⟨0, [], .slice none 0 0⟩, ⟨1, [], .int .u64 x1⟩, ⟨3, [], .bool u3⟩, ⟨4, [], .bool false⟩, ⟨10, [], .slice none 0 0⟩, ⟨11, [], str []⟩, ⟨12, [], .pointer (some ⟨b28, 0, none⟩)⟩, ⟨13, [], .int .i64 (w64 (x13 - 1))⟩, ⟨17, [], .int .u64 2⟩, ⟨66, [], .int .u64 x1⟩, ⟨67, [], .int .u64 2⟩, ⟨68, [], .bool (decide (x1 ≥ 2))⟩, ⟨83, [], .int .i64 x13⟩, ⟨84, [], .int .i64 (w64 (x13 - 1))⟩, ⟨85, [], .int .i64 (w64 (x13 - 1))⟩, ⟨86, [], .int .u64 x1⟩, ⟨87, [], .int .u8 (c645.toNat : Int)⟩, ⟨88, [], .pointer (some ⟨b28, (w64 (x13 - 1)).toNat * 1, none⟩)⟩] a652 := by (try simp only [List.length_set] at hF653); (try simp only [List.length_set]); exact hF653.reg
    clear hF653
    have hM657 : Mem w.heap.size [] w Z [.own (tyInt .u8) 135 (some ⟨b28, 0, none⟩) 65 (zb280.set (w64 (x13 - 1)).toNat (c645.toNat : Int))] Z wd654 := hM655; clear hM655
    refine nlH (hQ638 _ _ ?_); clear hQ638 hQ638Q
    refine thn ?_
    refine wp_seq ?_
    refine sqH ?_; intro hQ658Q hQ658
    refine s1 hF656 89 (.bool u3) ?_; intro a659 hF660; clear hF656
    refine nlH (hQ658 _ _ ?_); clear hQ658 hQ658Q
    refine cd hF660 (t := u3) (by kernel_rfl) (fun h => Bool.noConfusion (hb41.symm.trans h)) (fun _ => ?_)
    refine wp_skip ?_
    refine thn ?_
    refine wp_seq ?_
    refine sqH ?_; intro hQ662Q hQ662
    refine s1 hF660 94 (.bool false) ?_; intro a663 hF664; clear hF660
    refine nlH (hQ662 _ _ ?_); clear hQ662 hQ662Q
    refine cdF hF664 (by kernel_rfl) ?_
    refine wp_skip ?_
    refine thn ?_
    refine sqH ?_; intro hQ665Q hQ665
    refine s1 hF664 99 (.int .i64 (w64 (x13 - 1))) ?_; intro a666 hF667; clear hF664
    have hc668 := hp651.1; have hp669 := hp651.2; clear hp651
    obtain ⟨Z670, hle671, hM672, hs673⟩ := hM657.freeze 0 rfl
    replace hg5 := hg5.mono hle671
    replace hle0 := Fz.le.trans hle0 hle671
    have hM674 : Mem w.heap.size [] w Z [] Z670 wd654 := hM672; clear hM672
    refine slA hF667 (T := (tyInt .u8)) (xs := zb280.set (w64 (x13 - 1)).toNat (c645.toNat : Int)) hs673 65 (w64 (x13 - 1)) hc668.2 hc668.1 (e := 5) (k := .i64) (nog rfl _) rfl (by kernel_rfl) rfl (by kernel_rfl) (by kernel_rfl) (by kernel_rfl) ?_; intro ao675 cap676 a679 hn677 hs678 hF680; clear hF667
    refine st hF680 (str (bstr ((zb280.set (w64 (x13 - 1)).toNat (c645.toNat : Int)).drop (w64 (x13 - 1)).toNat))) (nog rfl _) rfl (by kernel_rfl) (bstr_op hF680 (g := []) (e := 5) (ao := ao675) (cap := cap676) (xs := ((zb280.set (w64 (x13 - 1)).toNat (c645.toNat : Int)).drop (w64 (x13 - 1)).toNat)) rfl (by kernel_rfl) (by kernel_rfl) (by kernel_rfl) (by kernel_rfl) hs678 hM674.fz rfl) ?_; intro a681 hF682; clear hF680
    refine s1 hF682 11 (str (bstr ((zb280.set (w64 (x13 - 1)).toNat (c645.toNat : Int)).drop (w64 (x13 - 1)).toNat))) ?_; intro a683 hF684; clear hF682
    refine nlH (hQ665 _ _ ?_); clear hQ665 hQ665Q
    refine wp_ret ?_
    have hM685 : Mem w.heap.size [] w Z [.own (tyInt .u8) 5 none 0 ([] : List Int)] Z670 wd654 := hM674.addNil (tyInt .u8) 5 (by decide); clear hM674
    refine rt (fn := Tryd.f90) (v := .tuple #[.slice none ([] : List Int).length 0, str (bstr ((zb280.set (w64 (x13 - 1)).toNat (c645.toNat : Int)).drop (w64 (x13 - 1)).toNat))]) hF684 (re2 hF684 (fn := Tryd.f90) rfl (by kernel_rfl) (by kernel_rfl)) ?_
    exact ⟨(([] : List Int), bstr ((zb280.set (w64 (x13 - 1)).toNat (c645.toNat : Int)).drop (w64 (x13 - 1)).toNat)), none, 0, Z670, rfl, hp669, hM685.keep (List.Sublist.cons_cons _ (List.Sublist.slnil))⟩

end Go.Proofs.YtfafpnacflcgmaaDoor
