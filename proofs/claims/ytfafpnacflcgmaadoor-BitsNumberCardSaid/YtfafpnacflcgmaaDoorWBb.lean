/- The walks, made by program: each call does what its pure predicate says. -/
import Derived.Test.YtfafpnacflcgmaaDoorPBb
import Derived.Test.YtfafpnacflcgmaaDoorWBa
set_option linter.unusedVariables false
set_option linter.unusedSimpArgs false
namespace Go.Proofs.YtfafpnacflcgmaaDoor
open Go.Sy Go.RowKit
theorem gtrim_fun (u0 : List Int) (ao1 : Option Addr) (cap2 : Nat) (Z : Fz) (w : World) (hs3 : SlR (tyInt .u32) Z ao1 cap2 u0) (hZ : Z.on w) : Calls Tryd.prog 86 #[.slice ao1 u0.length cap2] w fun e w' => ∃ (ao1001 : Option Addr) (cap1002 : Nat) (Z' : Fz), e = .returned (.slice ao1001 (gtrimS u0).length cap1002) ∧ SlR (tyInt .u32) Z' ao1001 cap1002 (gtrimS u0) ∧ Mem w.heap.size [] w Z [] Z' w' :=
  (gtrim_walk u0 ao1 cap2 Z w hs3 hZ (gtrim_ok u0)).mono fun _ _ ⟨r, h0, h1, h2, he, hk, f0, hm⟩ => by subst hk; exact ⟨h0, h1, h2, he, f0, hm⟩

set_option maxRecDepth 100000 in
set_option maxHeartbeats 0 in
theorem gwords_walk (u0 : Int)  (Z : Fz) (w : World)  (hZ : Z.on w) {K : (List Int) → Prop} (hp : gwords_vc u0 K) : Calls Tryd.prog 72 #[.int .u64 u0] w fun e w' => ∃ (r : (List Int)) (ao1001 : Option Addr) (cap1002 : Nat) (Z' : Fz), e = .returned (.slice ao1001 r.length cap1002) ∧ K r ∧ SlR (tyInt .u32) Z' ao1001 cap1002 r ∧ Mem w.heap.size [] w Z [] Z' w' := by
 refine enter0 Tryd.func72 rfl rfl (by kernel_rfl) ?_; intro a0 hF0; have hM0 := Mem.start w Z hZ; have hle0 := Fz.le.refl Z
 refine sqH ?_; intro hQ1Q hQ1
 refine s1 hF0 2 (.slice none 0 0) ?_; intro a2 hF3; clear hF0
 refine nlH (hQ1 _ _ ?_); clear hQ1 hQ1Q
 refine sqH ?_; intro hQ4Q hQ4
 refine s1 hF3 3 (.int .u64 u0) ?_; intro a5 hF6; clear hF3
 refine s1 hF6 4 (.int .u32 (wu32 u0)) ?_; intro a7 hF8; clear hF6
 refine s1 hF8 5 (.int .u64 u0) ?_; intro a9 hF10; clear hF8
 refine s1 hF10 6 (.int .u64 (bShr .u64 u0 32)) ?_; intro a11 hF12; clear hF10
 refine s1 hF12 7 (.int .u32 (wu32 (bShr .u64 u0 32))) ?_; intro a13 hF14; clear hF12
 refine sn hF14 hM0 (fun b => .slice (some ⟨b, 0, none⟩) 2 2) [.int .u32 (wu32 u0), .int .u32 (wu32 (bShr .u64 u0 32))] 105 (nog rfl _) rfl (by kernel_rfl) (by kernel_rfl) ?_; intro b15 a16 wd18 hF17 hM19; clear hF14 hM0
 have hM20 : Mem w.heap.size [] w Z [.own (tyInt .u32) 105 (some ⟨b15, 0, none⟩) 2 ([wu32 u0, wu32 (bShr .u64 u0 32)] : List Int)] Z wd18 := hM19.rowOwn (T := (tyInt .u32)) (xs := ([wu32 u0, wu32 (bShr .u64 u0 32)] : List Int)) 0 rfl (by decide) (by show 2 ≤ lim; decide) ((RepAll.one (T := (tyInt .u32)) (x := wu32 u0) rfl).append (RepAll.one (T := (tyInt .u32)) (x := wu32 (bShr .u64 u0 32)) rfl)); clear hM19
 obtain ⟨Z21, hle22, hM23, hs24⟩ := hM20.freeze 0 rfl
 replace hle0 := Fz.le.trans hle0 hle22
 have hM25 : Mem w.heap.size [] w Z [] Z21 wd18 := hM23; clear hM23
 refine cl hF17 86 #[.slice (some ⟨b15, 0, none⟩) ([wu32 u0, wu32 (bShr .u64 u0 32)] : List Int).length 2] (nog rfl _) rfl (by kernel_rfl) (by kernel_rfl) ?_
 refine (gtrim_fun ([wu32 u0, wu32 (bShr .u64 u0 32)] : List Int) (some ⟨b15, 0, none⟩) 2 _ _ hs24 hM25.fz).mono ?_; rintro _ wd26 ⟨ao30, cap31, Z33, rfl, hs32, hm⟩; refine ⟨_, rfl, ?_⟩; intro a27 hF28; have hM29 := hM25.callZ hm; have hle34 := hm.ext.le; clear hm hM25 hF17
 replace hs24 := hs24.mono hle34
 replace hle0 := Fz.le.trans hle0 hle34
 have hM35 : Mem w.heap.size [] w Z [] Z33 wd26 := hM29; clear hM29
 have hp36 := hp (hs32.small); clear hp
 refine s1 hF28 2 (.slice ao30 (gtrimS ([wu32 u0, wu32 (bShr .u64 u0 32)] : List Int)).length cap31) ?_; intro a37 hF38; clear hF28
 refine nlH (hQ4 _ _ ?_); clear hQ4 hQ4Q
 refine wp_ret ?_
 refine rt (fn := Tryd.f72) (v := .slice ao30 (gtrimS ([wu32 u0, wu32 (bShr .u64 u0 32)] : List Int)).length cap31) hF38 (re1 hF38 (fn := Tryd.f72) rfl (by kernel_rfl)) ?_
 exact ⟨(gtrimS ([wu32 u0, wu32 (bShr .u64 u0 32)] : List Int)), ao30, cap31, Z33, rfl, hp36, hs32, hM35.keep (List.Sublist.slnil)⟩

set_option maxRecDepth 100000 in
set_option maxHeartbeats 0 in
theorem gadd_walk (u0 : List Int) (u1 : List Int) (ao1 : Option Addr) (cap2 : Nat) (ao4 : Option Addr) (cap5 : Nat) (Z : Fz) (w : World) (hs3 : SlR (tyInt .u32) Z ao1 cap2 u0) (hs6 : SlR (tyInt .u32) Z ao4 cap5 u1) (hZ : Z.on w) {K : (List Int) → Prop} (hp : gadd_vc u0 u1 K) : Calls Tryd.prog 70 #[.slice ao1 u0.length cap2, .slice ao4 u1.length cap5] w fun e w' => ∃ (r : (List Int)) (ao1001 : Option Addr) (cap1002 : Nat) (Z' : Fz), e = .returned (.slice ao1001 r.length cap1002) ∧ K r ∧ SlR (tyInt .u32) Z' ao1001 cap1002 r ∧ Mem w.heap.size [] w Z [] Z' w' := by
 refine enter0 Tryd.func70 rfl rfl (by kernel_rfl) ?_; intro a0 hF0; have hM0 := Mem.start w Z hZ; have hle0 := Fz.le.refl Z
 have hp7 := hp (hs3.small); clear hp
 have hp8 := hp7 (hs6.small); clear hp7
 refine sqH ?_; intro hQ9Q hQ9
 refine s1 hF0 4 (.slice none 0 0) ?_; intro a10 hF11; clear hF0
 refine nlH (hQ9 _ _ ?_); clear hQ9 hQ9Q
 refine wp_seq ?_
 refine sqH ?_; intro hQ12Q hQ12
 refine s1 hF11 8 (.slice ao1 u0.length cap2) ?_; intro a13 hF14; clear hF11
 refine s1 hF14 9 (.int .i64 (u0.length : Int)) ?_; intro a15 hF16; clear hF14
 refine s1 hF16 10 (.slice ao4 u1.length cap5) ?_; intro a17 hF18; clear hF16
 refine s1 hF18 11 (.int .i64 (u1.length : Int)) ?_; intro a19 hF20; clear hF18
 refine s1 hF20 12 (.bool (decide ((u0.length : Int) < (u1.length : Int)))) ?_; intro a21 hF22; clear hF20
 refine nlH (hQ12 _ _ ?_); clear hQ12 hQ12Q
 refine cd hF22 (t := decide ((u0.length : Int) < (u1.length : Int))) (by kernel_rfl) (fun hb23 => ?_) (fun hb23 => ?_)
 ·
  have hp24 := hp8.1 hb23; clear hp8
  refine rgH ?_; intro hQ25Q hQ25
  refine s1 hF22 13 (.slice ao4 u1.length cap5) ?_; intro a26 hF27; clear hF22
  refine s1 hF27 14 (.slice ao1 u0.length cap2) ?_; intro a28 hF29; clear hF27
  refine s1 hF29 0 (.slice ao4 u1.length cap5) ?_; intro a30 hF31; clear hF29
  refine s1 hF31 1 (.slice ao1 u0.length cap2) ?_; intro a32 hF33; clear hF31
  refine nlH (hQ25 _ _ ?_); clear hQ25 hQ25Q
  refine thn ?_
  refine sqH ?_; intro hQ34Q hQ34
  refine s1 hF33 15 (.slice ao4 u1.length cap5) ?_; intro a35 hF36; clear hF33
  refine s1 hF36 16 (.int .i64 (u1.length : Int)) ?_; intro a37 hF38; clear hF36
  refine s1 hF38 17 (.int .i64 (w64 ((u1.length : Int) + 1))) ?_; intro a39 hF40; clear hF38
  have hc41 := hp24.1; have hp42 := hp24.2; clear hp24
  refine mks hF40 hM0 (T := (tyInt .u32)) (w64 ((u1.length : Int) + 1)) (w64 ((u1.length : Int) + 1)) (k := .i64) (k' := .i64) (e := 105) (bytes := 4) (zs := [.int .u32 0]) (z := 0) (by simp only [lim]; omega) (nog rfl _) rfl (by kernel_rfl) rfl (by kernel_rfl) (by kernel_rfl) (by kernel_rfl) (by kernel_rfl) rfl ?_; intro g43 a46 wd44 hF47 hM45; clear hF40 hM0
  have hM48 : Mem w.heap.size [] w Z [.own (tyInt .u32) 105 (some ⟨g43, 0, none⟩) ((w64 ((u1.length : Int) + 1)).toNat) (List.replicate (w64 ((u1.length : Int) + 1)).toNat (0 : Int))] Z wd44 := hM45; clear hM45
  refine s1 hF47 5 (.slice (some ⟨g43, 0, none⟩) (List.replicate (w64 ((u1.length : Int) + 1)).toNat (0 : Int)).length ((w64 ((u1.length : Int) + 1)).toNat)) ?_; intro a49 hF50; clear hF47
  refine nlH (hQ34 _ _ ?_); clear hQ34 hQ34Q
  have hF51 : Fr 58 [] [⟨0, [], .slice ao4 u1.length cap5⟩, ⟨1, [], .slice ao1 u0.length cap2⟩, ⟨5, [], .slice (some ⟨g43, 0, none⟩) (List.replicate (w64 ((u1.length : Int) + 1)).toNat (0 : Int)).length ((w64 ((u1.length : Int) + 1)).toNat)⟩] a49 := hF50.reg; clear hF50
  refine sqH ?_; intro hQ52Q hQ52
  refine s1 hF51 6 (.int .u64 0) ?_; intro a53 hF54; clear hF51
  refine nlH (hQ52 _ _ ?_); clear hQ52 hQ52Q
  refine wp_seq ?_
  refine sqH ?_; intro hQ55Q hQ55
  refine s1 hF54 7 (.int .i64 0) ?_; intro a56 hF57; clear hF54
  refine nlH (hQ55 _ _ ?_); clear hQ55 hQ55Q
  refine wp_block ?_
  have hF58 : Fr 58 [] [⟨0, [], .slice ao4 u1.length cap5⟩, ⟨1, [], .slice ao1 u0.length cap2⟩, ⟨5, [], .slice (some ⟨g43, 0, none⟩) (List.replicate (w64 ((u1.length : Int) + 1)).toNat (0 : Int)).length ((w64 ((u1.length : Int) + 1)).toNat)⟩, ⟨6, [], .int .u64 0⟩, ⟨7, [], .int .i64 0⟩] a56 := hF57.reg; clear hF57
  have hF60 : Fr 58 [] [⟨0, [], .slice ao4 u1.length cap5⟩, ⟨1, [], .slice ao1 u0.length cap2⟩, ⟨5, [], .slice (some ⟨g43, 0, none⟩) (List.replicate (w64 ((u1.length : Int) + 1)).toNat (0 : Int)).length ((w64 ((u1.length : Int) + 1)).toNat)⟩, ⟨6, [], .int .u64 0⟩, ⟨7, [], .int .i64 0⟩] a56 := hF58.reg; clear hF58
  obtain ⟨inv59, mu59, hI63, hr62⟩ := hp42
  refine lp (ι := Int × Int × (List Int)) (fun (s : Int × Int × (List Int)) => [⟨0, [], .slice ao4 u1.length cap5⟩, ⟨1, [], .slice ao1 u0.length cap2⟩, ⟨5, [], .slice (some ⟨g43, 0, none⟩) s.2.2.length ((w64 ((u1.length : Int) + 1)).toNat)⟩, ⟨6, [], .int .u64 s.1⟩, ⟨7, [], .int .i64 s.2.1⟩]) (fun (s : Int × Int × (List Int)) => [.own (tyInt .u32) 105 (some ⟨g43, 0, none⟩) ((w64 ((u1.length : Int) + 1)).toNat) s.2.2]) (fun (s : Int × Int × (List Int)) => Z) (fun (s : Int × Int × (List Int)) => inv59 s.1 s.2.1 s.2.2) (fun (s : Int × Int × (List Int)) => mu59 s.1 s.2.1 s.2.2) ⟨0, 0, (List.replicate (w64 ((u1.length : Int) + 1)).toNat (0 : Int))⟩ hI63 (by exact hF60.reg) (by exact hM48) ?_
  rintro ⟨x6, x7, zg430⟩ hI61 a65 wd66 hF67 hM68
  have hF69 : Fr 58 [] [⟨0, [], .slice ao4 u1.length cap5⟩, ⟨1, [], .slice ao1 u0.length cap2⟩, ⟨5, [], .slice (some ⟨g43, 0, none⟩) zg430.length ((w64 ((u1.length : Int) + 1)).toNat)⟩, ⟨6, [], .int .u64 x6⟩, ⟨7, [], .int .i64 x7⟩] a65 := hF67; clear hF67 hF60
  have hM70 : Mem w.heap.size [] w Z [.own (tyInt .u32) 105 (some ⟨g43, 0, none⟩) ((w64 ((u1.length : Int) + 1)).toNat) zg430] Z wd66 := hM68; clear hM68 hM48
  have hp71 := hr62 x6 x7 zg430 hI61
  refine wp_seq ?_
  refine sqH ?_; intro hQ72Q hQ72
  refine s1 hF69 19 (.int .i64 x7) ?_; intro a73 hF74; clear hF69
  refine s1 hF74 20 (.slice ao4 u1.length cap5) ?_; intro a75 hF76; clear hF74
  refine s1 hF76 21 (.int .i64 (u1.length : Int)) ?_; intro a77 hF78; clear hF76
  refine s1 hF78 22 (.bool (decide (x7 < (u1.length : Int)))) ?_; intro a79 hF80; clear hF78
  refine nlH (hQ72 _ _ ?_); clear hQ72 hQ72Q
  refine cd hF80 (t := decide (x7 < (u1.length : Int))) (by kernel_rfl) (fun hb81 => ?_) (fun hb81 => ?_)
  ·
   have hp82 := hp71.1 hb81; clear hp71
   refine wp_skip ?_
   refine thn ?_
   refine wp_seq ?_
   refine wp_block ?_
   refine sqH ?_; intro hQ83Q hQ83
   refine s1 hF80 25 (.int .u64 x6) ?_; intro a84 hF85; clear hF80
   refine s1 hF85 26 (.slice ao4 u1.length cap5) ?_; intro a86 hF87; clear hF85
   refine s1 hF87 27 (.int .i64 x7) ?_; intro a88 hF89; clear hF87
   have hc90 := hp82.1; have hp91 := hp82.2; clear hp82
   refine ix hF89 (T := (tyInt .u32)) (xs := u1) hs6 x7 hc90 (k := .i64) (e := 105) (bytes := 4) (nog rfl _) rfl (by kernel_rfl) rfl (by kernel_rfl) (by kernel_rfl) (by kernel_rfl) ?_; intro b92 off93 cs94 q95 a99 hq96 hP97 hT98 hF100; clear hF89
   have hp101 := hp91 q95 hq96; clear hp91
   obtain rfl : cs94 = ([.int .u32 q95] : List Value) := hT98
   refine z1 hF100 hM70 29 hP97 0 (.int .u32 q95) rfl ?_; intro a102 hF103; clear hF100
   refine s1 hF103 30 (.int .u64 (wu64 q95)) ?_; intro a104 hF105; clear hF103
   refine s1 hF105 31 (.int .u64 (wu64 (x6 + (wu64 q95)))) ?_; intro a106 hF107; clear hF105
   refine s1 hF107 6 (.int .u64 (wu64 (x6 + (wu64 q95)))) ?_; intro a108 hF109; clear hF107
   refine nlH (hQ83 _ _ ?_); clear hQ83 hQ83Q
   refine wp_seq ?_
   refine sqH ?_; intro hQ110Q hQ110
   refine s1 hF109 32 (.int .i64 x7) ?_; intro a111 hF112; clear hF109
   refine s1 hF112 33 (.slice ao1 u0.length cap2) ?_; intro a113 hF114; clear hF112
   refine s1 hF114 34 (.int .i64 (u0.length : Int)) ?_; intro a115 hF116; clear hF114
   refine s1 hF116 35 (.bool (decide (x7 < (u0.length : Int)))) ?_; intro a117 hF118; clear hF116
   refine nlH (hQ110 _ _ ?_); clear hQ110 hQ110Q
   refine cd hF118 (t := decide (x7 < (u0.length : Int))) (by kernel_rfl) (fun hb119 => ?_) (fun hb119 => ?_)
   ·
    have hp120 := hp101.1 hb119; clear hp101
    have hF121 : Fr 58 [] [⟨0, [], .slice ao4 u1.length cap5⟩, ⟨1, [], .slice ao1 u0.length cap2⟩, ⟨5, [], .slice (some ⟨g43, 0, none⟩) zg430.length ((w64 ((u1.length : Int) + 1)).toNat)⟩, ⟨6, [], .int .u64 (wu64 (x6 + (wu64 q95)))⟩, ⟨7, [], .int .i64 x7⟩] a117 := hF118.reg; clear hF118
    refine rgH ?_; intro hQ122Q hQ122
    refine s1 hF121 36 (.int .u64 (wu64 (x6 + (wu64 q95)))) ?_; intro a123 hF124; clear hF121
    refine s1 hF124 37 (.slice ao1 u0.length cap2) ?_; intro a125 hF126; clear hF124
    refine s1 hF126 38 (.int .i64 x7) ?_; intro a127 hF128; clear hF126
    have hc129 := hp120.1; have hp130 := hp120.2; clear hp120
    refine ix hF128 (T := (tyInt .u32)) (xs := u0) hs3 x7 hc129 (k := .i64) (e := 105) (bytes := 4) (nog rfl _) rfl (by kernel_rfl) rfl (by kernel_rfl) (by kernel_rfl) (by kernel_rfl) ?_; intro b131 off132 cs133 q134 a138 hq135 hP136 hT137 hF139; clear hF128
    have hp140 := hp130 q134 hq135; clear hp130
    obtain rfl : cs133 = ([.int .u32 q134] : List Value) := hT137
    refine z1 hF139 hM70 40 hP136 0 (.int .u32 q134) rfl ?_; intro a141 hF142; clear hF139
    refine s1 hF142 41 (.int .u64 (wu64 q134)) ?_; intro a143 hF144; clear hF142
    refine s1 hF144 42 (.int .u64 (wu64 ((wu64 (x6 + (wu64 q95))) + (wu64 q134)))) ?_; intro a145 hF146; clear hF144
    refine s1 hF146 6 (.int .u64 (wu64 ((wu64 (x6 + (wu64 q95))) + (wu64 q134)))) ?_; intro a147 hF148; clear hF146
    refine nlH (hQ122 _ _ ?_); clear hQ122 hQ122Q
    refine thn ?_
    refine sqH ?_; intro hQ149Q hQ149
    refine s1 hF148 43 (.slice (some ⟨g43, 0, none⟩) zg430.length ((w64 ((u1.length : Int) + 1)).toNat)) ?_; intro a150 hF151; clear hF148
    refine s1 hF151 44 (.int .i64 x7) ?_; intro a152 hF153; clear hF151
    refine s1 hF153 45 (.int .u64 (wu64 ((wu64 (x6 + (wu64 q95))) + (wu64 q134)))) ?_; intro a154 hF155; clear hF153
    refine s1 hF155 46 (.int .u32 (wu32 (wu64 ((wu64 (x6 + (wu64 q95))) + (wu64 q134))))) ?_; intro a156 hF157; clear hF155
    have hc158 := hp140.1; have hp159 := hp140.2; clear hp140
    refine ixo hF157 hM70 0 (T := (tyInt .u32)) (xs := zg430) x7 hc158 (k := .i64) (e := 105) (bytes := 4) (nog rfl _) rfl (by kernel_rfl) rfl (by kernel_rfl) (by kernel_rfl) rfl (by kernel_rfl) ?_; intro g160 a162 hg161 hF163; clear hF157
    obtain rfl : g43 = g160 := by simpa using hg161
    have hF164 : Fr 58 [] [⟨0, [], .slice ao4 u1.length cap5⟩, ⟨1, [], .slice ao1 u0.length cap2⟩, ⟨5, [], .slice (some ⟨g43, 0, none⟩) zg430.length ((w64 ((u1.length : Int) + 1)).toNat)⟩, ⟨6, [], .int .u64 (wu64 ((wu64 (x6 + (wu64 q95))) + (wu64 q134)))⟩, ⟨7, [], .int .i64 x7⟩, ⟨36, [], .int .u64 (wu64 (x6 + (wu64 q95)))⟩, ⟨37, [], .slice ao1 u0.length cap2⟩, ⟨38, [], .int .i64 x7⟩, ⟨39, [], .pointer (some ⟨b131, off132, none⟩)⟩, ⟨40, [], .int .u32 q134⟩, ⟨41, [], .int .u64 (wu64 q134)⟩, ⟨42, [], .int .u64 (wu64 ((wu64 (x6 + (wu64 q95))) + (wu64 q134)))⟩, ⟨43, [], .slice (some ⟨g43, 0, none⟩) zg430.length ((w64 ((u1.length : Int) + 1)).toNat)⟩, ⟨44, [], .int .i64 x7⟩, ⟨45, [], .int .u64 (wu64 ((wu64 (x6 + (wu64 q95))) + (wu64 q134)))⟩, ⟨46, [], .int .u32 (wu32 (wu64 ((wu64 (x6 + (wu64 q95))) + (wu64 q134))))⟩, ⟨47, [], .pointer (some ⟨g43, x7.toNat * 1, none⟩)⟩] a162 := hF163.reg; clear hF163
    have hM165 : Mem w.heap.size [] w Z [.own (tyInt .u32) 105 (some ⟨g43, 0, none⟩) ((w64 ((u1.length : Int) + 1)).toNat) zg430] Z wd66 := hM70; clear hM70
    refine so hF164 hM165 0 (T := (tyInt .u32)) (xs := zg430) x7.toNat (wu32 (wu64 ((wu64 (x6 + (wu64 q95))) + (wu64 q134)))) (u := .int .u32 (wu32 (wu64 ((wu64 (x6 + (wu64 q95))) + (wu64 q134))))) (nog rfl _) rfl rfl (by kernel_rfl) rfl (by kernel_rfl) rfl (by kernel_rfl) (by first | omega | (simp only [List.length_set] at *; omega)) rfl ?_; intro wd166 hM167; clear hM165
    have hF168 : Fr 58 [] [⟨0, [], .slice ao4 u1.length cap5⟩, ⟨1, [], .slice ao1 u0.length cap2⟩, ⟨5, [], .slice (some ⟨g43, 0, none⟩) (zg430.set x7.toNat (wu32 (wu64 ((wu64 (x6 + (wu64 q95))) + (wu64 q134))))).length ((w64 ((u1.length : Int) + 1)).toNat)⟩, ⟨6, [], .int .u64 (wu64 ((wu64 (x6 + (wu64 q95))) + (wu64 q134)))⟩, ⟨7, [], .int .i64 x7⟩, ⟨36, [], .int .u64 (wu64 (x6 + (wu64 q95)))⟩, ⟨37, [], .slice ao1 u0.length cap2⟩, ⟨38, [], .int .i64 x7⟩, ⟨39, [], .pointer (some ⟨b131, off132, none⟩)⟩, ⟨40, [], .int .u32 q134⟩, ⟨41, [], .int .u64 (wu64 q134)⟩, ⟨42, [], .int .u64 (wu64 ((wu64 (x6 + (wu64 q95))) + (wu64 q134)))⟩, ⟨43, [], .slice (some ⟨g43, 0, none⟩) (zg430.set x7.toNat (wu32 (wu64 ((wu64 (x6 + (wu64 q95))) + (wu64 q134))))).length ((w64 ((u1.length : Int) + 1)).toNat)⟩, ⟨44, [], .int .i64 x7⟩, ⟨45, [], .int .u64 (wu64 ((wu64 (x6 + (wu64 q95))) + (wu64 q134)))⟩, ⟨46, [], .int .u32 (wu32 (wu64 ((wu64 (x6 + (wu64 q95))) + (wu64 q134))))⟩, ⟨47, [], .pointer (some ⟨g43, x7.toNat * 1, none⟩)⟩] a162 := by (try simp only [List.length_set] at hF164); (try simp only [List.length_set]); exact hF164.reg
    clear hF164
    have hM169 : Mem w.heap.size [] w Z [.own (tyInt .u32) 105 (some ⟨g43, 0, none⟩) ((w64 ((u1.length : Int) + 1)).toNat) (zg430.set x7.toNat (wu32 (wu64 ((wu64 (x6 + (wu64 q95))) + (wu64 q134)))))] Z wd166 := hM167; clear hM167
    refine nlH (hQ149 _ _ ?_); clear hQ149 hQ149Q
    refine rgH ?_; intro hQ170Q hQ170
    refine s1 hF168 48 (.int .u64 (wu64 ((wu64 (x6 + (wu64 q95))) + (wu64 q134)))) ?_; intro a171 hF172; clear hF168
    refine s1 hF172 49 (.int .u64 (bShr .u64 (wu64 ((wu64 (x6 + (wu64 q95))) + (wu64 q134))) 32)) ?_; intro a173 hF174; clear hF172
    refine s1 hF174 6 (.int .u64 (bShr .u64 (wu64 ((wu64 (x6 + (wu64 q95))) + (wu64 q134))) 32)) ?_; intro a175 hF176; clear hF174
    refine nlH (hQ170 _ _ ?_); clear hQ170 hQ170Q
    refine ibn ?_
    refine thn ?_
    have hF177 : Fr 58 [] [⟨0, [], .slice ao4 u1.length cap5⟩, ⟨1, [], .slice ao1 u0.length cap2⟩, ⟨5, [], .slice (some ⟨g43, 0, none⟩) (zg430.set x7.toNat (wu32 (wu64 ((wu64 (x6 + (wu64 q95))) + (wu64 q134))))).length ((w64 ((u1.length : Int) + 1)).toNat)⟩, ⟨6, [], .int .u64 (bShr .u64 (wu64 ((wu64 (x6 + (wu64 q95))) + (wu64 q134))) 32)⟩, ⟨7, [], .int .i64 x7⟩] a175 := hF176.reg; clear hF176
    refine rgH ?_; intro hQ178Q hQ178
    refine s1 hF177 23 (.int .i64 x7) ?_; intro a179 hF180; clear hF177
    refine s1 hF180 24 (.int .i64 (w64 (x7 + 1))) ?_; intro a181 hF182; clear hF180
    refine s1 hF182 7 (.int .i64 (w64 (x7 + 1))) ?_; intro a183 hF184; clear hF182
    refine nlH (hQ178 _ _ ?_); clear hQ178 hQ178Q
    refine rd ?_
    exact ⟨⟨bShr .u64 (wu64 ((wu64 (x6 + (wu64 q95))) + (wu64 q134))) 32, w64 (x7 + 1), zg430.set x7.toNat (wu32 (wu64 ((wu64 (x6 + (wu64 q95))) + (wu64 q134))))⟩, hp159.1, hp159.2, (hF184.reg).anyβ _ (by kernel_rfl), hM169.keep (List.Sublist.cons_cons _ (List.Sublist.slnil))⟩
   ·
    have hp185 := hp101.2 hb119; clear hp101
    refine wp_skip ?_
    refine thn ?_
    have hF186 : Fr 58 [] [⟨0, [], .slice ao4 u1.length cap5⟩, ⟨1, [], .slice ao1 u0.length cap2⟩, ⟨5, [], .slice (some ⟨g43, 0, none⟩) zg430.length ((w64 ((u1.length : Int) + 1)).toNat)⟩, ⟨6, [], .int .u64 (wu64 (x6 + (wu64 q95)))⟩, ⟨7, [], .int .i64 x7⟩] a117 := hF118.reg; clear hF118
    refine sqH ?_; intro hQ187Q hQ187
    refine s1 hF186 43 (.slice (some ⟨g43, 0, none⟩) zg430.length ((w64 ((u1.length : Int) + 1)).toNat)) ?_; intro a188 hF189; clear hF186
    refine s1 hF189 44 (.int .i64 x7) ?_; intro a190 hF191; clear hF189
    refine s1 hF191 45 (.int .u64 (wu64 (x6 + (wu64 q95)))) ?_; intro a192 hF193; clear hF191
    refine s1 hF193 46 (.int .u32 (wu32 (wu64 (x6 + (wu64 q95))))) ?_; intro a194 hF195; clear hF193
    have hc196 := hp185.1; have hp197 := hp185.2; clear hp185
    refine ixo hF195 hM70 0 (T := (tyInt .u32)) (xs := zg430) x7 hc196 (k := .i64) (e := 105) (bytes := 4) (nog rfl _) rfl (by kernel_rfl) rfl (by kernel_rfl) (by kernel_rfl) rfl (by kernel_rfl) ?_; intro g198 a200 hg199 hF201; clear hF195
    obtain rfl : g43 = g198 := by simpa using hg199
    have hF202 : Fr 58 [] [⟨0, [], .slice ao4 u1.length cap5⟩, ⟨1, [], .slice ao1 u0.length cap2⟩, ⟨5, [], .slice (some ⟨g43, 0, none⟩) zg430.length ((w64 ((u1.length : Int) + 1)).toNat)⟩, ⟨6, [], .int .u64 (wu64 (x6 + (wu64 q95)))⟩, ⟨7, [], .int .i64 x7⟩, ⟨43, [], .slice (some ⟨g43, 0, none⟩) zg430.length ((w64 ((u1.length : Int) + 1)).toNat)⟩, ⟨44, [], .int .i64 x7⟩, ⟨45, [], .int .u64 (wu64 (x6 + (wu64 q95)))⟩, ⟨46, [], .int .u32 (wu32 (wu64 (x6 + (wu64 q95))))⟩, ⟨47, [], .pointer (some ⟨g43, x7.toNat * 1, none⟩)⟩] a200 := hF201.reg; clear hF201
    have hM203 : Mem w.heap.size [] w Z [.own (tyInt .u32) 105 (some ⟨g43, 0, none⟩) ((w64 ((u1.length : Int) + 1)).toNat) zg430] Z wd66 := hM70; clear hM70
    refine so hF202 hM203 0 (T := (tyInt .u32)) (xs := zg430) x7.toNat (wu32 (wu64 (x6 + (wu64 q95)))) (u := .int .u32 (wu32 (wu64 (x6 + (wu64 q95))))) (nog rfl _) rfl rfl (by kernel_rfl) rfl (by kernel_rfl) rfl (by kernel_rfl) (by first | omega | (simp only [List.length_set] at *; omega)) rfl ?_; intro wd204 hM205; clear hM203
    have hF206 : Fr 58 [] [⟨0, [], .slice ao4 u1.length cap5⟩, ⟨1, [], .slice ao1 u0.length cap2⟩, ⟨5, [], .slice (some ⟨g43, 0, none⟩) (zg430.set x7.toNat (wu32 (wu64 (x6 + (wu64 q95))))).length ((w64 ((u1.length : Int) + 1)).toNat)⟩, ⟨6, [], .int .u64 (wu64 (x6 + (wu64 q95)))⟩, ⟨7, [], .int .i64 x7⟩, ⟨43, [], .slice (some ⟨g43, 0, none⟩) (zg430.set x7.toNat (wu32 (wu64 (x6 + (wu64 q95))))).length ((w64 ((u1.length : Int) + 1)).toNat)⟩, ⟨44, [], .int .i64 x7⟩, ⟨45, [], .int .u64 (wu64 (x6 + (wu64 q95)))⟩, ⟨46, [], .int .u32 (wu32 (wu64 (x6 + (wu64 q95))))⟩, ⟨47, [], .pointer (some ⟨g43, x7.toNat * 1, none⟩)⟩] a200 := by (try simp only [List.length_set] at hF202); (try simp only [List.length_set]); exact hF202.reg
    clear hF202
    have hM207 : Mem w.heap.size [] w Z [.own (tyInt .u32) 105 (some ⟨g43, 0, none⟩) ((w64 ((u1.length : Int) + 1)).toNat) (zg430.set x7.toNat (wu32 (wu64 (x6 + (wu64 q95)))))] Z wd204 := hM205; clear hM205
    refine nlH (hQ187 _ _ ?_); clear hQ187 hQ187Q
    refine rgH ?_; intro hQ208Q hQ208
    refine s1 hF206 48 (.int .u64 (wu64 (x6 + (wu64 q95)))) ?_; intro a209 hF210; clear hF206
    refine s1 hF210 49 (.int .u64 (bShr .u64 (wu64 (x6 + (wu64 q95))) 32)) ?_; intro a211 hF212; clear hF210
    refine s1 hF212 6 (.int .u64 (bShr .u64 (wu64 (x6 + (wu64 q95))) 32)) ?_; intro a213 hF214; clear hF212
    refine nlH (hQ208 _ _ ?_); clear hQ208 hQ208Q
    refine ibn ?_
    refine thn ?_
    refine rgH ?_; intro hQ215Q hQ215
    refine s1 hF214 23 (.int .i64 x7) ?_; intro a216 hF217; clear hF214
    refine s1 hF217 24 (.int .i64 (w64 (x7 + 1))) ?_; intro a218 hF219; clear hF217
    refine s1 hF219 7 (.int .i64 (w64 (x7 + 1))) ?_; intro a220 hF221; clear hF219
    refine nlH (hQ215 _ _ ?_); clear hQ215 hQ215Q
    refine rd ?_
    exact ⟨⟨bShr .u64 (wu64 (x6 + (wu64 q95))) 32, w64 (x7 + 1), zg430.set x7.toNat (wu32 (wu64 (x6 + (wu64 q95))))⟩, hp197.1, hp197.2, (hF221.reg).anyβ _ (by kernel_rfl), hM207.keep (List.Sublist.cons_cons _ (List.Sublist.slnil))⟩
  ·
   have hp222 := hp71.2 hb81; clear hp71
   refine wp_exit ?_
   refine thx ?_
   refine thx ?_
   refine ibx ?_
   refine thn ?_
   refine sqH ?_; intro hQ223Q hQ223
   refine s1 hF80 50 (.slice (some ⟨g43, 0, none⟩) zg430.length ((w64 ((u1.length : Int) + 1)).toNat)) ?_; intro a224 hF225; clear hF80
   refine s1 hF225 51 (.slice ao4 u1.length cap5) ?_; intro a226 hF227; clear hF225
   refine s1 hF227 52 (.int .i64 (u1.length : Int)) ?_; intro a228 hF229; clear hF227
   refine s1 hF229 53 (.int .u64 x6) ?_; intro a230 hF231; clear hF229
   refine s1 hF231 54 (.int .u32 (wu32 x6)) ?_; intro a232 hF233; clear hF231
   have hc234 := hp222.1; have hp235 := hp222.2; clear hp222
   refine ixo hF233 hM70 0 (T := (tyInt .u32)) (xs := zg430) (u1.length : Int) hc234 (k := .i64) (e := 105) (bytes := 4) (nog rfl _) rfl (by kernel_rfl) rfl (by kernel_rfl) (by kernel_rfl) rfl (by kernel_rfl) ?_; intro g236 a238 hg237 hF239; clear hF233
   obtain rfl : g43 = g236 := by simpa using hg237
   have hF240 : Fr 58 [] [⟨0, [], .slice ao4 u1.length cap5⟩, ⟨1, [], .slice ao1 u0.length cap2⟩, ⟨5, [], .slice (some ⟨g43, 0, none⟩) zg430.length ((w64 ((u1.length : Int) + 1)).toNat)⟩, ⟨6, [], .int .u64 x6⟩, ⟨7, [], .int .i64 x7⟩, ⟨19, [], .int .i64 x7⟩, ⟨20, [], .slice ao4 u1.length cap5⟩, ⟨21, [], .int .i64 (u1.length : Int)⟩, ⟨22, [], .bool (decide (x7 < (u1.length : Int)))⟩, ⟨50, [], .slice (some ⟨g43, 0, none⟩) zg430.length ((w64 ((u1.length : Int) + 1)).toNat)⟩, ⟨51, [], .slice ao4 u1.length cap5⟩, ⟨52, [], .int .i64 (u1.length : Int)⟩, ⟨53, [], .int .u64 x6⟩, ⟨54, [], .int .u32 (wu32 x6)⟩, ⟨55, [], .pointer (some ⟨g43, (u1.length : Int).toNat * 1, none⟩)⟩] a238 := hF239.reg; clear hF239
   have hM241 : Mem w.heap.size [] w Z [.own (tyInt .u32) 105 (some ⟨g43, 0, none⟩) ((w64 ((u1.length : Int) + 1)).toNat) zg430] Z wd66 := hM70; clear hM70
   refine so hF240 hM241 0 (T := (tyInt .u32)) (xs := zg430) (u1.length : Int).toNat (wu32 x6) (u := .int .u32 (wu32 x6)) (nog rfl _) rfl rfl (by kernel_rfl) rfl (by kernel_rfl) rfl (by kernel_rfl) (by first | omega | (simp only [List.length_set] at *; omega)) rfl ?_; intro wd242 hM243; clear hM241
   have hF244 : Fr 58 [] [⟨0, [], .slice ao4 u1.length cap5⟩, ⟨1, [], .slice ao1 u0.length cap2⟩, ⟨5, [], .slice (some ⟨g43, 0, none⟩) (zg430.set (u1.length : Int).toNat (wu32 x6)).length ((w64 ((u1.length : Int) + 1)).toNat)⟩, ⟨6, [], .int .u64 x6⟩, ⟨7, [], .int .i64 x7⟩, ⟨19, [], .int .i64 x7⟩, ⟨20, [], .slice ao4 u1.length cap5⟩, ⟨21, [], .int .i64 (u1.length : Int)⟩, ⟨22, [], .bool (decide (x7 < (u1.length : Int)))⟩, ⟨50, [], .slice (some ⟨g43, 0, none⟩) (zg430.set (u1.length : Int).toNat (wu32 x6)).length ((w64 ((u1.length : Int) + 1)).toNat)⟩, ⟨51, [], .slice ao4 u1.length cap5⟩, ⟨52, [], .int .i64 (u1.length : Int)⟩, ⟨53, [], .int .u64 x6⟩, ⟨54, [], .int .u32 (wu32 x6)⟩, ⟨55, [], .pointer (some ⟨g43, (u1.length : Int).toNat * 1, none⟩)⟩] a238 := by (try simp only [List.length_set] at hF240); (try simp only [List.length_set]); exact hF240.reg
   clear hF240
   have hM245 : Mem w.heap.size [] w Z [.own (tyInt .u32) 105 (some ⟨g43, 0, none⟩) ((w64 ((u1.length : Int) + 1)).toNat) (zg430.set (u1.length : Int).toNat (wu32 x6))] Z wd242 := hM243; clear hM243
   refine nlH (hQ223 _ _ ?_); clear hQ223 hQ223Q
   refine sqH ?_; intro hQ246Q hQ246
   refine s1 hF244 56 (.slice (some ⟨g43, 0, none⟩) (zg430.set (u1.length : Int).toNat (wu32 x6)).length ((w64 ((u1.length : Int) + 1)).toNat)) ?_; intro a247 hF248; clear hF244
   obtain ⟨Z249, hle250, hM251, hs252⟩ := hM245.freeze 0 rfl
   replace hs3 := hs3.mono hle250
   replace hs6 := hs6.mono hle250
   replace hle0 := Fz.le.trans hle0 hle250
   have hM253 : Mem w.heap.size [] w Z [] Z249 wd242 := hM251; clear hM251
   refine cl hF248 86 #[.slice (some ⟨g43, 0, none⟩) (zg430.set (u1.length : Int).toNat (wu32 x6)).length ((w64 ((u1.length : Int) + 1)).toNat)] (nog rfl _) rfl (by kernel_rfl) (by kernel_rfl) ?_
   refine (gtrim_fun (zg430.set (u1.length : Int).toNat (wu32 x6)) (some ⟨g43, 0, none⟩) ((w64 ((u1.length : Int) + 1)).toNat) _ _ hs252 hM253.fz).mono ?_; rintro _ wd254 ⟨ao258, cap259, Z261, rfl, hs260, hm⟩; refine ⟨_, rfl, ?_⟩; intro a255 hF256; have hM257 := hM253.callZ hm; have hle262 := hm.ext.le; clear hm hM253 hF248
   replace hs3 := hs3.mono hle262
   replace hs6 := hs6.mono hle262
   replace hs252 := hs252.mono hle262
   replace hle0 := Fz.le.trans hle0 hle262
   have hM263 : Mem w.heap.size [] w Z [] Z261 wd254 := hM257; clear hM257
   have hp264 := hp235 (hs260.small); clear hp235
   refine s1 hF256 4 (.slice ao258 (gtrimS (zg430.set (u1.length : Int).toNat (wu32 x6))).length cap259) ?_; intro a265 hF266; clear hF256
   refine nlH (hQ246 _ _ ?_); clear hQ246 hQ246Q
   refine wp_ret ?_
   refine rt (fn := Tryd.f70) (v := .slice ao258 (gtrimS (zg430.set (u1.length : Int).toNat (wu32 x6))).length cap259) hF266 (re1 hF266 (fn := Tryd.f70) rfl (by kernel_rfl)) ?_
   exact ⟨(gtrimS (zg430.set (u1.length : Int).toNat (wu32 x6))), ao258, cap259, Z261, rfl, hp264, hs260, hM263.keep (List.Sublist.slnil)⟩
 ·
  have hp267 := hp8.2 hb23; clear hp8
  refine wp_skip ?_
  refine thn ?_
  refine sqH ?_; intro hQ268Q hQ268
  refine s1 hF22 15 (.slice ao1 u0.length cap2) ?_; intro a269 hF270; clear hF22
  refine s1 hF270 16 (.int .i64 (u0.length : Int)) ?_; intro a271 hF272; clear hF270
  refine s1 hF272 17 (.int .i64 (w64 ((u0.length : Int) + 1))) ?_; intro a273 hF274; clear hF272
  have hc275 := hp267.1; have hp276 := hp267.2; clear hp267
  refine mks hF274 hM0 (T := (tyInt .u32)) (w64 ((u0.length : Int) + 1)) (w64 ((u0.length : Int) + 1)) (k := .i64) (k' := .i64) (e := 105) (bytes := 4) (zs := [.int .u32 0]) (z := 0) (by simp only [lim]; omega) (nog rfl _) rfl (by kernel_rfl) rfl (by kernel_rfl) (by kernel_rfl) (by kernel_rfl) (by kernel_rfl) rfl ?_; intro g277 a280 wd278 hF281 hM279; clear hF274 hM0
  have hM282 : Mem w.heap.size [] w Z [.own (tyInt .u32) 105 (some ⟨g277, 0, none⟩) ((w64 ((u0.length : Int) + 1)).toNat) (List.replicate (w64 ((u0.length : Int) + 1)).toNat (0 : Int))] Z wd278 := hM279; clear hM279
  refine s1 hF281 5 (.slice (some ⟨g277, 0, none⟩) (List.replicate (w64 ((u0.length : Int) + 1)).toNat (0 : Int)).length ((w64 ((u0.length : Int) + 1)).toNat)) ?_; intro a283 hF284; clear hF281
  refine nlH (hQ268 _ _ ?_); clear hQ268 hQ268Q
  refine sqH ?_; intro hQ285Q hQ285
  refine s1 hF284 6 (.int .u64 0) ?_; intro a286 hF287; clear hF284
  refine nlH (hQ285 _ _ ?_); clear hQ285 hQ285Q
  refine wp_seq ?_
  refine sqH ?_; intro hQ288Q hQ288
  refine s1 hF287 7 (.int .i64 0) ?_; intro a289 hF290; clear hF287
  refine nlH (hQ288 _ _ ?_); clear hQ288 hQ288Q
  refine wp_block ?_
  have hF291 : Fr 58 [] [⟨0, [], .slice ao1 u0.length cap2⟩, ⟨1, [], .slice ao4 u1.length cap5⟩, ⟨5, [], .slice (some ⟨g277, 0, none⟩) (List.replicate (w64 ((u0.length : Int) + 1)).toNat (0 : Int)).length ((w64 ((u0.length : Int) + 1)).toNat)⟩, ⟨6, [], .int .u64 0⟩, ⟨7, [], .int .i64 0⟩] a289 := hF290.reg; clear hF290
  have hF293 : Fr 58 [] [⟨0, [], .slice ao1 u0.length cap2⟩, ⟨1, [], .slice ao4 u1.length cap5⟩, ⟨5, [], .slice (some ⟨g277, 0, none⟩) (List.replicate (w64 ((u0.length : Int) + 1)).toNat (0 : Int)).length ((w64 ((u0.length : Int) + 1)).toNat)⟩, ⟨6, [], .int .u64 0⟩, ⟨7, [], .int .i64 0⟩] a289 := hF291.reg; clear hF291
  obtain ⟨inv292, mu292, hI296, hr295⟩ := hp276
  refine lp (ι := Int × Int × (List Int)) (fun (s : Int × Int × (List Int)) => [⟨0, [], .slice ao1 u0.length cap2⟩, ⟨1, [], .slice ao4 u1.length cap5⟩, ⟨5, [], .slice (some ⟨g277, 0, none⟩) s.2.2.length ((w64 ((u0.length : Int) + 1)).toNat)⟩, ⟨6, [], .int .u64 s.1⟩, ⟨7, [], .int .i64 s.2.1⟩]) (fun (s : Int × Int × (List Int)) => [.own (tyInt .u32) 105 (some ⟨g277, 0, none⟩) ((w64 ((u0.length : Int) + 1)).toNat) s.2.2]) (fun (s : Int × Int × (List Int)) => Z) (fun (s : Int × Int × (List Int)) => inv292 s.1 s.2.1 s.2.2) (fun (s : Int × Int × (List Int)) => mu292 s.1 s.2.1 s.2.2) ⟨0, 0, (List.replicate (w64 ((u0.length : Int) + 1)).toNat (0 : Int))⟩ hI296 (by exact hF293.reg) (by exact hM282) ?_
  rintro ⟨x6, x7, zg2770⟩ hI294 a298 wd299 hF300 hM301
  have hF302 : Fr 58 [] [⟨0, [], .slice ao1 u0.length cap2⟩, ⟨1, [], .slice ao4 u1.length cap5⟩, ⟨5, [], .slice (some ⟨g277, 0, none⟩) zg2770.length ((w64 ((u0.length : Int) + 1)).toNat)⟩, ⟨6, [], .int .u64 x6⟩, ⟨7, [], .int .i64 x7⟩] a298 := hF300; clear hF300 hF293
  have hM303 : Mem w.heap.size [] w Z [.own (tyInt .u32) 105 (some ⟨g277, 0, none⟩) ((w64 ((u0.length : Int) + 1)).toNat) zg2770] Z wd299 := hM301; clear hM301 hM282
  have hp304 := hr295 x6 x7 zg2770 hI294
  refine wp_seq ?_
  refine sqH ?_; intro hQ305Q hQ305
  refine s1 hF302 19 (.int .i64 x7) ?_; intro a306 hF307; clear hF302
  refine s1 hF307 20 (.slice ao1 u0.length cap2) ?_; intro a308 hF309; clear hF307
  refine s1 hF309 21 (.int .i64 (u0.length : Int)) ?_; intro a310 hF311; clear hF309
  refine s1 hF311 22 (.bool (decide (x7 < (u0.length : Int)))) ?_; intro a312 hF313; clear hF311
  refine nlH (hQ305 _ _ ?_); clear hQ305 hQ305Q
  refine cd hF313 (t := decide (x7 < (u0.length : Int))) (by kernel_rfl) (fun hb314 => ?_) (fun hb314 => ?_)
  ·
   have hp315 := hp304.1 hb314; clear hp304
   refine wp_skip ?_
   refine thn ?_
   refine wp_seq ?_
   refine wp_block ?_
   refine sqH ?_; intro hQ316Q hQ316
   refine s1 hF313 25 (.int .u64 x6) ?_; intro a317 hF318; clear hF313
   refine s1 hF318 26 (.slice ao1 u0.length cap2) ?_; intro a319 hF320; clear hF318
   refine s1 hF320 27 (.int .i64 x7) ?_; intro a321 hF322; clear hF320
   have hc323 := hp315.1; have hp324 := hp315.2; clear hp315
   refine ix hF322 (T := (tyInt .u32)) (xs := u0) hs3 x7 hc323 (k := .i64) (e := 105) (bytes := 4) (nog rfl _) rfl (by kernel_rfl) rfl (by kernel_rfl) (by kernel_rfl) (by kernel_rfl) ?_; intro b325 off326 cs327 q328 a332 hq329 hP330 hT331 hF333; clear hF322
   have hp334 := hp324 q328 hq329; clear hp324
   obtain rfl : cs327 = ([.int .u32 q328] : List Value) := hT331
   refine z1 hF333 hM303 29 hP330 0 (.int .u32 q328) rfl ?_; intro a335 hF336; clear hF333
   refine s1 hF336 30 (.int .u64 (wu64 q328)) ?_; intro a337 hF338; clear hF336
   refine s1 hF338 31 (.int .u64 (wu64 (x6 + (wu64 q328)))) ?_; intro a339 hF340; clear hF338
   refine s1 hF340 6 (.int .u64 (wu64 (x6 + (wu64 q328)))) ?_; intro a341 hF342; clear hF340
   refine nlH (hQ316 _ _ ?_); clear hQ316 hQ316Q
   refine wp_seq ?_
   refine sqH ?_; intro hQ343Q hQ343
   refine s1 hF342 32 (.int .i64 x7) ?_; intro a344 hF345; clear hF342
   refine s1 hF345 33 (.slice ao4 u1.length cap5) ?_; intro a346 hF347; clear hF345
   refine s1 hF347 34 (.int .i64 (u1.length : Int)) ?_; intro a348 hF349; clear hF347
   refine s1 hF349 35 (.bool (decide (x7 < (u1.length : Int)))) ?_; intro a350 hF351; clear hF349
   refine nlH (hQ343 _ _ ?_); clear hQ343 hQ343Q
   refine cd hF351 (t := decide (x7 < (u1.length : Int))) (by kernel_rfl) (fun hb352 => ?_) (fun hb352 => ?_)
   ·
    have hp353 := hp334.1 hb352; clear hp334
    have hF354 : Fr 58 [] [⟨0, [], .slice ao1 u0.length cap2⟩, ⟨1, [], .slice ao4 u1.length cap5⟩, ⟨5, [], .slice (some ⟨g277, 0, none⟩) zg2770.length ((w64 ((u0.length : Int) + 1)).toNat)⟩, ⟨6, [], .int .u64 (wu64 (x6 + (wu64 q328)))⟩, ⟨7, [], .int .i64 x7⟩] a350 := hF351.reg; clear hF351
    refine rgH ?_; intro hQ355Q hQ355
    refine s1 hF354 36 (.int .u64 (wu64 (x6 + (wu64 q328)))) ?_; intro a356 hF357; clear hF354
    refine s1 hF357 37 (.slice ao4 u1.length cap5) ?_; intro a358 hF359; clear hF357
    refine s1 hF359 38 (.int .i64 x7) ?_; intro a360 hF361; clear hF359
    have hc362 := hp353.1; have hp363 := hp353.2; clear hp353
    refine ix hF361 (T := (tyInt .u32)) (xs := u1) hs6 x7 hc362 (k := .i64) (e := 105) (bytes := 4) (nog rfl _) rfl (by kernel_rfl) rfl (by kernel_rfl) (by kernel_rfl) (by kernel_rfl) ?_; intro b364 off365 cs366 q367 a371 hq368 hP369 hT370 hF372; clear hF361
    have hp373 := hp363 q367 hq368; clear hp363
    obtain rfl : cs366 = ([.int .u32 q367] : List Value) := hT370
    refine z1 hF372 hM303 40 hP369 0 (.int .u32 q367) rfl ?_; intro a374 hF375; clear hF372
    refine s1 hF375 41 (.int .u64 (wu64 q367)) ?_; intro a376 hF377; clear hF375
    refine s1 hF377 42 (.int .u64 (wu64 ((wu64 (x6 + (wu64 q328))) + (wu64 q367)))) ?_; intro a378 hF379; clear hF377
    refine s1 hF379 6 (.int .u64 (wu64 ((wu64 (x6 + (wu64 q328))) + (wu64 q367)))) ?_; intro a380 hF381; clear hF379
    refine nlH (hQ355 _ _ ?_); clear hQ355 hQ355Q
    refine thn ?_
    refine sqH ?_; intro hQ382Q hQ382
    refine s1 hF381 43 (.slice (some ⟨g277, 0, none⟩) zg2770.length ((w64 ((u0.length : Int) + 1)).toNat)) ?_; intro a383 hF384; clear hF381
    refine s1 hF384 44 (.int .i64 x7) ?_; intro a385 hF386; clear hF384
    refine s1 hF386 45 (.int .u64 (wu64 ((wu64 (x6 + (wu64 q328))) + (wu64 q367)))) ?_; intro a387 hF388; clear hF386
    refine s1 hF388 46 (.int .u32 (wu32 (wu64 ((wu64 (x6 + (wu64 q328))) + (wu64 q367))))) ?_; intro a389 hF390; clear hF388
    have hc391 := hp373.1; have hp392 := hp373.2; clear hp373
    refine ixo hF390 hM303 0 (T := (tyInt .u32)) (xs := zg2770) x7 hc391 (k := .i64) (e := 105) (bytes := 4) (nog rfl _) rfl (by kernel_rfl) rfl (by kernel_rfl) (by kernel_rfl) rfl (by kernel_rfl) ?_; intro g393 a395 hg394 hF396; clear hF390
    obtain rfl : g277 = g393 := by simpa using hg394
    have hF397 : Fr 58 [] [⟨0, [], .slice ao1 u0.length cap2⟩, ⟨1, [], .slice ao4 u1.length cap5⟩, ⟨5, [], .slice (some ⟨g277, 0, none⟩) zg2770.length ((w64 ((u0.length : Int) + 1)).toNat)⟩, ⟨6, [], .int .u64 (wu64 ((wu64 (x6 + (wu64 q328))) + (wu64 q367)))⟩, ⟨7, [], .int .i64 x7⟩, ⟨36, [], .int .u64 (wu64 (x6 + (wu64 q328)))⟩, ⟨37, [], .slice ao4 u1.length cap5⟩, ⟨38, [], .int .i64 x7⟩, ⟨39, [], .pointer (some ⟨b364, off365, none⟩)⟩, ⟨40, [], .int .u32 q367⟩, ⟨41, [], .int .u64 (wu64 q367)⟩, ⟨42, [], .int .u64 (wu64 ((wu64 (x6 + (wu64 q328))) + (wu64 q367)))⟩, ⟨43, [], .slice (some ⟨g277, 0, none⟩) zg2770.length ((w64 ((u0.length : Int) + 1)).toNat)⟩, ⟨44, [], .int .i64 x7⟩, ⟨45, [], .int .u64 (wu64 ((wu64 (x6 + (wu64 q328))) + (wu64 q367)))⟩, ⟨46, [], .int .u32 (wu32 (wu64 ((wu64 (x6 + (wu64 q328))) + (wu64 q367))))⟩, ⟨47, [], .pointer (some ⟨g277, x7.toNat * 1, none⟩)⟩] a395 := hF396.reg; clear hF396
    have hM398 : Mem w.heap.size [] w Z [.own (tyInt .u32) 105 (some ⟨g277, 0, none⟩) ((w64 ((u0.length : Int) + 1)).toNat) zg2770] Z wd299 := hM303; clear hM303
    refine so hF397 hM398 0 (T := (tyInt .u32)) (xs := zg2770) x7.toNat (wu32 (wu64 ((wu64 (x6 + (wu64 q328))) + (wu64 q367)))) (u := .int .u32 (wu32 (wu64 ((wu64 (x6 + (wu64 q328))) + (wu64 q367))))) (nog rfl _) rfl rfl (by kernel_rfl) rfl (by kernel_rfl) rfl (by kernel_rfl) (by first | omega | (simp only [List.length_set] at *; omega)) rfl ?_; intro wd399 hM400; clear hM398
    have hF401 : Fr 58 [] [⟨0, [], .slice ao1 u0.length cap2⟩, ⟨1, [], .slice ao4 u1.length cap5⟩, ⟨5, [], .slice (some ⟨g277, 0, none⟩) (zg2770.set x7.toNat (wu32 (wu64 ((wu64 (x6 + (wu64 q328))) + (wu64 q367))))).length ((w64 ((u0.length : Int) + 1)).toNat)⟩, ⟨6, [], .int .u64 (wu64 ((wu64 (x6 + (wu64 q328))) + (wu64 q367)))⟩, ⟨7, [], .int .i64 x7⟩, ⟨36, [], .int .u64 (wu64 (x6 + (wu64 q328)))⟩, ⟨37, [], .slice ao4 u1.length cap5⟩, ⟨38, [], .int .i64 x7⟩, ⟨39, [], .pointer (some ⟨b364, off365, none⟩)⟩, ⟨40, [], .int .u32 q367⟩, ⟨41, [], .int .u64 (wu64 q367)⟩, ⟨42, [], .int .u64 (wu64 ((wu64 (x6 + (wu64 q328))) + (wu64 q367)))⟩, ⟨43, [], .slice (some ⟨g277, 0, none⟩) (zg2770.set x7.toNat (wu32 (wu64 ((wu64 (x6 + (wu64 q328))) + (wu64 q367))))).length ((w64 ((u0.length : Int) + 1)).toNat)⟩, ⟨44, [], .int .i64 x7⟩, ⟨45, [], .int .u64 (wu64 ((wu64 (x6 + (wu64 q328))) + (wu64 q367)))⟩, ⟨46, [], .int .u32 (wu32 (wu64 ((wu64 (x6 + (wu64 q328))) + (wu64 q367))))⟩, ⟨47, [], .pointer (some ⟨g277, x7.toNat * 1, none⟩)⟩] a395 := by (try simp only [List.length_set] at hF397); (try simp only [List.length_set]); exact hF397.reg
    clear hF397
    have hM402 : Mem w.heap.size [] w Z [.own (tyInt .u32) 105 (some ⟨g277, 0, none⟩) ((w64 ((u0.length : Int) + 1)).toNat) (zg2770.set x7.toNat (wu32 (wu64 ((wu64 (x6 + (wu64 q328))) + (wu64 q367)))))] Z wd399 := hM400; clear hM400
    refine nlH (hQ382 _ _ ?_); clear hQ382 hQ382Q
    refine rgH ?_; intro hQ403Q hQ403
    refine s1 hF401 48 (.int .u64 (wu64 ((wu64 (x6 + (wu64 q328))) + (wu64 q367)))) ?_; intro a404 hF405; clear hF401
    refine s1 hF405 49 (.int .u64 (bShr .u64 (wu64 ((wu64 (x6 + (wu64 q328))) + (wu64 q367))) 32)) ?_; intro a406 hF407; clear hF405
    refine s1 hF407 6 (.int .u64 (bShr .u64 (wu64 ((wu64 (x6 + (wu64 q328))) + (wu64 q367))) 32)) ?_; intro a408 hF409; clear hF407
    refine nlH (hQ403 _ _ ?_); clear hQ403 hQ403Q
    refine ibn ?_
    refine thn ?_
    have hF410 : Fr 58 [] [⟨0, [], .slice ao1 u0.length cap2⟩, ⟨1, [], .slice ao4 u1.length cap5⟩, ⟨5, [], .slice (some ⟨g277, 0, none⟩) (zg2770.set x7.toNat (wu32 (wu64 ((wu64 (x6 + (wu64 q328))) + (wu64 q367))))).length ((w64 ((u0.length : Int) + 1)).toNat)⟩, ⟨6, [], .int .u64 (bShr .u64 (wu64 ((wu64 (x6 + (wu64 q328))) + (wu64 q367))) 32)⟩, ⟨7, [], .int .i64 x7⟩] a408 := hF409.reg; clear hF409
    refine rgH ?_; intro hQ411Q hQ411
    refine s1 hF410 23 (.int .i64 x7) ?_; intro a412 hF413; clear hF410
    refine s1 hF413 24 (.int .i64 (w64 (x7 + 1))) ?_; intro a414 hF415; clear hF413
    refine s1 hF415 7 (.int .i64 (w64 (x7 + 1))) ?_; intro a416 hF417; clear hF415
    refine nlH (hQ411 _ _ ?_); clear hQ411 hQ411Q
    refine rd ?_
    exact ⟨⟨bShr .u64 (wu64 ((wu64 (x6 + (wu64 q328))) + (wu64 q367))) 32, w64 (x7 + 1), zg2770.set x7.toNat (wu32 (wu64 ((wu64 (x6 + (wu64 q328))) + (wu64 q367))))⟩, hp392.1, hp392.2, (hF417.reg).anyβ _ (by kernel_rfl), hM402.keep (List.Sublist.cons_cons _ (List.Sublist.slnil))⟩
   ·
    have hp418 := hp334.2 hb352; clear hp334
    refine wp_skip ?_
    refine thn ?_
    have hF419 : Fr 58 [] [⟨0, [], .slice ao1 u0.length cap2⟩, ⟨1, [], .slice ao4 u1.length cap5⟩, ⟨5, [], .slice (some ⟨g277, 0, none⟩) zg2770.length ((w64 ((u0.length : Int) + 1)).toNat)⟩, ⟨6, [], .int .u64 (wu64 (x6 + (wu64 q328)))⟩, ⟨7, [], .int .i64 x7⟩] a350 := hF351.reg; clear hF351
    refine sqH ?_; intro hQ420Q hQ420
    refine s1 hF419 43 (.slice (some ⟨g277, 0, none⟩) zg2770.length ((w64 ((u0.length : Int) + 1)).toNat)) ?_; intro a421 hF422; clear hF419
    refine s1 hF422 44 (.int .i64 x7) ?_; intro a423 hF424; clear hF422
    refine s1 hF424 45 (.int .u64 (wu64 (x6 + (wu64 q328)))) ?_; intro a425 hF426; clear hF424
    refine s1 hF426 46 (.int .u32 (wu32 (wu64 (x6 + (wu64 q328))))) ?_; intro a427 hF428; clear hF426
    have hc429 := hp418.1; have hp430 := hp418.2; clear hp418
    refine ixo hF428 hM303 0 (T := (tyInt .u32)) (xs := zg2770) x7 hc429 (k := .i64) (e := 105) (bytes := 4) (nog rfl _) rfl (by kernel_rfl) rfl (by kernel_rfl) (by kernel_rfl) rfl (by kernel_rfl) ?_; intro g431 a433 hg432 hF434; clear hF428
    obtain rfl : g277 = g431 := by simpa using hg432
    have hF435 : Fr 58 [] [⟨0, [], .slice ao1 u0.length cap2⟩, ⟨1, [], .slice ao4 u1.length cap5⟩, ⟨5, [], .slice (some ⟨g277, 0, none⟩) zg2770.length ((w64 ((u0.length : Int) + 1)).toNat)⟩, ⟨6, [], .int .u64 (wu64 (x6 + (wu64 q328)))⟩, ⟨7, [], .int .i64 x7⟩, ⟨43, [], .slice (some ⟨g277, 0, none⟩) zg2770.length ((w64 ((u0.length : Int) + 1)).toNat)⟩, ⟨44, [], .int .i64 x7⟩, ⟨45, [], .int .u64 (wu64 (x6 + (wu64 q328)))⟩, ⟨46, [], .int .u32 (wu32 (wu64 (x6 + (wu64 q328))))⟩, ⟨47, [], .pointer (some ⟨g277, x7.toNat * 1, none⟩)⟩] a433 := hF434.reg; clear hF434
    have hM436 : Mem w.heap.size [] w Z [.own (tyInt .u32) 105 (some ⟨g277, 0, none⟩) ((w64 ((u0.length : Int) + 1)).toNat) zg2770] Z wd299 := hM303; clear hM303
    refine so hF435 hM436 0 (T := (tyInt .u32)) (xs := zg2770) x7.toNat (wu32 (wu64 (x6 + (wu64 q328)))) (u := .int .u32 (wu32 (wu64 (x6 + (wu64 q328))))) (nog rfl _) rfl rfl (by kernel_rfl) rfl (by kernel_rfl) rfl (by kernel_rfl) (by first | omega | (simp only [List.length_set] at *; omega)) rfl ?_; intro wd437 hM438; clear hM436
    have hF439 : Fr 58 [] [⟨0, [], .slice ao1 u0.length cap2⟩, ⟨1, [], .slice ao4 u1.length cap5⟩, ⟨5, [], .slice (some ⟨g277, 0, none⟩) (zg2770.set x7.toNat (wu32 (wu64 (x6 + (wu64 q328))))).length ((w64 ((u0.length : Int) + 1)).toNat)⟩, ⟨6, [], .int .u64 (wu64 (x6 + (wu64 q328)))⟩, ⟨7, [], .int .i64 x7⟩, ⟨43, [], .slice (some ⟨g277, 0, none⟩) (zg2770.set x7.toNat (wu32 (wu64 (x6 + (wu64 q328))))).length ((w64 ((u0.length : Int) + 1)).toNat)⟩, ⟨44, [], .int .i64 x7⟩, ⟨45, [], .int .u64 (wu64 (x6 + (wu64 q328)))⟩, ⟨46, [], .int .u32 (wu32 (wu64 (x6 + (wu64 q328))))⟩, ⟨47, [], .pointer (some ⟨g277, x7.toNat * 1, none⟩)⟩] a433 := by (try simp only [List.length_set] at hF435); (try simp only [List.length_set]); exact hF435.reg
    clear hF435
    have hM440 : Mem w.heap.size [] w Z [.own (tyInt .u32) 105 (some ⟨g277, 0, none⟩) ((w64 ((u0.length : Int) + 1)).toNat) (zg2770.set x7.toNat (wu32 (wu64 (x6 + (wu64 q328)))))] Z wd437 := hM438; clear hM438
    refine nlH (hQ420 _ _ ?_); clear hQ420 hQ420Q
    refine rgH ?_; intro hQ441Q hQ441
    refine s1 hF439 48 (.int .u64 (wu64 (x6 + (wu64 q328)))) ?_; intro a442 hF443; clear hF439
    refine s1 hF443 49 (.int .u64 (bShr .u64 (wu64 (x6 + (wu64 q328))) 32)) ?_; intro a444 hF445; clear hF443
    refine s1 hF445 6 (.int .u64 (bShr .u64 (wu64 (x6 + (wu64 q328))) 32)) ?_; intro a446 hF447; clear hF445
    refine nlH (hQ441 _ _ ?_); clear hQ441 hQ441Q
    refine ibn ?_
    refine thn ?_
    refine rgH ?_; intro hQ448Q hQ448
    refine s1 hF447 23 (.int .i64 x7) ?_; intro a449 hF450; clear hF447
    refine s1 hF450 24 (.int .i64 (w64 (x7 + 1))) ?_; intro a451 hF452; clear hF450
    refine s1 hF452 7 (.int .i64 (w64 (x7 + 1))) ?_; intro a453 hF454; clear hF452
    refine nlH (hQ448 _ _ ?_); clear hQ448 hQ448Q
    refine rd ?_
    exact ⟨⟨bShr .u64 (wu64 (x6 + (wu64 q328))) 32, w64 (x7 + 1), zg2770.set x7.toNat (wu32 (wu64 (x6 + (wu64 q328))))⟩, hp430.1, hp430.2, (hF454.reg).anyβ _ (by kernel_rfl), hM440.keep (List.Sublist.cons_cons _ (List.Sublist.slnil))⟩
  ·
   have hp455 := hp304.2 hb314; clear hp304
   refine wp_exit ?_
   refine thx ?_
   refine thx ?_
   refine ibx ?_
   refine thn ?_
   refine sqH ?_; intro hQ456Q hQ456
   refine s1 hF313 50 (.slice (some ⟨g277, 0, none⟩) zg2770.length ((w64 ((u0.length : Int) + 1)).toNat)) ?_; intro a457 hF458; clear hF313
   refine s1 hF458 51 (.slice ao1 u0.length cap2) ?_; intro a459 hF460; clear hF458
   refine s1 hF460 52 (.int .i64 (u0.length : Int)) ?_; intro a461 hF462; clear hF460
   refine s1 hF462 53 (.int .u64 x6) ?_; intro a463 hF464; clear hF462
   refine s1 hF464 54 (.int .u32 (wu32 x6)) ?_; intro a465 hF466; clear hF464
   have hc467 := hp455.1; have hp468 := hp455.2; clear hp455
   refine ixo hF466 hM303 0 (T := (tyInt .u32)) (xs := zg2770) (u0.length : Int) hc467 (k := .i64) (e := 105) (bytes := 4) (nog rfl _) rfl (by kernel_rfl) rfl (by kernel_rfl) (by kernel_rfl) rfl (by kernel_rfl) ?_; intro g469 a471 hg470 hF472; clear hF466
   obtain rfl : g277 = g469 := by simpa using hg470
   have hF473 : Fr 58 [] [⟨0, [], .slice ao1 u0.length cap2⟩, ⟨1, [], .slice ao4 u1.length cap5⟩, ⟨5, [], .slice (some ⟨g277, 0, none⟩) zg2770.length ((w64 ((u0.length : Int) + 1)).toNat)⟩, ⟨6, [], .int .u64 x6⟩, ⟨7, [], .int .i64 x7⟩, ⟨19, [], .int .i64 x7⟩, ⟨20, [], .slice ao1 u0.length cap2⟩, ⟨21, [], .int .i64 (u0.length : Int)⟩, ⟨22, [], .bool (decide (x7 < (u0.length : Int)))⟩, ⟨50, [], .slice (some ⟨g277, 0, none⟩) zg2770.length ((w64 ((u0.length : Int) + 1)).toNat)⟩, ⟨51, [], .slice ao1 u0.length cap2⟩, ⟨52, [], .int .i64 (u0.length : Int)⟩, ⟨53, [], .int .u64 x6⟩, ⟨54, [], .int .u32 (wu32 x6)⟩, ⟨55, [], .pointer (some ⟨g277, (u0.length : Int).toNat * 1, none⟩)⟩] a471 := hF472.reg; clear hF472
   have hM474 : Mem w.heap.size [] w Z [.own (tyInt .u32) 105 (some ⟨g277, 0, none⟩) ((w64 ((u0.length : Int) + 1)).toNat) zg2770] Z wd299 := hM303; clear hM303
   refine so hF473 hM474 0 (T := (tyInt .u32)) (xs := zg2770) (u0.length : Int).toNat (wu32 x6) (u := .int .u32 (wu32 x6)) (nog rfl _) rfl rfl (by kernel_rfl) rfl (by kernel_rfl) rfl (by kernel_rfl) (by first | omega | (simp only [List.length_set] at *; omega)) rfl ?_; intro wd475 hM476; clear hM474
   have hF477 : Fr 58 [] [⟨0, [], .slice ao1 u0.length cap2⟩, ⟨1, [], .slice ao4 u1.length cap5⟩, ⟨5, [], .slice (some ⟨g277, 0, none⟩) (zg2770.set (u0.length : Int).toNat (wu32 x6)).length ((w64 ((u0.length : Int) + 1)).toNat)⟩, ⟨6, [], .int .u64 x6⟩, ⟨7, [], .int .i64 x7⟩, ⟨19, [], .int .i64 x7⟩, ⟨20, [], .slice ao1 u0.length cap2⟩, ⟨21, [], .int .i64 (u0.length : Int)⟩, ⟨22, [], .bool (decide (x7 < (u0.length : Int)))⟩, ⟨50, [], .slice (some ⟨g277, 0, none⟩) (zg2770.set (u0.length : Int).toNat (wu32 x6)).length ((w64 ((u0.length : Int) + 1)).toNat)⟩, ⟨51, [], .slice ao1 u0.length cap2⟩, ⟨52, [], .int .i64 (u0.length : Int)⟩, ⟨53, [], .int .u64 x6⟩, ⟨54, [], .int .u32 (wu32 x6)⟩, ⟨55, [], .pointer (some ⟨g277, (u0.length : Int).toNat * 1, none⟩)⟩] a471 := by (try simp only [List.length_set] at hF473); (try simp only [List.length_set]); exact hF473.reg
   clear hF473
   have hM478 : Mem w.heap.size [] w Z [.own (tyInt .u32) 105 (some ⟨g277, 0, none⟩) ((w64 ((u0.length : Int) + 1)).toNat) (zg2770.set (u0.length : Int).toNat (wu32 x6))] Z wd475 := hM476; clear hM476
   refine nlH (hQ456 _ _ ?_); clear hQ456 hQ456Q
   refine sqH ?_; intro hQ479Q hQ479
   refine s1 hF477 56 (.slice (some ⟨g277, 0, none⟩) (zg2770.set (u0.length : Int).toNat (wu32 x6)).length ((w64 ((u0.length : Int) + 1)).toNat)) ?_; intro a480 hF481; clear hF477
   obtain ⟨Z482, hle483, hM484, hs485⟩ := hM478.freeze 0 rfl
   replace hs3 := hs3.mono hle483
   replace hs6 := hs6.mono hle483
   replace hle0 := Fz.le.trans hle0 hle483
   have hM486 : Mem w.heap.size [] w Z [] Z482 wd475 := hM484; clear hM484
   refine cl hF481 86 #[.slice (some ⟨g277, 0, none⟩) (zg2770.set (u0.length : Int).toNat (wu32 x6)).length ((w64 ((u0.length : Int) + 1)).toNat)] (nog rfl _) rfl (by kernel_rfl) (by kernel_rfl) ?_
   refine (gtrim_fun (zg2770.set (u0.length : Int).toNat (wu32 x6)) (some ⟨g277, 0, none⟩) ((w64 ((u0.length : Int) + 1)).toNat) _ _ hs485 hM486.fz).mono ?_; rintro _ wd487 ⟨ao491, cap492, Z494, rfl, hs493, hm⟩; refine ⟨_, rfl, ?_⟩; intro a488 hF489; have hM490 := hM486.callZ hm; have hle495 := hm.ext.le; clear hm hM486 hF481
   replace hs3 := hs3.mono hle495
   replace hs6 := hs6.mono hle495
   replace hs485 := hs485.mono hle495
   replace hle0 := Fz.le.trans hle0 hle495
   have hM496 : Mem w.heap.size [] w Z [] Z494 wd487 := hM490; clear hM490
   have hp497 := hp468 (hs493.small); clear hp468
   refine s1 hF489 4 (.slice ao491 (gtrimS (zg2770.set (u0.length : Int).toNat (wu32 x6))).length cap492) ?_; intro a498 hF499; clear hF489
   refine nlH (hQ479 _ _ ?_); clear hQ479 hQ479Q
   refine wp_ret ?_
   refine rt (fn := Tryd.f70) (v := .slice ao491 (gtrimS (zg2770.set (u0.length : Int).toNat (wu32 x6))).length cap492) hF499 (re1 hF499 (fn := Tryd.f70) rfl (by kernel_rfl)) ?_
   exact ⟨(gtrimS (zg2770.set (u0.length : Int).toNat (wu32 x6))), ao491, cap492, Z494, rfl, hp497, hs493, hM496.keep (List.Sublist.slnil)⟩

set_option maxRecDepth 100000 in
set_option maxHeartbeats 0 in
theorem gmul_walk (u0 : List Int) (u1 : List Int) (ao1 : Option Addr) (cap2 : Nat) (ao4 : Option Addr) (cap5 : Nat) (Z : Fz) (w : World) (hs3 : SlR (tyInt .u32) Z ao1 cap2 u0) (hs6 : SlR (tyInt .u32) Z ao4 cap5 u1) (hZ : Z.on w) {K : (List Int) → Prop} (hp : gmul_vc u0 u1 K) : Calls Tryd.prog 71 #[.slice ao1 u0.length cap2, .slice ao4 u1.length cap5] w fun e w' => ∃ (r : (List Int)) (ao1001 : Option Addr) (cap1002 : Nat) (Z' : Fz), e = .returned (.slice ao1001 r.length cap1002) ∧ K r ∧ SlR (tyInt .u32) Z' ao1001 cap1002 r ∧ Mem w.heap.size [] w Z [] Z' w' := by
 refine enter0 Tryd.func71 rfl rfl (by kernel_rfl) ?_; intro a0 hF0; have hM0 := Mem.start w Z hZ; have hle0 := Fz.le.refl Z
 have hp7 := hp (hs3.small); clear hp
 have hp8 := hp7 (hs6.small); clear hp7
 refine sqH ?_; intro hQ9Q hQ9
 refine s1 hF0 4 (.slice none 0 0) ?_; intro a10 hF11; clear hF0
 refine nlH (hQ9 _ _ ?_); clear hQ9 hQ9Q
 refine wp_seq ?_
 refine sqH ?_; intro hQ12Q hQ12
 refine s1 hF11 9 (.slice ao1 u0.length cap2) ?_; intro a13 hF14; clear hF11
 refine s1 hF14 10 (.int .i64 (u0.length : Int)) ?_; intro a15 hF16; clear hF14
 refine s1 hF16 11 (.bool ((u0.length : Int) == 0)) ?_; intro a17 hF18; clear hF16
 refine s1 hF18 12 (.bool ((u0.length : Int) == 0)) ?_; intro a19 hF20; clear hF18
 have hF21 := hF20.atom (((u0.length : Int) == 0) == false) (by kernel_rfl); clear hF20
 refine gp hF21 13 0 [] ((u0.length : Int) == 0) (.slice ao4 u1.length cap5) rfl rfl ?_; intro a22 hF23; clear hF21
 refine gp hF23 14 0 [] ((u0.length : Int) == 0) (.int .i64 (u1.length : Int)) rfl rfl ?_; intro a24 hF25; clear hF23
 refine gp hF25 15 0 [] ((u0.length : Int) == 0) (.bool ((u1.length : Int) == 0)) rfl rfl ?_; intro a26 hF27; clear hF25
 refine st hF27 (.bool (((u0.length : Int) == 0) || ((u1.length : Int) == 0))) (nog rfl _) rfl (by kernel_rfl) (pk_or hF27 (g := []) (m := 0) (b := (u0.length : Int) == 0) (v := (u1.length : Int) == 0) rfl (by kernel_rfl) (by kernel_rfl) (by kernel_rfl) rfl) ?_; intro a28 hF29; clear hF27
 refine nlH (hQ12 _ _ ?_); clear hQ12 hQ12Q
 refine cd hF29 (t := ((u0.length : Int) == 0) || ((u1.length : Int) == 0)) (by kernel_rfl) (fun hb30 => ?_) (fun hb30 => ?_)
 ·
  have hp31 := hp8.1 hb30; clear hp8
  have hF32 : Fr 75 [] [] a28 := hF29.reg; clear hF29
  refine sqH ?_; intro hQ33Q hQ33
  refine s1 hF32 4 (.slice none 0 0) ?_; intro a34 hF35; clear hF32
  refine nlH (hQ33 _ _ ?_); clear hQ33 hQ33Q
  refine wp_ret ?_
  refine thr ?_
  refine rt (fn := Tryd.f71) (v := .slice none 0 0) hF35 (re1 hF35 (fn := Tryd.f71) rfl (by kernel_rfl)) ?_
  exact ⟨[], none, 0, Z, rfl, hp31, (SlR.nil _ _), hM0.keep (List.Sublist.slnil)⟩
 ·
  have hp36 := hp8.2 hb30; clear hp8
  refine wp_skip ?_
  refine thn ?_
  have hF37 : Fr 75 [] [⟨0, [], .slice ao1 u0.length cap2⟩, ⟨1, [], .slice ao4 u1.length cap5⟩] a28 := hF29.reg; clear hF29
  refine sqH ?_; intro hQ38Q hQ38
  refine s1 hF37 17 (.slice ao1 u0.length cap2) ?_; intro a39 hF40; clear hF37
  refine s1 hF40 18 (.int .i64 (u0.length : Int)) ?_; intro a41 hF42; clear hF40
  refine s1 hF42 19 (.slice ao4 u1.length cap5) ?_; intro a43 hF44; clear hF42
  refine s1 hF44 20 (.int .i64 (u1.length : Int)) ?_; intro a45 hF46; clear hF44
  refine s1 hF46 21 (.int .i64 (w64 ((u0.length : Int) + (u1.length : Int)))) ?_; intro a47 hF48; clear hF46
  have hc49 := hp36.1; have hp50 := hp36.2; clear hp36
  refine mks hF48 hM0 (T := (tyInt .u32)) (w64 ((u0.length : Int) + (u1.length : Int))) (w64 ((u0.length : Int) + (u1.length : Int))) (k := .i64) (k' := .i64) (e := 105) (bytes := 4) (zs := [.int .u32 0]) (z := 0) (by simp only [lim]; omega) (nog rfl _) rfl (by kernel_rfl) rfl (by kernel_rfl) (by kernel_rfl) (by kernel_rfl) (by kernel_rfl) rfl ?_; intro g51 a54 wd52 hF55 hM53; clear hF48 hM0
  have hM56 : Mem w.heap.size [] w Z [.own (tyInt .u32) 105 (some ⟨g51, 0, none⟩) ((w64 ((u0.length : Int) + (u1.length : Int))).toNat) (List.replicate (w64 ((u0.length : Int) + (u1.length : Int))).toNat (0 : Int))] Z wd52 := hM53; clear hM53
  refine s1 hF55 5 (.slice (some ⟨g51, 0, none⟩) (List.replicate (w64 ((u0.length : Int) + (u1.length : Int))).toNat (0 : Int)).length ((w64 ((u0.length : Int) + (u1.length : Int))).toNat)) ?_; intro a57 hF58; clear hF55
  refine nlH (hQ38 _ _ ?_); clear hQ38 hQ38Q
  refine wp_seq ?_
  refine sqH ?_; intro hQ59Q hQ59
  refine s1 hF58 6 (.int .i64 0) ?_; intro a60 hF61; clear hF58
  refine nlH (hQ59 _ _ ?_); clear hQ59 hQ59Q
  refine wp_block ?_
  have hF62 : Fr 75 [] [⟨0, [], .slice ao1 u0.length cap2⟩, ⟨1, [], .slice ao4 u1.length cap5⟩, ⟨5, [], .slice (some ⟨g51, 0, none⟩) (List.replicate (w64 ((u0.length : Int) + (u1.length : Int))).toNat (0 : Int)).length ((w64 ((u0.length : Int) + (u1.length : Int))).toNat)⟩, ⟨6, [], .int .i64 0⟩] a60 := hF61.reg; clear hF61
  have hF64 : Fr 75 [] [⟨0, [], .slice ao1 u0.length cap2⟩, ⟨1, [], .slice ao4 u1.length cap5⟩, ⟨5, [], .slice (some ⟨g51, 0, none⟩) (List.replicate (w64 ((u0.length : Int) + (u1.length : Int))).toNat (0 : Int)).length ((w64 ((u0.length : Int) + (u1.length : Int))).toNat)⟩, ⟨6, [], .int .i64 0⟩] a60 := hF62.reg; clear hF62
  obtain ⟨inv63, mu63, hI67, hr66⟩ := hp50
  refine lp (ι := Int × (List Int)) (fun (s : Int × (List Int)) => [⟨0, [], .slice ao1 u0.length cap2⟩, ⟨1, [], .slice ao4 u1.length cap5⟩, ⟨5, [], .slice (some ⟨g51, 0, none⟩) s.2.length ((w64 ((u0.length : Int) + (u1.length : Int))).toNat)⟩, ⟨6, [], .int .i64 s.1⟩]) (fun (s : Int × (List Int)) => [.own (tyInt .u32) 105 (some ⟨g51, 0, none⟩) ((w64 ((u0.length : Int) + (u1.length : Int))).toNat) s.2]) (fun (s : Int × (List Int)) => Z) (fun (s : Int × (List Int)) => inv63 s.1 s.2) (fun (s : Int × (List Int)) => mu63 s.1 s.2) ⟨0, (List.replicate (w64 ((u0.length : Int) + (u1.length : Int))).toNat (0 : Int))⟩ hI67 (by exact hF64.reg) (by exact hM56) ?_
  rintro ⟨x6, zg510⟩ hI65 a69 wd70 hF71 hM72
  have hF73 : Fr 75 [] [⟨0, [], .slice ao1 u0.length cap2⟩, ⟨1, [], .slice ao4 u1.length cap5⟩, ⟨5, [], .slice (some ⟨g51, 0, none⟩) zg510.length ((w64 ((u0.length : Int) + (u1.length : Int))).toNat)⟩, ⟨6, [], .int .i64 x6⟩] a69 := hF71; clear hF71 hF64
  have hM74 : Mem w.heap.size [] w Z [.own (tyInt .u32) 105 (some ⟨g51, 0, none⟩) ((w64 ((u0.length : Int) + (u1.length : Int))).toNat) zg510] Z wd70 := hM72; clear hM72 hM56
  have hp75 := hr66 x6 zg510 hI65
  refine wp_seq ?_
  refine sqH ?_; intro hQ76Q hQ76
  refine s1 hF73 23 (.int .i64 x6) ?_; intro a77 hF78; clear hF73
  refine s1 hF78 24 (.slice ao1 u0.length cap2) ?_; intro a79 hF80; clear hF78
  refine s1 hF80 25 (.int .i64 (u0.length : Int)) ?_; intro a81 hF82; clear hF80
  refine s1 hF82 26 (.bool (decide (x6 < (u0.length : Int)))) ?_; intro a83 hF84; clear hF82
  refine nlH (hQ76 _ _ ?_); clear hQ76 hQ76Q
  refine cd hF84 (t := decide (x6 < (u0.length : Int))) (by kernel_rfl) (fun hb85 => ?_) (fun hb85 => ?_)
  ·
   have hp86 := hp75.1 hb85; clear hp75
   refine wp_skip ?_
   refine thn ?_
   refine wp_seq ?_
   refine wp_block ?_
   refine sqH ?_; intro hQ87Q hQ87
   refine s1 hF84 7 (.int .u64 0) ?_; intro a88 hF89; clear hF84
   refine nlH (hQ87 _ _ ?_); clear hQ87 hQ87Q
   refine wp_seq ?_
   refine sqH ?_; intro hQ90Q hQ90
   refine s1 hF89 8 (.int .i64 0) ?_; intro a91 hF92; clear hF89
   refine nlH (hQ90 _ _ ?_); clear hQ90 hQ90Q
   refine wp_block ?_
   have hF93 : Fr 75 [] [⟨0, [], .slice ao1 u0.length cap2⟩, ⟨1, [], .slice ao4 u1.length cap5⟩, ⟨5, [], .slice (some ⟨g51, 0, none⟩) zg510.length ((w64 ((u0.length : Int) + (u1.length : Int))).toNat)⟩, ⟨6, [], .int .i64 x6⟩, ⟨7, [], .int .u64 0⟩, ⟨8, [], .int .i64 0⟩] a91 := hF92.reg; clear hF92
   have hF95 : Fr 75 [] [⟨0, [], .slice ao1 u0.length cap2⟩, ⟨1, [], .slice ao4 u1.length cap5⟩, ⟨5, [], .slice (some ⟨g51, 0, none⟩) zg510.length ((w64 ((u0.length : Int) + (u1.length : Int))).toNat)⟩, ⟨6, [], .int .i64 x6⟩, ⟨7, [], .int .u64 0⟩, ⟨8, [], .int .i64 0⟩] a91 := hF93.reg; clear hF93
   obtain ⟨inv94, mu94, hI98, hr97⟩ := hp86
   refine lp (ι := Int × Int × (List Int)) (fun (s : Int × Int × (List Int)) => [⟨0, [], .slice ao1 u0.length cap2⟩, ⟨1, [], .slice ao4 u1.length cap5⟩, ⟨5, [], .slice (some ⟨g51, 0, none⟩) s.2.2.length ((w64 ((u0.length : Int) + (u1.length : Int))).toNat)⟩, ⟨6, [], .int .i64 x6⟩, ⟨7, [], .int .u64 s.1⟩, ⟨8, [], .int .i64 s.2.1⟩]) (fun (s : Int × Int × (List Int)) => [.own (tyInt .u32) 105 (some ⟨g51, 0, none⟩) ((w64 ((u0.length : Int) + (u1.length : Int))).toNat) s.2.2]) (fun (s : Int × Int × (List Int)) => Z) (fun (s : Int × Int × (List Int)) => inv94 s.1 s.2.1 s.2.2) (fun (s : Int × Int × (List Int)) => mu94 s.1 s.2.1 s.2.2) ⟨0, 0, zg510⟩ hI98 (by exact hF95.reg) (by exact hM74) ?_
   rintro ⟨x7, x8, zg510v⟩ hI96 a100 wd101 hF102 hM103
   have hF104 : Fr 75 [] [⟨0, [], .slice ao1 u0.length cap2⟩, ⟨1, [], .slice ao4 u1.length cap5⟩, ⟨5, [], .slice (some ⟨g51, 0, none⟩) zg510v.length ((w64 ((u0.length : Int) + (u1.length : Int))).toNat)⟩, ⟨6, [], .int .i64 x6⟩, ⟨7, [], .int .u64 x7⟩, ⟨8, [], .int .i64 x8⟩] a100 := hF102; clear hF102 hF95
   have hM105 : Mem w.heap.size [] w Z [.own (tyInt .u32) 105 (some ⟨g51, 0, none⟩) ((w64 ((u0.length : Int) + (u1.length : Int))).toNat) zg510v] Z wd101 := hM103; clear hM103 hM74
   have hp106 := hr97 x7 x8 zg510v hI96
   refine wp_seq ?_
   refine sqH ?_; intro hQ107Q hQ107
   refine s1 hF104 29 (.int .i64 x8) ?_; intro a108 hF109; clear hF104
   refine s1 hF109 30 (.slice ao4 u1.length cap5) ?_; intro a110 hF111; clear hF109
   refine s1 hF111 31 (.int .i64 (u1.length : Int)) ?_; intro a112 hF113; clear hF111
   refine s1 hF113 32 (.bool (decide (x8 < (u1.length : Int)))) ?_; intro a114 hF115; clear hF113
   refine nlH (hQ107 _ _ ?_); clear hQ107 hQ107Q
   refine cd hF115 (t := decide (x8 < (u1.length : Int))) (by kernel_rfl) (fun hb116 => ?_) (fun hb116 => ?_)
   ·
    have hp117 := hp106.1 hb116; clear hp106
    refine wp_skip ?_
    refine thn ?_
    refine wp_seq ?_
    refine wp_block ?_
    have hF118 : Fr 75 [] [⟨0, [], .slice ao1 u0.length cap2⟩, ⟨1, [], .slice ao4 u1.length cap5⟩, ⟨5, [], .slice (some ⟨g51, 0, none⟩) zg510v.length ((w64 ((u0.length : Int) + (u1.length : Int))).toNat)⟩, ⟨6, [], .int .i64 x6⟩, ⟨7, [], .int .u64 x7⟩, ⟨8, [], .int .i64 x8⟩] a114 := hF115.reg; clear hF115
    have hcd3_0 := hp117.1; have hp184 := hp117.2; clear hp117
    obtain ⟨qd3_1, hqd3_1⟩ : ∃ q, u0[x6.toNat]? = some q := ⟨_, List.getElem?_eq_getElem (by omega)⟩; have hp185 := hp184 qd3_1 hqd3_1; clear hp184
    have hcd8_0 := hp185.1; have hp186 := hp185.2; clear hp185
    obtain ⟨qd8_1, hqd8_1⟩ : ∃ q, u1[x8.toNat]? = some q := ⟨_, List.getElem?_eq_getElem (by omega)⟩; have hp187 := hp186 qd8_1 hqd8_1; clear hp186
    have hcd16_0 := hp187.1; have hp188 := hp187.2; clear hp187
    obtain ⟨qd17_0, hqd17_0⟩ : ∃ q, zg510v[(w64 (x6 + x8)).toNat]? = some q := ⟨_, List.getElem?_eq_getElem (by omega)⟩; have hp189 := hp188 qd17_0 hqd17_0; clear hp188
    refine wp_seq (any_invE mixed [[], [], [], [1, 2], [3], [4], [], [], [6, 7], [8], [9], [5, 10], [], [], [], [13, 14], [12, 15], [16], [17], [11, 18], [0, 19], [0, 1, 2, 3, 4, 5, 6, 7, 8, 9, 10, 11, 12, 13, 14, 15, 16, 17, 18, 19, 20]] 22 (fun S a w1 => ∃ (b125 : Nat) (off126 : Nat) (b142 : Nat) (off143 : Nat) (g165 : Nat) (ud7 : Value) (ud35 : Value) (ud36 : Value) (ud37 : Value) (ud38 : Value) (ud39 : Value) (ud40 : Value) (ud41 : Value) (ud42 : Value) (ud43 : Value) (ud44 : Value) (ud45 : Value) (ud46 : Value) (ud47 : Value) (ud48 : Value) (ud49 : Value) (ud50 : Value) (ud51 : Value) (ud52 : Value) (ud53 : Value) (ud54 : Value) (ud55 : Value) (rh0 : Res), Fz.le Z Z ∧ Fr 75 [] [⟨0, [], .slice ao1 u0.length cap2⟩, ⟨1, [], .slice ao4 u1.length cap5⟩, ⟨5, [], .slice (some ⟨g51, 0, none⟩) zg510v.length ((w64 ((u0.length : Int) + (u1.length : Int))).toNat)⟩, ⟨6, [], .int .i64 x6⟩, ⟨7, [], ud7⟩, ⟨8, [], .int .i64 x8⟩, ⟨35, [], ud35⟩, ⟨36, [], ud36⟩, ⟨37, [], ud37⟩, ⟨38, [], ud38⟩, ⟨39, [], ud39⟩, ⟨40, [], ud40⟩, ⟨41, [], ud41⟩, ⟨42, [], ud42⟩, ⟨43, [], ud43⟩, ⟨44, [], ud44⟩, ⟨45, [], ud45⟩, ⟨46, [], ud46⟩, ⟨47, [], ud47⟩, ⟨48, [], ud48⟩, ⟨49, [], ud49⟩, ⟨50, [], ud50⟩, ⟨51, [], ud51⟩, ⟨52, [], ud52⟩, ⟨53, [], ud53⟩, ⟨54, [], ud54⟩, ⟨55, [], ud55⟩] a ∧ Mem w.heap.size [] w Z [rh0] Z w1 ∧ (S 21 = true → ud7 = .int .u64 (wu64 (x7 + (wu64 ((wu64 ((wu64 qd3_1) * (wu64 qd8_1))) + (wu64 qd17_0)))))) ∧ (S 21 = false → ud7 = .int .u64 x7) ∧ (S 0 = true → ud35 = .int .u64 x7) ∧ (S 1 = true → ud36 = .slice ao1 u0.length cap2) ∧ (S 2 = true → ud37 = .int .i64 x6) ∧ (S 3 = true → ud38 = .pointer (some ⟨b125, off126, none⟩)) ∧ (S 4 = true → ud39 = .int .u32 qd3_1) ∧ (S 5 = true → ud40 = .int .u64 (wu64 qd3_1)) ∧ (S 6 = true → ud41 = .slice ao4 u1.length cap5) ∧ (S 7 = true → ud42 = .int .i64 x8) ∧ (S 8 = true → ud43 = .pointer (some ⟨b142, off143, none⟩)) ∧ (S 9 = true → ud44 = .int .u32 qd8_1) ∧ (S 10 = true → ud45 = .int .u64 (wu64 qd8_1)) ∧ (S 11 = true → ud46 = .int .u64 (wu64 ((wu64 qd3_1) * (wu64 qd8_1)))) ∧ (S 12 = true → ud47 = .slice (some ⟨g51, 0, none⟩) zg510v.length ((w64 ((u0.length : Int) + (u1.length : Int))).toNat)) ∧ (S 13 = true → ud48 = .int .i64 x6) ∧ (S 14 = true → ud49 = .int .i64 x8) ∧ (S 15 = true → ud50 = .int .i64 (w64 (x6 + x8))) ∧ (S 16 = true → ud51 = .pointer (some ⟨g51, (w64 (x6 + x8)).toNat * 1, none⟩)) ∧ (S 17 = true → ud52 = .int .u32 qd17_0) ∧ (S 18 = true → ud53 = .int .u64 (wu64 qd17_0)) ∧ (S 19 = true → ud54 = .int .u64 (wu64 ((wu64 ((wu64 qd3_1) * (wu64 qd8_1))) + (wu64 qd17_0)))) ∧ (S 20 = true → ud55 = .int .u64 (wu64 (x7 + (wu64 ((wu64 ((wu64 qd3_1) * (wu64 qd8_1))) + (wu64 qd17_0)))))) ∧ (rh0 = .own (tyInt .u32) 105 (some ⟨g51, 0, none⟩) ((w64 ((u0.length : Int) + (u1.length : Int))).toNat) zg510v) ∧ (S 3 = true → PtR Z b125 off126 [.int .u32 qd3_1]) ∧ (S 8 = true → PtR Z b142 off143 [.int .u32 qd8_1])) ?h0 ?hs ?hE)
    case h0 =>
     have hF191 := hF118.any 35
     have hF192 := hF191.any 36
     have hF193 := hF192.any 37
     have hF194 := hF193.any 38
     have hF195 := hF194.any 39
     have hF196 := hF195.any 40
     have hF197 := hF196.any 41
     have hF198 := hF197.any 42
     have hF199 := hF198.any 43
     have hF200 := hF199.any 44
     have hF201 := hF200.any 45
     have hF202 := hF201.any 46
     have hF203 := hF202.any 47
     have hF204 := hF203.any 48
     have hF205 := hF204.any 49
     have hF206 := hF205.any 50
     have hF207 := hF206.any 51
     have hF208 := hF207.any 52
     have hF209 := hF208.any 53
     have hF210 := hF209.any 54
     have hF211 := hF210.any 55
     have hM212 := (hM105.perm lpr).drew
     exact ⟨0, 0, 0, 0, 0, .int .u64 x7, a114.tmps.getD 35 undef, a114.tmps.getD 36 undef, a114.tmps.getD 37 undef, a114.tmps.getD 38 undef, a114.tmps.getD 39 undef, a114.tmps.getD 40 undef, a114.tmps.getD 41 undef, a114.tmps.getD 42 undef, a114.tmps.getD 43 undef, a114.tmps.getD 44 undef, a114.tmps.getD 45 undef, a114.tmps.getD 46 undef, a114.tmps.getD 47 undef, a114.tmps.getD 48 undef, a114.tmps.getD 49 undef, a114.tmps.getD 50 undef, a114.tmps.getD 51 undef, a114.tmps.getD 52 undef, a114.tmps.getD 53 undef, a114.tmps.getD 54 undef, a114.tmps.getD 55 undef, .own (tyInt .u32) 105 (some ⟨g51, 0, none⟩) ((w64 ((u0.length : Int) + (u1.length : Int))).toNat) zg510v, Fz.le.refl _, hF211.reg, hM212, ff, kf, ff, ff, ff, ff, ff, ff, ff, ff, ff, ff, ff, ff, ff, ff, ff, ff, ff, ff, ff, ff, ff, rfl, ff, ff⟩
    case hs =>
     intro S hcl i o hil hi hSi hpre a w1 hI; refine Go.Sy.hid ?_; intro G hG; obtain ⟨b125, off126, b142, off143, g165, ud7, ud35, ud36, ud37, ud38, ud39, ud40, ud41, ud42, ud43, ud44, ud45, ud46, ud47, ud48, ud49, ud50, ud51, ud52, ud53, ud54, ud55, rh0, hle190, hFx, hMx, cu7, cz7, cu35, cu36, cu37, cu38, cu39, cu40, cu41, cu42, cu43, cu44, cu45, cu46, cu47, cu48, cu49, cu50, cu51, cu52, cu53, cu54, cu55, cr0_0, cf0, hI⟩ := hI; have cf1 := hI; clear hI
     have hcase : i = 0 ∨ i = 1 ∨ i = 2 ∨ i = 3 ∨ i = 4 ∨ i = 5 ∨ i = 6 ∨ i = 7 ∨ i = 8 ∨ i = 9 ∨ i = 10 ∨ i = 11 ∨ i = 12 ∨ i = 13 ∨ i = 14 ∨ i = 15 ∨ i = 16 ∨ i = 17 ∨ i = 18 ∨ i = 19 ∨ i = 20 ∨ i = 21 := by clear hi; omega
     rcases hcase with rfl | rfl | rfl | rfl | rfl | rfl | rfl | rfl | rfl | rfl | rfl | rfl | rfl | rfl | rfl | rfl | rfl | rfl | rfl | rfl | rfl | rfl
     ·
      obtain rfl := oj hi
      have hx0 := hSi
      have hx20 := ngF hcl 20 0 hx0
      have hx21 := ngF hcl 21 0 hx0
      obtain rfl := cz7 hx21
      obtain rfl := cr0_0
      refine hG (any_step ?_); clear hG G; intro A J hJ
      have hle0 := Fz.le.trans hle0 hle190
      have hs213 := hs3.mono hle190
      have hs214 := hs6.mono hle190
      refine s1 hFx 35 (.int .u64 x7) ?_; intro a215 hF216; clear hFx
      refine nl (qnI (hJ _ _ ?_)); clear hJ J
      exact ⟨b125, off126, b142, off143, g165, .int .u64 x7, .int .u64 x7, ud36, ud37, ud38, ud39, ud40, ud41, ud42, ud43, ud44, ud45, ud46, ud47, ud48, ud49, ud50, ud51, ud52, ud53, ud54, ud55, .own (tyInt .u32) 105 (some ⟨g51, 0, none⟩) ((w64 ((u0.length : Int) + (u1.length : Int))).toNat) zg510v, hle190, hF216.reg, hMx.perm lpr, (nt hx21), kf, kf, cu36, cu37, cu38, cu39, cu40, cu41, cu42, cu43, cu44, cu45, cu46, cu47, cu48, cu49, cu50, cu51, cu52, cu53, cu54, (nt hx20), rfl, cf0, cf1⟩
     ·
      obtain rfl := oj hi
      have hx1 := hSi
      have hx3 := ngF hcl 3 1 hx1
      have hx4 := ngF hcl 4 3 hx3
      have hx5 := ngF hcl 5 4 hx4
      have hx11 := ngF hcl 11 5 hx5
      have hx19 := ngF hcl 19 11 hx11
      have hx20 := ngF hcl 20 19 hx19
      have hx21 := ngF hcl 21 1 hx1
      obtain rfl := cz7 hx21
      obtain rfl := cr0_0
      refine hG (any_step ?_); clear hG G; intro A J hJ
      have hle0 := Fz.le.trans hle0 hle190
      have hs218 := hs3.mono hle190
      have hs219 := hs6.mono hle190
      refine s1 hFx 36 (.slice ao1 u0.length cap2) ?_; intro a220 hF221; clear hFx
      refine nl (qnI (hJ _ _ ?_)); clear hJ J
      exact ⟨b125, off126, b142, off143, g165, .int .u64 x7, ud35, .slice ao1 u0.length cap2, ud37, ud38, ud39, ud40, ud41, ud42, ud43, ud44, ud45, ud46, ud47, ud48, ud49, ud50, ud51, ud52, ud53, ud54, ud55, .own (tyInt .u32) 105 (some ⟨g51, 0, none⟩) ((w64 ((u0.length : Int) + (u1.length : Int))).toNat) zg510v, hle190, hF221.reg, hMx.perm lpr, (nt hx21), kf, cu35, kf, cu37, (nt hx3), (nt hx4), (nt hx5), cu41, cu42, cu43, cu44, cu45, (nt hx11), cu47, cu48, cu49, cu50, cu51, cu52, cu53, (nt hx19), (nt hx20), rfl, (nt hx3), cf1⟩
     ·
      obtain rfl := oj hi
      have hx2 := hSi
      have hx3 := ngF hcl 3 2 hx2
      have hx4 := ngF hcl 4 3 hx3
      have hx5 := ngF hcl 5 4 hx4
      have hx11 := ngF hcl 11 5 hx5
      have hx19 := ngF hcl 19 11 hx11
      have hx20 := ngF hcl 20 19 hx19
      have hx21 := ngF hcl 21 2 hx2
      obtain rfl := cz7 hx21
      obtain rfl := cr0_0
      refine hG (any_step ?_); clear hG G; intro A J hJ
      have hle0 := Fz.le.trans hle0 hle190
      have hs223 := hs3.mono hle190
      have hs224 := hs6.mono hle190
      refine s1 hFx 37 (.int .i64 x6) ?_; intro a225 hF226; clear hFx
      refine nl (qnI (hJ _ _ ?_)); clear hJ J
      exact ⟨b125, off126, b142, off143, g165, .int .u64 x7, ud35, ud36, .int .i64 x6, ud38, ud39, ud40, ud41, ud42, ud43, ud44, ud45, ud46, ud47, ud48, ud49, ud50, ud51, ud52, ud53, ud54, ud55, .own (tyInt .u32) 105 (some ⟨g51, 0, none⟩) ((w64 ((u0.length : Int) + (u1.length : Int))).toNat) zg510v, hle190, hF226.reg, hMx.perm lpr, (nt hx21), kf, cu35, cu36, kf, (nt hx3), (nt hx4), (nt hx5), cu41, cu42, cu43, cu44, cu45, (nt hx11), cu47, cu48, cu49, cu50, cu51, cu52, cu53, (nt hx19), (nt hx20), rfl, (nt hx3), cf1⟩
     ·
      obtain rfl := oj hi
      have hx2 := hpre 2 (by kernel_rfl)
      have hx1 := hpre 1 (by kernel_rfl)
      have hx3 := hSi
      have hx4 := ngF hcl 4 3 hx3
      have hx5 := ngF hcl 5 4 hx4
      have hx11 := ngF hcl 11 5 hx5
      have hx19 := ngF hcl 19 11 hx11
      have hx20 := ngF hcl 20 19 hx19
      have hx21 := ngF hcl 21 3 hx3
      obtain rfl := cz7 hx21
      obtain rfl := cu36 hx1
      obtain rfl := cu37 hx2
      obtain rfl := cr0_0
      refine hG (any_step ?_); clear hG G; intro A J hJ
      have hle0 := Fz.le.trans hle0 hle190
      have hs228 := hs3.mono hle190
      have hs229 := hs6.mono hle190
      refine ix hFx (T := (tyInt .u32)) (xs := u0) hs228 x6 hcd3_0 (k := .i64) (e := 105) (bytes := 4) (nog rfl _) rfl (by kernel_rfl) rfl (by kernel_rfl) (by kernel_rfl) (by kernel_rfl) ?_; intro b230 off231 cs232 q233 a237 hq234 hP235 hT236 hF238; clear hFx
      obtain rfl : qd3_1 = q233 := oj (hqd3_1.symm.trans hq234)
      obtain rfl : cs232 = ([.int .u32 qd3_1] : List Value) := hT236
      refine nl (qnI (hJ _ _ ?_)); clear hJ J
      exact ⟨b230, off231, b142, off143, g165, .int .u64 x7, ud35, .slice ao1 u0.length cap2, .int .i64 x6, .pointer (some ⟨b230, off231, none⟩), ud39, ud40, ud41, ud42, ud43, ud44, ud45, ud46, ud47, ud48, ud49, ud50, ud51, ud52, ud53, ud54, ud55, .own (tyInt .u32) 105 (some ⟨g51, 0, none⟩) ((w64 ((u0.length : Int) + (u1.length : Int))).toNat) zg510v, hle190, hF238.reg, hMx.perm lpr, (nt hx21), kf, cu35, kf, kf, kf, (nt hx4), (nt hx5), cu41, cu42, cu43, cu44, cu45, (nt hx11), cu47, cu48, cu49, cu50, cu51, cu52, cu53, (nt hx19), (nt hx20), rfl, (fun _ => hP235), cf1⟩
     ·
      obtain rfl := oj hi
      have hx3 := hpre 3 (by kernel_rfl)
      have hx2 := hcl 3 2 (by kernel_rfl) hx3
      have hx1 := hcl 3 1 (by kernel_rfl) hx3
      have hx4 := hSi
      have hx5 := ngF hcl 5 4 hx4
      have hx11 := ngF hcl 11 5 hx5
      have hx19 := ngF hcl 19 11 hx11
      have hx20 := ngF hcl 20 19 hx19
      have hx21 := ngF hcl 21 4 hx4
      obtain rfl := cz7 hx21
      obtain rfl := cu36 hx1
      obtain rfl := cu37 hx2
      obtain rfl := cu38 hx3
      obtain rfl := cr0_0
      refine hG (any_step ?_); clear hG G; intro A J hJ
      have hle0 := Fz.le.trans hle0 hle190
      have hs240 := hs3.mono hle190
      have hs241 := hs6.mono hle190
      have hs242 := cf0 hx3
      refine z1 hFx hMx 39 hs242 0 (.int .u32 qd3_1) rfl ?_; intro a243 hF244; clear hFx
      refine nl (qnI (hJ _ _ ?_)); clear hJ J
      exact ⟨b125, off126, b142, off143, g165, .int .u64 x7, ud35, .slice ao1 u0.length cap2, .int .i64 x6, .pointer (some ⟨b125, off126, none⟩), .int .u32 qd3_1, ud40, ud41, ud42, ud43, ud44, ud45, ud46, ud47, ud48, ud49, ud50, ud51, ud52, ud53, ud54, ud55, .own (tyInt .u32) 105 (some ⟨g51, 0, none⟩) ((w64 ((u0.length : Int) + (u1.length : Int))).toNat) zg510v, hle190, hF244.reg, hMx.perm lpr, (nt hx21), kf, cu35, kf, kf, kf, kf, (nt hx5), cu41, cu42, cu43, cu44, cu45, (nt hx11), cu47, cu48, cu49, cu50, cu51, cu52, cu53, (nt hx19), (nt hx20), rfl, (fun _ => hs242), cf1⟩
     ·
      obtain rfl := oj hi
      have hx4 := hpre 4 (by kernel_rfl)
      have hx3 := hcl 4 3 (by kernel_rfl) hx4
      have hx2 := hcl 3 2 (by kernel_rfl) hx3
      have hx1 := hcl 3 1 (by kernel_rfl) hx3
      have hx5 := hSi
      have hx11 := ngF hcl 11 5 hx5
      have hx19 := ngF hcl 19 11 hx11
      have hx20 := ngF hcl 20 19 hx19
      have hx21 := ngF hcl 21 5 hx5
      obtain rfl := cz7 hx21
      obtain rfl := cu36 hx1
      obtain rfl := cu37 hx2
      obtain rfl := cu38 hx3
      obtain rfl := cu39 hx4
      obtain rfl := cr0_0
      refine hG (any_step ?_); clear hG G; intro A J hJ
      have hle0 := Fz.le.trans hle0 hle190
      have hs246 := hs3.mono hle190
      have hs247 := hs6.mono hle190
      have hs248 := cf0 hx3
      refine s1 hFx 40 (.int .u64 (wu64 qd3_1)) ?_; intro a249 hF250; clear hFx
      refine nl (qnI (hJ _ _ ?_)); clear hJ J
      exact ⟨b125, off126, b142, off143, g165, .int .u64 x7, ud35, .slice ao1 u0.length cap2, .int .i64 x6, .pointer (some ⟨b125, off126, none⟩), .int .u32 qd3_1, .int .u64 (wu64 qd3_1), ud41, ud42, ud43, ud44, ud45, ud46, ud47, ud48, ud49, ud50, ud51, ud52, ud53, ud54, ud55, .own (tyInt .u32) 105 (some ⟨g51, 0, none⟩) ((w64 ((u0.length : Int) + (u1.length : Int))).toNat) zg510v, hle190, hF250.reg, hMx.perm lpr, (nt hx21), kf, cu35, kf, kf, kf, kf, kf, cu41, cu42, cu43, cu44, cu45, (nt hx11), cu47, cu48, cu49, cu50, cu51, cu52, cu53, (nt hx19), (nt hx20), rfl, (fun _ => hs248), cf1⟩
     ·
      obtain rfl := oj hi
      have hx6 := hSi
      have hx8 := ngF hcl 8 6 hx6
      have hx9 := ngF hcl 9 8 hx8
      have hx10 := ngF hcl 10 9 hx9
      have hx11 := ngF hcl 11 10 hx10
      have hx19 := ngF hcl 19 11 hx11
      have hx20 := ngF hcl 20 19 hx19
      have hx21 := ngF hcl 21 6 hx6
      obtain rfl := cz7 hx21
      obtain rfl := cr0_0
      refine hG (any_step ?_); clear hG G; intro A J hJ
      have hle0 := Fz.le.trans hle0 hle190
      have hs252 := hs3.mono hle190
      have hs253 := hs6.mono hle190
      refine s1 hFx 41 (.slice ao4 u1.length cap5) ?_; intro a254 hF255; clear hFx
      refine nl (qnI (hJ _ _ ?_)); clear hJ J
      exact ⟨b125, off126, b142, off143, g165, .int .u64 x7, ud35, ud36, ud37, ud38, ud39, ud40, .slice ao4 u1.length cap5, ud42, ud43, ud44, ud45, ud46, ud47, ud48, ud49, ud50, ud51, ud52, ud53, ud54, ud55, .own (tyInt .u32) 105 (some ⟨g51, 0, none⟩) ((w64 ((u0.length : Int) + (u1.length : Int))).toNat) zg510v, hle190, hF255.reg, hMx.perm lpr, (nt hx21), kf, cu35, cu36, cu37, cu38, cu39, cu40, kf, cu42, (nt hx8), (nt hx9), (nt hx10), (nt hx11), cu47, cu48, cu49, cu50, cu51, cu52, cu53, (nt hx19), (nt hx20), rfl, cf0, (nt hx8)⟩
     ·
      obtain rfl := oj hi
      have hx7 := hSi
      have hx8 := ngF hcl 8 7 hx7
      have hx9 := ngF hcl 9 8 hx8
      have hx10 := ngF hcl 10 9 hx9
      have hx11 := ngF hcl 11 10 hx10
      have hx19 := ngF hcl 19 11 hx11
      have hx20 := ngF hcl 20 19 hx19
      have hx21 := ngF hcl 21 7 hx7
      obtain rfl := cz7 hx21
      obtain rfl := cr0_0
      refine hG (any_step ?_); clear hG G; intro A J hJ
      have hle0 := Fz.le.trans hle0 hle190
      have hs257 := hs3.mono hle190
      have hs258 := hs6.mono hle190
      refine s1 hFx 42 (.int .i64 x8) ?_; intro a259 hF260; clear hFx
      refine nl (qnI (hJ _ _ ?_)); clear hJ J
      exact ⟨b125, off126, b142, off143, g165, .int .u64 x7, ud35, ud36, ud37, ud38, ud39, ud40, ud41, .int .i64 x8, ud43, ud44, ud45, ud46, ud47, ud48, ud49, ud50, ud51, ud52, ud53, ud54, ud55, .own (tyInt .u32) 105 (some ⟨g51, 0, none⟩) ((w64 ((u0.length : Int) + (u1.length : Int))).toNat) zg510v, hle190, hF260.reg, hMx.perm lpr, (nt hx21), kf, cu35, cu36, cu37, cu38, cu39, cu40, cu41, kf, (nt hx8), (nt hx9), (nt hx10), (nt hx11), cu47, cu48, cu49, cu50, cu51, cu52, cu53, (nt hx19), (nt hx20), rfl, cf0, (nt hx8)⟩
     ·
      obtain rfl := oj hi
      have hx7 := hpre 7 (by kernel_rfl)
      have hx6 := hpre 6 (by kernel_rfl)
      have hx8 := hSi
      have hx9 := ngF hcl 9 8 hx8
      have hx10 := ngF hcl 10 9 hx9
      have hx11 := ngF hcl 11 10 hx10
      have hx19 := ngF hcl 19 11 hx11
      have hx20 := ngF hcl 20 19 hx19
      have hx21 := ngF hcl 21 8 hx8
      obtain rfl := cz7 hx21
      obtain rfl := cu41 hx6
      obtain rfl := cu42 hx7
      obtain rfl := cr0_0
      refine hG (any_step ?_); clear hG G; intro A J hJ
      have hle0 := Fz.le.trans hle0 hle190
      have hs262 := hs3.mono hle190
      have hs263 := hs6.mono hle190
      refine ix hFx (T := (tyInt .u32)) (xs := u1) hs263 x8 hcd8_0 (k := .i64) (e := 105) (bytes := 4) (nog rfl _) rfl (by kernel_rfl) rfl (by kernel_rfl) (by kernel_rfl) (by kernel_rfl) ?_; intro b264 off265 cs266 q267 a271 hq268 hP269 hT270 hF272; clear hFx
      obtain rfl : qd8_1 = q267 := oj (hqd8_1.symm.trans hq268)
      obtain rfl : cs266 = ([.int .u32 qd8_1] : List Value) := hT270
      refine nl (qnI (hJ _ _ ?_)); clear hJ J
      exact ⟨b125, off126, b264, off265, g165, .int .u64 x7, ud35, ud36, ud37, ud38, ud39, ud40, .slice ao4 u1.length cap5, .int .i64 x8, .pointer (some ⟨b264, off265, none⟩), ud44, ud45, ud46, ud47, ud48, ud49, ud50, ud51, ud52, ud53, ud54, ud55, .own (tyInt .u32) 105 (some ⟨g51, 0, none⟩) ((w64 ((u0.length : Int) + (u1.length : Int))).toNat) zg510v, hle190, hF272.reg, hMx.perm lpr, (nt hx21), kf, cu35, cu36, cu37, cu38, cu39, cu40, kf, kf, kf, (nt hx9), (nt hx10), (nt hx11), cu47, cu48, cu49, cu50, cu51, cu52, cu53, (nt hx19), (nt hx20), rfl, cf0, (fun _ => hP269)⟩
     ·
      obtain rfl := oj hi
      have hx8 := hpre 8 (by kernel_rfl)
      have hx7 := hcl 8 7 (by kernel_rfl) hx8
      have hx6 := hcl 8 6 (by kernel_rfl) hx8
      have hx9 := hSi
      have hx10 := ngF hcl 10 9 hx9
      have hx11 := ngF hcl 11 10 hx10
      have hx19 := ngF hcl 19 11 hx11
      have hx20 := ngF hcl 20 19 hx19
      have hx21 := ngF hcl 21 9 hx9
      obtain rfl := cz7 hx21
      obtain rfl := cu41 hx6
      obtain rfl := cu42 hx7
      obtain rfl := cu43 hx8
      obtain rfl := cr0_0
      refine hG (any_step ?_); clear hG G; intro A J hJ
      have hle0 := Fz.le.trans hle0 hle190
      have hs274 := hs3.mono hle190
      have hs275 := hs6.mono hle190
      have hs276 := cf1 hx8
      refine z1 hFx hMx 44 hs276 0 (.int .u32 qd8_1) rfl ?_; intro a277 hF278; clear hFx
      refine nl (qnI (hJ _ _ ?_)); clear hJ J
      exact ⟨b125, off126, b142, off143, g165, .int .u64 x7, ud35, ud36, ud37, ud38, ud39, ud40, .slice ao4 u1.length cap5, .int .i64 x8, .pointer (some ⟨b142, off143, none⟩), .int .u32 qd8_1, ud45, ud46, ud47, ud48, ud49, ud50, ud51, ud52, ud53, ud54, ud55, .own (tyInt .u32) 105 (some ⟨g51, 0, none⟩) ((w64 ((u0.length : Int) + (u1.length : Int))).toNat) zg510v, hle190, hF278.reg, hMx.perm lpr, (nt hx21), kf, cu35, cu36, cu37, cu38, cu39, cu40, kf, kf, kf, kf, (nt hx10), (nt hx11), cu47, cu48, cu49, cu50, cu51, cu52, cu53, (nt hx19), (nt hx20), rfl, cf0, (fun _ => hs276)⟩
     ·
      obtain rfl := oj hi
      have hx9 := hpre 9 (by kernel_rfl)
      have hx8 := hcl 9 8 (by kernel_rfl) hx9
      have hx7 := hcl 8 7 (by kernel_rfl) hx8
      have hx6 := hcl 8 6 (by kernel_rfl) hx8
      have hx10 := hSi
      have hx11 := ngF hcl 11 10 hx10
      have hx19 := ngF hcl 19 11 hx11
      have hx20 := ngF hcl 20 19 hx19
      have hx21 := ngF hcl 21 10 hx10
      obtain rfl := cz7 hx21
      obtain rfl := cu41 hx6
      obtain rfl := cu42 hx7
      obtain rfl := cu43 hx8
      obtain rfl := cu44 hx9
      obtain rfl := cr0_0
      refine hG (any_step ?_); clear hG G; intro A J hJ
      have hle0 := Fz.le.trans hle0 hle190
      have hs280 := hs3.mono hle190
      have hs281 := hs6.mono hle190
      have hs282 := cf1 hx8
      refine s1 hFx 45 (.int .u64 (wu64 qd8_1)) ?_; intro a283 hF284; clear hFx
      refine nl (qnI (hJ _ _ ?_)); clear hJ J
      exact ⟨b125, off126, b142, off143, g165, .int .u64 x7, ud35, ud36, ud37, ud38, ud39, ud40, .slice ao4 u1.length cap5, .int .i64 x8, .pointer (some ⟨b142, off143, none⟩), .int .u32 qd8_1, .int .u64 (wu64 qd8_1), ud46, ud47, ud48, ud49, ud50, ud51, ud52, ud53, ud54, ud55, .own (tyInt .u32) 105 (some ⟨g51, 0, none⟩) ((w64 ((u0.length : Int) + (u1.length : Int))).toNat) zg510v, hle190, hF284.reg, hMx.perm lpr, (nt hx21), kf, cu35, cu36, cu37, cu38, cu39, cu40, kf, kf, kf, kf, kf, (nt hx11), cu47, cu48, cu49, cu50, cu51, cu52, cu53, (nt hx19), (nt hx20), rfl, cf0, (fun _ => hs282)⟩
     ·
      obtain rfl := oj hi
      have hx10 := hpre 10 (by kernel_rfl)
      have hx5 := hpre 5 (by kernel_rfl)
      have hx9 := hcl 10 9 (by kernel_rfl) hx10
      have hx4 := hcl 5 4 (by kernel_rfl) hx5
      have hx8 := hcl 9 8 (by kernel_rfl) hx9
      have hx3 := hcl 4 3 (by kernel_rfl) hx4
      have hx7 := hcl 8 7 (by kernel_rfl) hx8
      have hx6 := hcl 8 6 (by kernel_rfl) hx8
      have hx2 := hcl 3 2 (by kernel_rfl) hx3
      have hx1 := hcl 3 1 (by kernel_rfl) hx3
      have hx11 := hSi
      have hx19 := ngF hcl 19 11 hx11
      have hx20 := ngF hcl 20 19 hx19
      have hx21 := ngF hcl 21 11 hx11
      obtain rfl := cz7 hx21
      obtain rfl := cu36 hx1
      obtain rfl := cu37 hx2
      obtain rfl := cu38 hx3
      obtain rfl := cu39 hx4
      obtain rfl := cu40 hx5
      obtain rfl := cu41 hx6
      obtain rfl := cu42 hx7
      obtain rfl := cu43 hx8
      obtain rfl := cu44 hx9
      obtain rfl := cu45 hx10
      obtain rfl := cr0_0
      refine hG (any_step ?_); clear hG G; intro A J hJ
      have hle0 := Fz.le.trans hle0 hle190
      have hs286 := hs3.mono hle190
      have hs287 := hs6.mono hle190
      have hs288 := cf0 hx3
      have hs289 := cf1 hx8
      refine s1 hFx 46 (.int .u64 (wu64 ((wu64 qd3_1) * (wu64 qd8_1)))) ?_; intro a290 hF291; clear hFx
      refine nl (qnI (hJ _ _ ?_)); clear hJ J
      exact ⟨b125, off126, b142, off143, g165, .int .u64 x7, ud35, .slice ao1 u0.length cap2, .int .i64 x6, .pointer (some ⟨b125, off126, none⟩), .int .u32 qd3_1, .int .u64 (wu64 qd3_1), .slice ao4 u1.length cap5, .int .i64 x8, .pointer (some ⟨b142, off143, none⟩), .int .u32 qd8_1, .int .u64 (wu64 qd8_1), .int .u64 (wu64 ((wu64 qd3_1) * (wu64 qd8_1))), ud47, ud48, ud49, ud50, ud51, ud52, ud53, ud54, ud55, .own (tyInt .u32) 105 (some ⟨g51, 0, none⟩) ((w64 ((u0.length : Int) + (u1.length : Int))).toNat) zg510v, hle190, hF291.reg, hMx.perm lpr, (nt hx21), kf, cu35, kf, kf, kf, kf, kf, kf, kf, kf, kf, kf, kf, cu47, cu48, cu49, cu50, cu51, cu52, cu53, (nt hx19), (nt hx20), rfl, (fun _ => hs288), (fun _ => hs289)⟩
     ·
      obtain rfl := oj hi
      have hx12 := hSi
      have hx16 := ngF hcl 16 12 hx12
      have hx17 := ngF hcl 17 16 hx16
      have hx18 := ngF hcl 18 17 hx17
      have hx19 := ngF hcl 19 18 hx18
      have hx20 := ngF hcl 20 19 hx19
      have hx21 := ngF hcl 21 12 hx12
      obtain rfl := cz7 hx21
      obtain rfl := cr0_0
      refine hG (any_step ?_); clear hG G; intro A J hJ
      have hle0 := Fz.le.trans hle0 hle190
      have hs293 := hs3.mono hle190
      have hs294 := hs6.mono hle190
      refine s1 hFx 47 (.slice (some ⟨g51, 0, none⟩) zg510v.length ((w64 ((u0.length : Int) + (u1.length : Int))).toNat)) ?_; intro a295 hF296; clear hFx
      refine nl (qnI (hJ _ _ ?_)); clear hJ J
      exact ⟨b125, off126, b142, off143, g165, .int .u64 x7, ud35, ud36, ud37, ud38, ud39, ud40, ud41, ud42, ud43, ud44, ud45, ud46, .slice (some ⟨g51, 0, none⟩) zg510v.length ((w64 ((u0.length : Int) + (u1.length : Int))).toNat), ud48, ud49, ud50, ud51, ud52, ud53, ud54, ud55, .own (tyInt .u32) 105 (some ⟨g51, 0, none⟩) ((w64 ((u0.length : Int) + (u1.length : Int))).toNat) zg510v, hle190, hF296.reg, hMx.perm lpr, (nt hx21), kf, cu35, cu36, cu37, cu38, cu39, cu40, cu41, cu42, cu43, cu44, cu45, cu46, kf, cu48, cu49, cu50, (nt hx16), (nt hx17), (nt hx18), (nt hx19), (nt hx20), rfl, cf0, cf1⟩
     ·
      obtain rfl := oj hi
      have hx13 := hSi
      have hx15 := ngF hcl 15 13 hx13
      have hx16 := ngF hcl 16 15 hx15
      have hx17 := ngF hcl 17 16 hx16
      have hx18 := ngF hcl 18 17 hx17
      have hx19 := ngF hcl 19 18 hx18
      have hx20 := ngF hcl 20 19 hx19
      have hx21 := ngF hcl 21 13 hx13
      obtain rfl := cz7 hx21
      obtain rfl := cr0_0
      refine hG (any_step ?_); clear hG G; intro A J hJ
      have hle0 := Fz.le.trans hle0 hle190
      have hs298 := hs3.mono hle190
      have hs299 := hs6.mono hle190
      refine s1 hFx 48 (.int .i64 x6) ?_; intro a300 hF301; clear hFx
      refine nl (qnI (hJ _ _ ?_)); clear hJ J
      exact ⟨b125, off126, b142, off143, g165, .int .u64 x7, ud35, ud36, ud37, ud38, ud39, ud40, ud41, ud42, ud43, ud44, ud45, ud46, ud47, .int .i64 x6, ud49, ud50, ud51, ud52, ud53, ud54, ud55, .own (tyInt .u32) 105 (some ⟨g51, 0, none⟩) ((w64 ((u0.length : Int) + (u1.length : Int))).toNat) zg510v, hle190, hF301.reg, hMx.perm lpr, (nt hx21), kf, cu35, cu36, cu37, cu38, cu39, cu40, cu41, cu42, cu43, cu44, cu45, cu46, cu47, kf, cu49, (nt hx15), (nt hx16), (nt hx17), (nt hx18), (nt hx19), (nt hx20), rfl, cf0, cf1⟩
     ·
      obtain rfl := oj hi
      have hx14 := hSi
      have hx15 := ngF hcl 15 14 hx14
      have hx16 := ngF hcl 16 15 hx15
      have hx17 := ngF hcl 17 16 hx16
      have hx18 := ngF hcl 18 17 hx17
      have hx19 := ngF hcl 19 18 hx18
      have hx20 := ngF hcl 20 19 hx19
      have hx21 := ngF hcl 21 14 hx14
      obtain rfl := cz7 hx21
      obtain rfl := cr0_0
      refine hG (any_step ?_); clear hG G; intro A J hJ
      have hle0 := Fz.le.trans hle0 hle190
      have hs303 := hs3.mono hle190
      have hs304 := hs6.mono hle190
      refine s1 hFx 49 (.int .i64 x8) ?_; intro a305 hF306; clear hFx
      refine nl (qnI (hJ _ _ ?_)); clear hJ J
      exact ⟨b125, off126, b142, off143, g165, .int .u64 x7, ud35, ud36, ud37, ud38, ud39, ud40, ud41, ud42, ud43, ud44, ud45, ud46, ud47, ud48, .int .i64 x8, ud50, ud51, ud52, ud53, ud54, ud55, .own (tyInt .u32) 105 (some ⟨g51, 0, none⟩) ((w64 ((u0.length : Int) + (u1.length : Int))).toNat) zg510v, hle190, hF306.reg, hMx.perm lpr, (nt hx21), kf, cu35, cu36, cu37, cu38, cu39, cu40, cu41, cu42, cu43, cu44, cu45, cu46, cu47, cu48, kf, (nt hx15), (nt hx16), (nt hx17), (nt hx18), (nt hx19), (nt hx20), rfl, cf0, cf1⟩
     ·
      obtain rfl := oj hi
      have hx14 := hpre 14 (by kernel_rfl)
      have hx13 := hpre 13 (by kernel_rfl)
      have hx15 := hSi
      have hx16 := ngF hcl 16 15 hx15
      have hx17 := ngF hcl 17 16 hx16
      have hx18 := ngF hcl 18 17 hx17
      have hx19 := ngF hcl 19 18 hx18
      have hx20 := ngF hcl 20 19 hx19
      have hx21 := ngF hcl 21 15 hx15
      obtain rfl := cz7 hx21
      obtain rfl := cu48 hx13
      obtain rfl := cu49 hx14
      obtain rfl := cr0_0
      refine hG (any_step ?_); clear hG G; intro A J hJ
      have hle0 := Fz.le.trans hle0 hle190
      have hs308 := hs3.mono hle190
      have hs309 := hs6.mono hle190
      refine s1 hFx 50 (.int .i64 (w64 (x6 + x8))) ?_; intro a310 hF311; clear hFx
      refine nl (qnI (hJ _ _ ?_)); clear hJ J
      exact ⟨b125, off126, b142, off143, g165, .int .u64 x7, ud35, ud36, ud37, ud38, ud39, ud40, ud41, ud42, ud43, ud44, ud45, ud46, ud47, .int .i64 x6, .int .i64 x8, .int .i64 (w64 (x6 + x8)), ud51, ud52, ud53, ud54, ud55, .own (tyInt .u32) 105 (some ⟨g51, 0, none⟩) ((w64 ((u0.length : Int) + (u1.length : Int))).toNat) zg510v, hle190, hF311.reg, hMx.perm lpr, (nt hx21), kf, cu35, cu36, cu37, cu38, cu39, cu40, cu41, cu42, cu43, cu44, cu45, cu46, cu47, kf, kf, kf, (nt hx16), (nt hx17), (nt hx18), (nt hx19), (nt hx20), rfl, cf0, cf1⟩
     ·
      obtain rfl := oj hi
      have hx15 := hpre 15 (by kernel_rfl)
      have hx12 := hpre 12 (by kernel_rfl)
      have hx14 := hcl 15 14 (by kernel_rfl) hx15
      have hx13 := hcl 15 13 (by kernel_rfl) hx15
      have hx16 := hSi
      have hx17 := ngF hcl 17 16 hx16
      have hx18 := ngF hcl 18 17 hx17
      have hx19 := ngF hcl 19 18 hx18
      have hx20 := ngF hcl 20 19 hx19
      have hx21 := ngF hcl 21 16 hx16
      obtain rfl := cz7 hx21
      obtain rfl := cu47 hx12
      obtain rfl := cu48 hx13
      obtain rfl := cu49 hx14
      obtain rfl := cu50 hx15
      obtain rfl := cr0_0
      refine hG (any_step ?_); clear hG G; intro A J hJ
      have hle0 := Fz.le.trans hle0 hle190
      have hs313 := hs3.mono hle190
      have hs314 := hs6.mono hle190
      refine ixo hFx hMx 0 (T := (tyInt .u32)) (xs := zg510v) (w64 (x6 + x8)) (by simpa only [List.length_set] using hcd16_0) (k := .i64) (e := 105) (bytes := 4) (nog rfl _) rfl (by kernel_rfl) rfl (by kernel_rfl) (by kernel_rfl) rfl (by kernel_rfl) ?_; intro g315 a317 hg316 hF318; clear hFx
      obtain rfl : g51 = g315 := by simpa using hg316
      have hF319 : Fr 75 [] [⟨0, [], .slice ao1 u0.length cap2⟩, ⟨1, [], .slice ao4 u1.length cap5⟩, ⟨5, [], .slice (some ⟨g51, 0, none⟩) zg510v.length ((w64 ((u0.length : Int) + (u1.length : Int))).toNat)⟩, ⟨6, [], .int .i64 x6⟩, ⟨7, [], .int .u64 x7⟩, ⟨8, [], .int .i64 x8⟩, ⟨35, [], ud35⟩, ⟨36, [], ud36⟩, ⟨37, [], ud37⟩, ⟨38, [], ud38⟩, ⟨39, [], ud39⟩, ⟨40, [], ud40⟩, ⟨41, [], ud41⟩, ⟨42, [], ud42⟩, ⟨43, [], ud43⟩, ⟨44, [], ud44⟩, ⟨45, [], ud45⟩, ⟨46, [], ud46⟩, ⟨47, [], .slice (some ⟨g51, 0, none⟩) zg510v.length ((w64 ((u0.length : Int) + (u1.length : Int))).toNat)⟩, ⟨48, [], .int .i64 x6⟩, ⟨49, [], .int .i64 x8⟩, ⟨50, [], .int .i64 (w64 (x6 + x8))⟩, ⟨51, [], .pointer (some ⟨g51, (w64 (x6 + x8)).toNat * 1, none⟩)⟩, ⟨52, [], ud52⟩, ⟨53, [], ud53⟩, ⟨54, [], ud54⟩, ⟨55, [], ud55⟩] a317 := hF318.reg; clear hF318
      have hM320 : Mem w.heap.size [] w Z [.own (tyInt .u32) 105 (some ⟨g51, 0, none⟩) ((w64 ((u0.length : Int) + (u1.length : Int))).toNat) zg510v] Z w1 := hMx; clear hMx
      refine nl (qnI (hJ _ _ ?_)); clear hJ J
      exact ⟨b125, off126, b142, off143, g51, .int .u64 x7, ud35, ud36, ud37, ud38, ud39, ud40, ud41, ud42, ud43, ud44, ud45, ud46, .slice (some ⟨g51, 0, none⟩) zg510v.length ((w64 ((u0.length : Int) + (u1.length : Int))).toNat), .int .i64 x6, .int .i64 x8, .int .i64 (w64 (x6 + x8)), .pointer (some ⟨g51, (w64 (x6 + x8)).toNat * 1, none⟩), ud52, ud53, ud54, ud55, .own (tyInt .u32) 105 (some ⟨g51, 0, none⟩) ((w64 ((u0.length : Int) + (u1.length : Int))).toNat) zg510v, hle190, hF319.reg, hM320.perm lpr, (nt hx21), kf, cu35, cu36, cu37, cu38, cu39, cu40, cu41, cu42, cu43, cu44, cu45, cu46, kf, kf, kf, kf, kf, (nt hx17), (nt hx18), (nt hx19), (nt hx20), rfl, cf0, cf1⟩
     ·
      obtain rfl := oj hi
      have hx16 := hpre 16 (by kernel_rfl)
      have hx15 := hcl 16 15 (by kernel_rfl) hx16
      have hx12 := hcl 16 12 (by kernel_rfl) hx16
      have hx14 := hcl 15 14 (by kernel_rfl) hx15
      have hx13 := hcl 15 13 (by kernel_rfl) hx15
      have hx17 := hSi
      have hx18 := ngF hcl 18 17 hx17
      have hx19 := ngF hcl 19 18 hx18
      have hx20 := ngF hcl 20 19 hx19
      have hx21 := ngF hcl 21 17 hx17
      obtain rfl := cz7 hx21
      obtain rfl := cu47 hx12
      obtain rfl := cu48 hx13
      obtain rfl := cu49 hx14
      obtain rfl := cu50 hx15
      obtain rfl := cu51 hx16
      obtain rfl := cr0_0
      refine hG (any_step ?_); clear hG G; intro A J hJ
      have hle0 := Fz.le.trans hle0 hle190
      have hs322 := hs3.mono hle190
      have hs323 := hs6.mono hle190
      obtain ⟨cs324, hT325, hcl326⟩ := own_el hMx 0 (T := (tyInt .u32)) (xs := zg510v) rfl (w64 (x6 + x8)).toNat hqd17_0
      obtain rfl : cs324 = ([.int .u32 qd17_0] : List Value) := hT325
      refine lc1 hFx 52 (.int .u32 qd17_0) (hcl326 0 _ rfl) rfl ?_; intro a327 hF328; clear hFx
      refine nl (qnI (hJ _ _ ?_)); clear hJ J
      exact ⟨b125, off126, b142, off143, g165, .int .u64 x7, ud35, ud36, ud37, ud38, ud39, ud40, ud41, ud42, ud43, ud44, ud45, ud46, .slice (some ⟨g51, 0, none⟩) zg510v.length ((w64 ((u0.length : Int) + (u1.length : Int))).toNat), .int .i64 x6, .int .i64 x8, .int .i64 (w64 (x6 + x8)), .pointer (some ⟨g51, (w64 (x6 + x8)).toNat * 1, none⟩), .int .u32 qd17_0, ud53, ud54, ud55, .own (tyInt .u32) 105 (some ⟨g51, 0, none⟩) ((w64 ((u0.length : Int) + (u1.length : Int))).toNat) zg510v, hle190, hF328.reg, hMx.perm lpr, (nt hx21), kf, cu35, cu36, cu37, cu38, cu39, cu40, cu41, cu42, cu43, cu44, cu45, cu46, kf, kf, kf, kf, kf, kf, (nt hx18), (nt hx19), (nt hx20), rfl, cf0, cf1⟩
     ·
      obtain rfl := oj hi
      have hx17 := hpre 17 (by kernel_rfl)
      have hx16 := hcl 17 16 (by kernel_rfl) hx17
      have hx15 := hcl 16 15 (by kernel_rfl) hx16
      have hx12 := hcl 16 12 (by kernel_rfl) hx16
      have hx14 := hcl 15 14 (by kernel_rfl) hx15
      have hx13 := hcl 15 13 (by kernel_rfl) hx15
      have hx18 := hSi
      have hx19 := ngF hcl 19 18 hx18
      have hx20 := ngF hcl 20 19 hx19
      have hx21 := ngF hcl 21 18 hx18
      obtain rfl := cz7 hx21
      obtain rfl := cu47 hx12
      obtain rfl := cu48 hx13
      obtain rfl := cu49 hx14
      obtain rfl := cu50 hx15
      obtain rfl := cu51 hx16
      obtain rfl := cu52 hx17
      obtain rfl := cr0_0
      refine hG (any_step ?_); clear hG G; intro A J hJ
      have hle0 := Fz.le.trans hle0 hle190
      have hs330 := hs3.mono hle190
      have hs331 := hs6.mono hle190
      refine s1 hFx 53 (.int .u64 (wu64 qd17_0)) ?_; intro a332 hF333; clear hFx
      refine nl (qnI (hJ _ _ ?_)); clear hJ J
      exact ⟨b125, off126, b142, off143, g165, .int .u64 x7, ud35, ud36, ud37, ud38, ud39, ud40, ud41, ud42, ud43, ud44, ud45, ud46, .slice (some ⟨g51, 0, none⟩) zg510v.length ((w64 ((u0.length : Int) + (u1.length : Int))).toNat), .int .i64 x6, .int .i64 x8, .int .i64 (w64 (x6 + x8)), .pointer (some ⟨g51, (w64 (x6 + x8)).toNat * 1, none⟩), .int .u32 qd17_0, .int .u64 (wu64 qd17_0), ud54, ud55, .own (tyInt .u32) 105 (some ⟨g51, 0, none⟩) ((w64 ((u0.length : Int) + (u1.length : Int))).toNat) zg510v, hle190, hF333.reg, hMx.perm lpr, (nt hx21), kf, cu35, cu36, cu37, cu38, cu39, cu40, cu41, cu42, cu43, cu44, cu45, cu46, kf, kf, kf, kf, kf, kf, kf, (nt hx19), (nt hx20), rfl, cf0, cf1⟩
     ·
      obtain rfl := oj hi
      have hx18 := hpre 18 (by kernel_rfl)
      have hx11 := hpre 11 (by kernel_rfl)
      have hx17 := hcl 18 17 (by kernel_rfl) hx18
      have hx10 := hcl 11 10 (by kernel_rfl) hx11
      have hx5 := hcl 11 5 (by kernel_rfl) hx11
      have hx16 := hcl 17 16 (by kernel_rfl) hx17
      have hx9 := hcl 10 9 (by kernel_rfl) hx10
      have hx4 := hcl 5 4 (by kernel_rfl) hx5
      have hx15 := hcl 16 15 (by kernel_rfl) hx16
      have hx12 := hcl 16 12 (by kernel_rfl) hx16
      have hx8 := hcl 9 8 (by kernel_rfl) hx9
      have hx3 := hcl 4 3 (by kernel_rfl) hx4
      have hx14 := hcl 15 14 (by kernel_rfl) hx15
      have hx13 := hcl 15 13 (by kernel_rfl) hx15
      have hx7 := hcl 8 7 (by kernel_rfl) hx8
      have hx6 := hcl 8 6 (by kernel_rfl) hx8
      have hx2 := hcl 3 2 (by kernel_rfl) hx3
      have hx1 := hcl 3 1 (by kernel_rfl) hx3
      have hx19 := hSi
      have hx20 := ngF hcl 20 19 hx19
      have hx21 := ngF hcl 21 19 hx19
      obtain rfl := cz7 hx21
      obtain rfl := cu36 hx1
      obtain rfl := cu37 hx2
      obtain rfl := cu38 hx3
      obtain rfl := cu39 hx4
      obtain rfl := cu40 hx5
      obtain rfl := cu41 hx6
      obtain rfl := cu42 hx7
      obtain rfl := cu43 hx8
      obtain rfl := cu44 hx9
      obtain rfl := cu45 hx10
      obtain rfl := cu46 hx11
      obtain rfl := cu47 hx12
      obtain rfl := cu48 hx13
      obtain rfl := cu49 hx14
      obtain rfl := cu50 hx15
      obtain rfl := cu51 hx16
      obtain rfl := cu52 hx17
      obtain rfl := cu53 hx18
      obtain rfl := cr0_0
      refine hG (any_step ?_); clear hG G; intro A J hJ
      have hle0 := Fz.le.trans hle0 hle190
      have hs335 := hs3.mono hle190
      have hs336 := hs6.mono hle190
      have hs337 := cf0 hx3
      have hs338 := cf1 hx8
      refine s1 hFx 54 (.int .u64 (wu64 ((wu64 ((wu64 qd3_1) * (wu64 qd8_1))) + (wu64 qd17_0)))) ?_; intro a339 hF340; clear hFx
      refine nl (qnI (hJ _ _ ?_)); clear hJ J
      exact ⟨b125, off126, b142, off143, g165, .int .u64 x7, ud35, .slice ao1 u0.length cap2, .int .i64 x6, .pointer (some ⟨b125, off126, none⟩), .int .u32 qd3_1, .int .u64 (wu64 qd3_1), .slice ao4 u1.length cap5, .int .i64 x8, .pointer (some ⟨b142, off143, none⟩), .int .u32 qd8_1, .int .u64 (wu64 qd8_1), .int .u64 (wu64 ((wu64 qd3_1) * (wu64 qd8_1))), .slice (some ⟨g51, 0, none⟩) zg510v.length ((w64 ((u0.length : Int) + (u1.length : Int))).toNat), .int .i64 x6, .int .i64 x8, .int .i64 (w64 (x6 + x8)), .pointer (some ⟨g51, (w64 (x6 + x8)).toNat * 1, none⟩), .int .u32 qd17_0, .int .u64 (wu64 qd17_0), .int .u64 (wu64 ((wu64 ((wu64 qd3_1) * (wu64 qd8_1))) + (wu64 qd17_0))), ud55, .own (tyInt .u32) 105 (some ⟨g51, 0, none⟩) ((w64 ((u0.length : Int) + (u1.length : Int))).toNat) zg510v, hle190, hF340.reg, hMx.perm lpr, (nt hx21), kf, cu35, kf, kf, kf, kf, kf, kf, kf, kf, kf, kf, kf, kf, kf, kf, kf, kf, kf, kf, kf, (nt hx20), rfl, (fun _ => hs337), (fun _ => hs338)⟩
     ·
      obtain rfl := oj hi
      have hx19 := hpre 19 (by kernel_rfl)
      have hx0 := hpre 0 (by kernel_rfl)
      have hx18 := hcl 19 18 (by kernel_rfl) hx19
      have hx11 := hcl 19 11 (by kernel_rfl) hx19
      have hx17 := hcl 18 17 (by kernel_rfl) hx18
      have hx10 := hcl 11 10 (by kernel_rfl) hx11
      have hx5 := hcl 11 5 (by kernel_rfl) hx11
      have hx16 := hcl 17 16 (by kernel_rfl) hx17
      have hx9 := hcl 10 9 (by kernel_rfl) hx10
      have hx4 := hcl 5 4 (by kernel_rfl) hx5
      have hx15 := hcl 16 15 (by kernel_rfl) hx16
      have hx12 := hcl 16 12 (by kernel_rfl) hx16
      have hx8 := hcl 9 8 (by kernel_rfl) hx9
      have hx3 := hcl 4 3 (by kernel_rfl) hx4
      have hx14 := hcl 15 14 (by kernel_rfl) hx15
      have hx13 := hcl 15 13 (by kernel_rfl) hx15
      have hx7 := hcl 8 7 (by kernel_rfl) hx8
      have hx6 := hcl 8 6 (by kernel_rfl) hx8
      have hx2 := hcl 3 2 (by kernel_rfl) hx3
      have hx1 := hcl 3 1 (by kernel_rfl) hx3
      have hx20 := hSi
      have hx21 := ngF hcl 21 20 hx20
      obtain rfl := cz7 hx21
      obtain rfl := cu35 hx0
      obtain rfl := cu36 hx1
      obtain rfl := cu37 hx2
      obtain rfl := cu38 hx3
      obtain rfl := cu39 hx4
      obtain rfl := cu40 hx5
      obtain rfl := cu41 hx6
      obtain rfl := cu42 hx7
      obtain rfl := cu43 hx8
      obtain rfl := cu44 hx9
      obtain rfl := cu45 hx10
      obtain rfl := cu46 hx11
      obtain rfl := cu47 hx12
      obtain rfl := cu48 hx13
      obtain rfl := cu49 hx14
      obtain rfl := cu50 hx15
      obtain rfl := cu51 hx16
      obtain rfl := cu52 hx17
      obtain rfl := cu53 hx18
      obtain rfl := cu54 hx19
      obtain rfl := cr0_0
      refine hG (any_step ?_); clear hG G; intro A J hJ
      have hle0 := Fz.le.trans hle0 hle190
      have hs342 := hs3.mono hle190
      have hs343 := hs6.mono hle190
      have hs344 := cf0 hx3
      have hs345 := cf1 hx8
      refine s1 hFx 55 (.int .u64 (wu64 (x7 + (wu64 ((wu64 ((wu64 qd3_1) * (wu64 qd8_1))) + (wu64 qd17_0)))))) ?_; intro a346 hF347; clear hFx
      refine nl (qnI (hJ _ _ ?_)); clear hJ J
      exact ⟨b125, off126, b142, off143, g165, .int .u64 x7, .int .u64 x7, .slice ao1 u0.length cap2, .int .i64 x6, .pointer (some ⟨b125, off126, none⟩), .int .u32 qd3_1, .int .u64 (wu64 qd3_1), .slice ao4 u1.length cap5, .int .i64 x8, .pointer (some ⟨b142, off143, none⟩), .int .u32 qd8_1, .int .u64 (wu64 qd8_1), .int .u64 (wu64 ((wu64 qd3_1) * (wu64 qd8_1))), .slice (some ⟨g51, 0, none⟩) zg510v.length ((w64 ((u0.length : Int) + (u1.length : Int))).toNat), .int .i64 x6, .int .i64 x8, .int .i64 (w64 (x6 + x8)), .pointer (some ⟨g51, (w64 (x6 + x8)).toNat * 1, none⟩), .int .u32 qd17_0, .int .u64 (wu64 qd17_0), .int .u64 (wu64 ((wu64 ((wu64 qd3_1) * (wu64 qd8_1))) + (wu64 qd17_0))), .int .u64 (wu64 (x7 + (wu64 ((wu64 ((wu64 qd3_1) * (wu64 qd8_1))) + (wu64 qd17_0))))), .own (tyInt .u32) 105 (some ⟨g51, 0, none⟩) ((w64 ((u0.length : Int) + (u1.length : Int))).toNat) zg510v, hle190, hF347.reg, hMx.perm lpr, (nt hx21), kf, kf, kf, kf, kf, kf, kf, kf, kf, kf, kf, kf, kf, kf, kf, kf, kf, kf, kf, kf, kf, kf, rfl, (fun _ => hs344), (fun _ => hs345)⟩
     ·
      obtain rfl := oj hi
      have hx20 := hpre 20 (by kernel_rfl)
      have hx19 := hpre 19 (by kernel_rfl)
      have hx18 := hpre 18 (by kernel_rfl)
      have hx17 := hpre 17 (by kernel_rfl)
      have hx16 := hpre 16 (by kernel_rfl)
      have hx15 := hpre 15 (by kernel_rfl)
      have hx14 := hpre 14 (by kernel_rfl)
      have hx13 := hpre 13 (by kernel_rfl)
      have hx12 := hpre 12 (by kernel_rfl)
      have hx11 := hpre 11 (by kernel_rfl)
      have hx10 := hpre 10 (by kernel_rfl)
      have hx9 := hpre 9 (by kernel_rfl)
      have hx8 := hpre 8 (by kernel_rfl)
      have hx7 := hpre 7 (by kernel_rfl)
      have hx6 := hpre 6 (by kernel_rfl)
      have hx5 := hpre 5 (by kernel_rfl)
      have hx4 := hpre 4 (by kernel_rfl)
      have hx3 := hpre 3 (by kernel_rfl)
      have hx2 := hpre 2 (by kernel_rfl)
      have hx1 := hpre 1 (by kernel_rfl)
      have hx0 := hpre 0 (by kernel_rfl)
      have hx21 := hSi
      obtain rfl := cz7 hx21
      obtain rfl := cu35 hx0
      obtain rfl := cu36 hx1
      obtain rfl := cu37 hx2
      obtain rfl := cu38 hx3
      obtain rfl := cu39 hx4
      obtain rfl := cu40 hx5
      obtain rfl := cu41 hx6
      obtain rfl := cu42 hx7
      obtain rfl := cu43 hx8
      obtain rfl := cu44 hx9
      obtain rfl := cu45 hx10
      obtain rfl := cu46 hx11
      obtain rfl := cu47 hx12
      obtain rfl := cu48 hx13
      obtain rfl := cu49 hx14
      obtain rfl := cu50 hx15
      obtain rfl := cu51 hx16
      obtain rfl := cu52 hx17
      obtain rfl := cu53 hx18
      obtain rfl := cu54 hx19
      obtain rfl := cu55 hx20
      obtain rfl := cr0_0
      refine hG (any_step ?_); clear hG G; intro A J hJ
      have hle0 := Fz.le.trans hle0 hle190
      have hs349 := hs3.mono hle190
      have hs350 := hs6.mono hle190
      have hs351 := cf0 hx3
      have hs352 := cf1 hx8
      refine s1 hFx 7 (.int .u64 (wu64 (x7 + (wu64 ((wu64 ((wu64 qd3_1) * (wu64 qd8_1))) + (wu64 qd17_0)))))) ?_; intro a353 hF354; clear hFx
      refine nl (qnI (hJ _ _ ?_)); clear hJ J
      exact ⟨b125, off126, b142, off143, g165, .int .u64 (wu64 (x7 + (wu64 ((wu64 ((wu64 qd3_1) * (wu64 qd8_1))) + (wu64 qd17_0))))), .int .u64 x7, .slice ao1 u0.length cap2, .int .i64 x6, .pointer (some ⟨b125, off126, none⟩), .int .u32 qd3_1, .int .u64 (wu64 qd3_1), .slice ao4 u1.length cap5, .int .i64 x8, .pointer (some ⟨b142, off143, none⟩), .int .u32 qd8_1, .int .u64 (wu64 qd8_1), .int .u64 (wu64 ((wu64 qd3_1) * (wu64 qd8_1))), .slice (some ⟨g51, 0, none⟩) zg510v.length ((w64 ((u0.length : Int) + (u1.length : Int))).toNat), .int .i64 x6, .int .i64 x8, .int .i64 (w64 (x6 + x8)), .pointer (some ⟨g51, (w64 (x6 + x8)).toNat * 1, none⟩), .int .u32 qd17_0, .int .u64 (wu64 qd17_0), .int .u64 (wu64 ((wu64 ((wu64 qd3_1) * (wu64 qd8_1))) + (wu64 qd17_0))), .int .u64 (wu64 (x7 + (wu64 ((wu64 ((wu64 qd3_1) * (wu64 qd8_1))) + (wu64 qd17_0))))), .own (tyInt .u32) 105 (some ⟨g51, 0, none⟩) ((w64 ((u0.length : Int) + (u1.length : Int))).toNat) zg510v, hle190, hF354.reg, hMx.perm lpr, kf, nu, kf, kf, kf, kf, kf, kf, kf, kf, kf, kf, kf, kf, kf, kf, kf, kf, kf, kf, kf, kf, kf, rfl, (fun _ => hs351), (fun _ => hs352)⟩
    case hE =>
     intro S hS a356 wd357 hI; refine Go.Sy.hid ?_; intro G hG; obtain ⟨b125, off126, b142, off143, g165, ud7, ud35, ud36, ud37, ud38, ud39, ud40, ud41, ud42, ud43, ud44, ud45, ud46, ud47, ud48, ud49, ud50, ud51, ud52, ud53, ud54, ud55, rh0, hle190, hFx, hMx, cu7, cz7, cu35, cu36, cu37, cu38, cu39, cu40, cu41, cu42, cu43, cu44, cu45, cu46, cu47, cu48, cu49, cu50, cu51, cu52, cu53, cu54, cu55, cr0_0, cf0, hI⟩ := hI; have cf1 := hI; clear hI; refine hG ?_; clear hG G
     obtain rfl := cu7 (hS 21 (by decide))
     obtain rfl := cu35 (hS 0 (by decide))
     obtain rfl := cu36 (hS 1 (by decide))
     obtain rfl := cu37 (hS 2 (by decide))
     obtain rfl := cu38 (hS 3 (by decide))
     obtain rfl := cu39 (hS 4 (by decide))
     obtain rfl := cu40 (hS 5 (by decide))
     obtain rfl := cu41 (hS 6 (by decide))
     obtain rfl := cu42 (hS 7 (by decide))
     obtain rfl := cu43 (hS 8 (by decide))
     obtain rfl := cu44 (hS 9 (by decide))
     obtain rfl := cu45 (hS 10 (by decide))
     obtain rfl := cu46 (hS 11 (by decide))
     obtain rfl := cu47 (hS 12 (by decide))
     obtain rfl := cu48 (hS 13 (by decide))
     obtain rfl := cu49 (hS 14 (by decide))
     obtain rfl := cu50 (hS 15 (by decide))
     obtain rfl := cu51 (hS 16 (by decide))
     obtain rfl := cu52 (hS 17 (by decide))
     obtain rfl := cu53 (hS 18 (by decide))
     obtain rfl := cu54 (hS 19 (by decide))
     obtain rfl := cu55 (hS 20 (by decide))
     obtain rfl := cr0_0
     have hle0 := Fz.le.trans hle0 hle190
     have hs358 := hs3.mono hle190
     have hs359 := hs6.mono hle190
     have hs360 := cf0 (hS 3 (by decide))
     have hs361 := cf1 (hS 8 (by decide))
     refine thn ?_
     have hF362 : Fr 75 [] [⟨0, [], .slice ao1 u0.length cap2⟩, ⟨1, [], .slice ao4 u1.length cap5⟩, ⟨5, [], .slice (some ⟨g51, 0, none⟩) zg510v.length ((w64 ((u0.length : Int) + (u1.length : Int))).toNat)⟩, ⟨6, [], .int .i64 x6⟩, ⟨7, [], .int .u64 (wu64 (x7 + (wu64 ((wu64 ((wu64 qd3_1) * (wu64 qd8_1))) + (wu64 qd17_0)))))⟩, ⟨8, [], .int .i64 x8⟩] a356 := hFx.reg; clear hFx
     refine sqH ?_; intro hQ363Q hQ363
     refine s1 hF362 56 (.slice (some ⟨g51, 0, none⟩) zg510v.length ((w64 ((u0.length : Int) + (u1.length : Int))).toNat)) ?_; intro a364 hF365; clear hF362
     refine s1 hF365 57 (.int .i64 x6) ?_; intro a366 hF367; clear hF365
     refine s1 hF367 58 (.int .i64 x8) ?_; intro a368 hF369; clear hF367
     refine s1 hF369 59 (.int .i64 (w64 (x6 + x8))) ?_; intro a370 hF371; clear hF369
     refine s1 hF371 60 (.int .u64 (wu64 (x7 + (wu64 ((wu64 ((wu64 qd3_1) * (wu64 qd8_1))) + (wu64 qd17_0)))))) ?_; intro a372 hF373; clear hF371
     refine s1 hF373 61 (.int .u32 (wu32 (wu64 (x7 + (wu64 ((wu64 ((wu64 qd3_1) * (wu64 qd8_1))) + (wu64 qd17_0))))))) ?_; intro a374 hF375; clear hF373
     have hc376 := hp189.1; have hp377 := hp189.2; clear hp189
     refine ixo hF375 hMx 0 (T := (tyInt .u32)) (xs := zg510v) (w64 (x6 + x8)) hc376 (k := .i64) (e := 105) (bytes := 4) (nog rfl _) rfl (by kernel_rfl) rfl (by kernel_rfl) (by kernel_rfl) rfl (by kernel_rfl) ?_; intro g378 a380 hg379 hF381; clear hF375
     obtain rfl : g51 = g378 := by simpa using hg379
     have hF382 : Fr 75 [] [⟨0, [], .slice ao1 u0.length cap2⟩, ⟨1, [], .slice ao4 u1.length cap5⟩, ⟨5, [], .slice (some ⟨g51, 0, none⟩) zg510v.length ((w64 ((u0.length : Int) + (u1.length : Int))).toNat)⟩, ⟨6, [], .int .i64 x6⟩, ⟨7, [], .int .u64 (wu64 (x7 + (wu64 ((wu64 ((wu64 qd3_1) * (wu64 qd8_1))) + (wu64 qd17_0)))))⟩, ⟨8, [], .int .i64 x8⟩, ⟨56, [], .slice (some ⟨g51, 0, none⟩) zg510v.length ((w64 ((u0.length : Int) + (u1.length : Int))).toNat)⟩, ⟨57, [], .int .i64 x6⟩, ⟨58, [], .int .i64 x8⟩, ⟨59, [], .int .i64 (w64 (x6 + x8))⟩, ⟨60, [], .int .u64 (wu64 (x7 + (wu64 ((wu64 ((wu64 qd3_1) * (wu64 qd8_1))) + (wu64 qd17_0)))))⟩, ⟨61, [], .int .u32 (wu32 (wu64 (x7 + (wu64 ((wu64 ((wu64 qd3_1) * (wu64 qd8_1))) + (wu64 qd17_0))))))⟩, ⟨62, [], .pointer (some ⟨g51, (w64 (x6 + x8)).toNat * 1, none⟩)⟩] a380 := hF381.reg; clear hF381
     have hM383 : Mem w.heap.size [] w Z [.own (tyInt .u32) 105 (some ⟨g51, 0, none⟩) ((w64 ((u0.length : Int) + (u1.length : Int))).toNat) zg510v] Z wd357 := hMx; clear hMx
     refine so hF382 hM383 0 (T := (tyInt .u32)) (xs := zg510v) (w64 (x6 + x8)).toNat (wu32 (wu64 (x7 + (wu64 ((wu64 ((wu64 qd3_1) * (wu64 qd8_1))) + (wu64 qd17_0)))))) (u := .int .u32 (wu32 (wu64 (x7 + (wu64 ((wu64 ((wu64 qd3_1) * (wu64 qd8_1))) + (wu64 qd17_0))))))) (nog rfl _) rfl rfl (by kernel_rfl) rfl (by kernel_rfl) rfl (by kernel_rfl) (by first | omega | (simp only [List.length_set] at *; omega)) rfl ?_; intro wd384 hM385; clear hM383
     have hF386 : Fr 75 [] [⟨0, [], .slice ao1 u0.length cap2⟩, ⟨1, [], .slice ao4 u1.length cap5⟩, ⟨5, [], .slice (some ⟨g51, 0, none⟩) (zg510v.set (w64 (x6 + x8)).toNat (wu32 (wu64 (x7 + (wu64 ((wu64 ((wu64 qd3_1) * (wu64 qd8_1))) + (wu64 qd17_0))))))).length ((w64 ((u0.length : Int) + (u1.length : Int))).toNat)⟩, ⟨6, [], .int .i64 x6⟩, ⟨7, [], .int .u64 (wu64 (x7 + (wu64 ((wu64 ((wu64 qd3_1) * (wu64 qd8_1))) + (wu64 qd17_0)))))⟩, ⟨8, [], .int .i64 x8⟩, ⟨56, [], .slice (some ⟨g51, 0, none⟩) (zg510v.set (w64 (x6 + x8)).toNat (wu32 (wu64 (x7 + (wu64 ((wu64 ((wu64 qd3_1) * (wu64 qd8_1))) + (wu64 qd17_0))))))).length ((w64 ((u0.length : Int) + (u1.length : Int))).toNat)⟩, ⟨57, [], .int .i64 x6⟩, ⟨58, [], .int .i64 x8⟩, ⟨59, [], .int .i64 (w64 (x6 + x8))⟩, ⟨60, [], .int .u64 (wu64 (x7 + (wu64 ((wu64 ((wu64 qd3_1) * (wu64 qd8_1))) + (wu64 qd17_0)))))⟩, ⟨61, [], .int .u32 (wu32 (wu64 (x7 + (wu64 ((wu64 ((wu64 qd3_1) * (wu64 qd8_1))) + (wu64 qd17_0))))))⟩, ⟨62, [], .pointer (some ⟨g51, (w64 (x6 + x8)).toNat * 1, none⟩)⟩] a380 := by (try simp only [List.length_set] at hF382); (try simp only [List.length_set]); exact hF382.reg
     clear hF382
     have hM387 : Mem w.heap.size [] w Z [.own (tyInt .u32) 105 (some ⟨g51, 0, none⟩) ((w64 ((u0.length : Int) + (u1.length : Int))).toNat) (zg510v.set (w64 (x6 + x8)).toNat (wu32 (wu64 (x7 + (wu64 ((wu64 ((wu64 qd3_1) * (wu64 qd8_1))) + (wu64 qd17_0)))))))] Z wd384 := hM385; clear hM385
     refine nlH (hQ363 _ _ ?_); clear hQ363 hQ363Q
     refine rgH ?_; intro hQ388Q hQ388
     refine s1 hF386 63 (.int .u64 (wu64 (x7 + (wu64 ((wu64 ((wu64 qd3_1) * (wu64 qd8_1))) + (wu64 qd17_0)))))) ?_; intro a389 hF390; clear hF386
     refine s1 hF390 64 (.int .u64 (bShr .u64 (wu64 (x7 + (wu64 ((wu64 ((wu64 qd3_1) * (wu64 qd8_1))) + (wu64 qd17_0))))) 32)) ?_; intro a391 hF392; clear hF390
     refine s1 hF392 7 (.int .u64 (bShr .u64 (wu64 (x7 + (wu64 ((wu64 ((wu64 qd3_1) * (wu64 qd8_1))) + (wu64 qd17_0))))) 32)) ?_; intro a393 hF394; clear hF392
     refine nlH (hQ388 _ _ ?_); clear hQ388 hQ388Q
     refine ibn ?_
     refine thn ?_
     refine rgH ?_; intro hQ395Q hQ395
     refine s1 hF394 33 (.int .i64 x8) ?_; intro a396 hF397; clear hF394
     refine s1 hF397 34 (.int .i64 (w64 (x8 + 1))) ?_; intro a398 hF399; clear hF397
     refine s1 hF399 8 (.int .i64 (w64 (x8 + 1))) ?_; intro a400 hF401; clear hF399
     refine nlH (hQ395 _ _ ?_); clear hQ395 hQ395Q
     refine rd ?_
     exact ⟨⟨bShr .u64 (wu64 (x7 + (wu64 ((wu64 ((wu64 qd3_1) * (wu64 qd8_1))) + (wu64 qd17_0))))) 32, w64 (x8 + 1), zg510v.set (w64 (x6 + x8)).toNat (wu32 (wu64 (x7 + (wu64 ((wu64 ((wu64 qd3_1) * (wu64 qd8_1))) + (wu64 qd17_0))))))⟩, hp377.1, hp377.2, (hF401.reg).anyβ _ (by kernel_rfl), hM387.keep (List.Sublist.cons_cons _ (List.Sublist.slnil))⟩
   ·
    have hp402 := hp106.2 hb116; clear hp106
    refine wp_exit ?_
    refine thx ?_
    refine thx ?_
    refine ibx ?_
    refine thn ?_
    refine rgH ?_; intro hQ403Q hQ403
    refine s1 hF115 65 (.slice (some ⟨g51, 0, none⟩) zg510v.length ((w64 ((u0.length : Int) + (u1.length : Int))).toNat)) ?_; intro a404 hF405; clear hF115
    refine s1 hF405 66 (.int .i64 x6) ?_; intro a406 hF407; clear hF405
    refine s1 hF407 67 (.slice ao4 u1.length cap5) ?_; intro a408 hF409; clear hF407
    refine s1 hF409 68 (.int .i64 (u1.length : Int)) ?_; intro a410 hF411; clear hF409
    refine s1 hF411 69 (.int .i64 (w64 (x6 + (u1.length : Int)))) ?_; intro a412 hF413; clear hF411
    refine s1 hF413 70 (.int .u64 x7) ?_; intro a414 hF415; clear hF413
    refine s1 hF415 71 (.int .u32 (wu32 x7)) ?_; intro a416 hF417; clear hF415
    have hc418 := hp402.1; have hp419 := hp402.2; clear hp402
    refine ixo hF417 hM105 0 (T := (tyInt .u32)) (xs := zg510v) (w64 (x6 + (u1.length : Int))) hc418 (k := .i64) (e := 105) (bytes := 4) (nog rfl _) rfl (by kernel_rfl) rfl (by kernel_rfl) (by kernel_rfl) rfl (by kernel_rfl) ?_; intro g420 a422 hg421 hF423; clear hF417
    obtain rfl : g51 = g420 := by simpa using hg421
    have hF424 : Fr 75 [] [⟨0, [], .slice ao1 u0.length cap2⟩, ⟨1, [], .slice ao4 u1.length cap5⟩, ⟨5, [], .slice (some ⟨g51, 0, none⟩) zg510v.length ((w64 ((u0.length : Int) + (u1.length : Int))).toNat)⟩, ⟨6, [], .int .i64 x6⟩, ⟨7, [], .int .u64 x7⟩, ⟨8, [], .int .i64 x8⟩, ⟨29, [], .int .i64 x8⟩, ⟨30, [], .slice ao4 u1.length cap5⟩, ⟨31, [], .int .i64 (u1.length : Int)⟩, ⟨32, [], .bool (decide (x8 < (u1.length : Int)))⟩, ⟨65, [], .slice (some ⟨g51, 0, none⟩) zg510v.length ((w64 ((u0.length : Int) + (u1.length : Int))).toNat)⟩, ⟨66, [], .int .i64 x6⟩, ⟨67, [], .slice ao4 u1.length cap5⟩, ⟨68, [], .int .i64 (u1.length : Int)⟩, ⟨69, [], .int .i64 (w64 (x6 + (u1.length : Int)))⟩, ⟨70, [], .int .u64 x7⟩, ⟨71, [], .int .u32 (wu32 x7)⟩, ⟨72, [], .pointer (some ⟨g51, (w64 (x6 + (u1.length : Int))).toNat * 1, none⟩)⟩] a422 := hF423.reg; clear hF423
    have hM425 : Mem w.heap.size [] w Z [.own (tyInt .u32) 105 (some ⟨g51, 0, none⟩) ((w64 ((u0.length : Int) + (u1.length : Int))).toNat) zg510v] Z wd101 := hM105; clear hM105
    refine so hF424 hM425 0 (T := (tyInt .u32)) (xs := zg510v) (w64 (x6 + (u1.length : Int))).toNat (wu32 x7) (u := .int .u32 (wu32 x7)) (nog rfl _) rfl rfl (by kernel_rfl) rfl (by kernel_rfl) rfl (by kernel_rfl) (by first | omega | (simp only [List.length_set] at *; omega)) rfl ?_; intro wd426 hM427; clear hM425
    have hF428 : Fr 75 [] [⟨0, [], .slice ao1 u0.length cap2⟩, ⟨1, [], .slice ao4 u1.length cap5⟩, ⟨5, [], .slice (some ⟨g51, 0, none⟩) (zg510v.set (w64 (x6 + (u1.length : Int))).toNat (wu32 x7)).length ((w64 ((u0.length : Int) + (u1.length : Int))).toNat)⟩, ⟨6, [], .int .i64 x6⟩, ⟨7, [], .int .u64 x7⟩, ⟨8, [], .int .i64 x8⟩, ⟨29, [], .int .i64 x8⟩, ⟨30, [], .slice ao4 u1.length cap5⟩, ⟨31, [], .int .i64 (u1.length : Int)⟩, ⟨32, [], .bool (decide (x8 < (u1.length : Int)))⟩, ⟨65, [], .slice (some ⟨g51, 0, none⟩) (zg510v.set (w64 (x6 + (u1.length : Int))).toNat (wu32 x7)).length ((w64 ((u0.length : Int) + (u1.length : Int))).toNat)⟩, ⟨66, [], .int .i64 x6⟩, ⟨67, [], .slice ao4 u1.length cap5⟩, ⟨68, [], .int .i64 (u1.length : Int)⟩, ⟨69, [], .int .i64 (w64 (x6 + (u1.length : Int)))⟩, ⟨70, [], .int .u64 x7⟩, ⟨71, [], .int .u32 (wu32 x7)⟩, ⟨72, [], .pointer (some ⟨g51, (w64 (x6 + (u1.length : Int))).toNat * 1, none⟩)⟩] a422 := by (try simp only [List.length_set] at hF424); (try simp only [List.length_set]); exact hF424.reg
    clear hF424
    have hM429 : Mem w.heap.size [] w Z [.own (tyInt .u32) 105 (some ⟨g51, 0, none⟩) ((w64 ((u0.length : Int) + (u1.length : Int))).toNat) (zg510v.set (w64 (x6 + (u1.length : Int))).toNat (wu32 x7))] Z wd426 := hM427; clear hM427
    refine nlH (hQ403 _ _ ?_); clear hQ403 hQ403Q
    refine ibn ?_
    refine thn ?_
    refine rgH ?_; intro hQ430Q hQ430
    refine s1 hF428 27 (.int .i64 x6) ?_; intro a431 hF432; clear hF428
    refine s1 hF432 28 (.int .i64 (w64 (x6 + 1))) ?_; intro a433 hF434; clear hF432
    refine s1 hF434 6 (.int .i64 (w64 (x6 + 1))) ?_; intro a435 hF436; clear hF434
    refine nlH (hQ430 _ _ ?_); clear hQ430 hQ430Q
    refine rd ?_
    exact ⟨⟨w64 (x6 + 1), zg510v.set (w64 (x6 + (u1.length : Int))).toNat (wu32 x7)⟩, hp419.1, hp419.2, (hF436.reg).anyβ _ (by kernel_rfl), hM429.keep (List.Sublist.cons_cons _ (List.Sublist.slnil))⟩
  ·
   have hp437 := hp75.2 hb85; clear hp75
   refine wp_exit ?_
   refine thx ?_
   refine thx ?_
   refine ibx ?_
   refine thn ?_
   refine sqH ?_; intro hQ438Q hQ438
   refine s1 hF84 73 (.slice (some ⟨g51, 0, none⟩) zg510.length ((w64 ((u0.length : Int) + (u1.length : Int))).toNat)) ?_; intro a439 hF440; clear hF84
   obtain ⟨Z441, hle442, hM443, hs444⟩ := hM74.freeze 0 rfl
   replace hs3 := hs3.mono hle442
   replace hs6 := hs6.mono hle442
   replace hle0 := Fz.le.trans hle0 hle442
   have hM445 : Mem w.heap.size [] w Z [] Z441 wd70 := hM443; clear hM443
   refine cl hF440 86 #[.slice (some ⟨g51, 0, none⟩) zg510.length ((w64 ((u0.length : Int) + (u1.length : Int))).toNat)] (nog rfl _) rfl (by kernel_rfl) (by kernel_rfl) ?_
   refine (gtrim_fun zg510 (some ⟨g51, 0, none⟩) ((w64 ((u0.length : Int) + (u1.length : Int))).toNat) _ _ hs444 hM445.fz).mono ?_; rintro _ wd446 ⟨ao450, cap451, Z453, rfl, hs452, hm⟩; refine ⟨_, rfl, ?_⟩; intro a447 hF448; have hM449 := hM445.callZ hm; have hle454 := hm.ext.le; clear hm hM445 hF440
   replace hs3 := hs3.mono hle454
   replace hs6 := hs6.mono hle454
   replace hs444 := hs444.mono hle454
   replace hle0 := Fz.le.trans hle0 hle454
   have hM455 : Mem w.heap.size [] w Z [] Z453 wd446 := hM449; clear hM449
   have hp456 := hp437 (hs452.small); clear hp437
   refine s1 hF448 4 (.slice ao450 (gtrimS zg510).length cap451) ?_; intro a457 hF458; clear hF448
   refine nlH (hQ438 _ _ ?_); clear hQ438 hQ438Q
   refine wp_ret ?_
   refine rt (fn := Tryd.f71) (v := .slice ao450 (gtrimS zg510).length cap451) hF458 (re1 hF458 (fn := Tryd.f71) rfl (by kernel_rfl)) ?_
   exact ⟨(gtrimS zg510), ao450, cap451, Z453, rfl, hp456, hs452, hM455.keep (List.Sublist.slnil)⟩

set_option maxRecDepth 100000 in
set_option maxHeartbeats 0 in
theorem ggive_walk (u0 : BInt) (u1 : Bool) (u2 : List Int) (b1 : Nat) (ao2 : Option Addr) (cap3 : Nat) (ao5 : Option Addr) (cap6 : Nat) (B : Nat) (w0 : World) (Z0 : Fz) (Rr : List Res) (Z : Fz) (w : World) (hs4 : SlR (tyInt .u32) Z ao2 cap3 u0.abs) (hs7 : SlR (tyInt .u32) Z ao5 cap6 u2) (hM0 : Mem B [] w0 Z0 ((.row b1 [.bool u0.neg, .slice ao2 u0.abs.length cap3] 71) :: Rr) Z w) (hZ : Z.on w) {K : BInt → Prop} (hp : ggive_vc u0 u1 u2 K) : Calls Tryd.prog 73 #[.pointer (some ⟨b1, 0, none⟩), .bool u1, .slice ao5 u2.length cap6] w fun e w' => ∃ (r : BInt) (ao1001 : Option Addr) (cap1002 : Nat) (Z' : Fz), e = .returned (.pointer (some ⟨b1, 0, none⟩)) ∧ K r ∧ Fz.le Z Z' ∧ SlR (tyInt .u32) Z' ao1001 cap1002 r.abs ∧ Mem B [] w0 Z0 ((.row b1 [.bool r.neg, .slice ao1001 r.abs.length cap1002] 71) :: Rr) Z' w' := by
 refine enter0 Tryd.func73 rfl rfl (by kernel_rfl) ?_; intro a0 hF0; have hle0 := Fz.le.refl Z
 have hp8 := hp (hs4.small); clear hp
 have hp9 := hp8 (hs7.small); clear hp8
 refine sqH ?_; intro hQ10Q hQ10
 refine s1 hF0 6 (.pointer none) ?_; intro a11 hF12; clear hF0
 refine nlH (hQ10 _ _ ?_); clear hQ10 hQ10Q
 refine sqH ?_; intro hQ13Q hQ13
 refine s1 hF12 7 (.pointer (some ⟨b1, 0, none⟩)) ?_; intro a14 hF15; clear hF12
 refine s1 hF15 8 (.slice ao5 u2.length cap6) ?_; intro a16 hF17; clear hF15
 refine s1 hF17 9 (.pointer (some ⟨b1, 0, none⟩)) ?_; intro a18 hF19; clear hF17
 refine s1 hF19 10 (.pointer (some ⟨b1, 1, none⟩)) ?_; intro a20 hF21; clear hF19
 refine sr hF21 hM0 0 [.bool u0.neg, .slice ao5 u2.length cap6] (b := b1) (off := 1) (cs := [.bool u0.neg, .slice ao2 u0.abs.length cap3]) (ty := 71) (u := .slice ao5 u2.length cap6) (nog rfl _) rfl rfl (by kernel_rfl) (by kernel_rfl) (by kernel_rfl) (by kernel_rfl) (by kernel_rfl) (by kernel_rfl) (by kernel_rfl) ?_; intro wd22 hM23; clear hM0
 have hM24 : Mem B [] w0 Z0 ((.row b1 [.bool u0.neg, .slice ao5 u2.length cap6] 71) :: Rr) Z wd22 := hM23; clear hM23
 refine nlH (hQ13 _ _ ?_); clear hQ13 hQ13Q
 refine sqH ?_; intro hQ25Q hQ25
 refine s1 hF21 11 (.pointer (some ⟨b1, 0, none⟩)) ?_; intro a26 hF27; clear hF21
 refine s1 hF27 12 (.bool u1) ?_; intro a28 hF29; clear hF27
 refine s1 hF29 13 (.bool u1) ?_; intro a30 hF31; clear hF29
 have hF32 := hF31.atom (u1 == true) (by kernel_rfl); clear hF31
 refine gp hF32 14 0 [] (u1) (.slice ao5 u2.length cap6) rfl rfl ?_; intro a33 hF34; clear hF32
 refine gp hF34 15 0 [] (u1) (.int .i64 (u2.length : Int)) rfl rfl ?_; intro a35 hF36; clear hF34
 refine gp hF36 16 0 [] (u1) (.bool (decide ((u2.length : Int) > 0))) rfl rfl ?_; intro a37 hF38; clear hF36
 refine st hF38 (.bool (u1 && (decide ((u2.length : Int) > 0)))) (nog rfl _) rfl (by kernel_rfl) (pk_and hF38 (g := []) (m := 0) (b := u1) (v := decide ((u2.length : Int) > 0)) rfl (by kernel_rfl) (by kernel_rfl) (by kernel_rfl) rfl) ?_; intro a39 hF40; clear hF38
 refine s1 hF40 18 (.pointer (some ⟨b1, 0, none⟩)) ?_; intro a41 hF42; clear hF40
 refine s1 hF42 19 (.pointer (some ⟨b1, 0, none⟩)) ?_; intro a43 hF44; clear hF42
 refine sr hF44 hM24 0 [.bool (u1 && (decide ((u2.length : Int) > 0))), .slice ao5 u2.length cap6] (b := b1) (off := 0) (cs := [.bool u0.neg, .slice ao5 u2.length cap6]) (ty := 71) (u := .bool (u1 && (decide ((u2.length : Int) > 0)))) (nog rfl _) rfl rfl (by kernel_rfl) (by kernel_rfl) (by kernel_rfl) (by kernel_rfl) (by kernel_rfl) (by kernel_rfl) (by kernel_rfl) ?_; intro wd45 hM46; clear hM24
 have hM47 : Mem B [] w0 Z0 ((.row b1 [.bool (u1 && (decide ((u2.length : Int) > 0))), .slice ao5 u2.length cap6] 71) :: Rr) Z wd45 := hM46; clear hM46
 refine nlH (hQ25 _ _ ?_); clear hQ25 hQ25Q
 have hF48 : Fr 21 [] [⟨0, [], .pointer (some ⟨b1, 0, none⟩)⟩] a43 := hF44.reg; clear hF44
 refine sqH ?_; intro hQ49Q hQ49
 refine s1 hF48 20 (.pointer (some ⟨b1, 0, none⟩)) ?_; intro a50 hF51; clear hF48
 refine s1 hF51 6 (.pointer (some ⟨b1, 0, none⟩)) ?_; intro a52 hF53; clear hF51
 refine nlH (hQ49 _ _ ?_); clear hQ49 hQ49Q
 refine wp_ret ?_
 refine rt (fn := Tryd.f73) (v := .pointer (some ⟨b1, 0, none⟩)) hF53 (re1 hF53 (fn := Tryd.f73) rfl (by kernel_rfl)) ?_
 exact ⟨(⟨u1 && (decide ((u2.length : Int) > 0)), u2⟩ : BInt), ao5, cap6, Z, rfl, hp9, hle0, hs7, hM47.keep (List.Sublist.cons_cons _ (List.Sublist.refl _))⟩
theorem ggive_fun (u0 : BInt) (u1 : Bool) (u2 : List Int) (b1 : Nat) (ao2 : Option Addr) (cap3 : Nat) (ao5 : Option Addr) (cap6 : Nat) (B : Nat) (w0 : World) (Z0 : Fz) (Rr : List Res) (Z : Fz) (w : World) (hs4 : SlR (tyInt .u32) Z ao2 cap3 u0.abs) (hs7 : SlR (tyInt .u32) Z ao5 cap6 u2) (hM0 : Mem B [] w0 Z0 ((.row b1 [.bool u0.neg, .slice ao2 u0.abs.length cap3] 71) :: Rr) Z w) (hZ : Z.on w) : Calls Tryd.prog 73 #[.pointer (some ⟨b1, 0, none⟩), .bool u1, .slice ao5 u2.length cap6] w fun e w' => ∃ (ao1001 : Option Addr) (cap1002 : Nat) (Z' : Fz), e = .returned (.pointer (some ⟨b1, 0, none⟩)) ∧ Fz.le Z Z' ∧ SlR (tyInt .u32) Z' ao1001 cap1002 (ggive u0 u1 u2).abs ∧ Mem B [] w0 Z0 ((.row b1 [.bool (ggive u0 u1 u2).neg, .slice ao1001 (ggive u0 u1 u2).abs.length cap1002] 71) :: Rr) Z' w' :=
  (ggive_walk u0 u1 u2 b1 ao2 cap3 ao5 cap6 B w0 Z0 Rr Z w hs4 hs7 hM0 hZ (ggive_ok u0 u1 u2)).mono fun _ _ ⟨r, h0, h1, h2, he, hk, f0, f1, hm⟩ => by subst hk; exact ⟨h0, h1, h2, he, f0, f1, hm⟩

set_option maxRecDepth 100000 in
set_option maxHeartbeats 0 in
theorem guint64_walk (u0 : BInt) (b1 : Nat) (ao2 : Option Addr) (cap3 : Nat) (B : Nat) (w0 : World) (Z0 : Fz) (Rr : List Res) (Z : Fz) (w : World) (hs4 : SlR (tyInt .u32) Z ao2 cap3 u0.abs) (hM0 : Mem B [] w0 Z0 ((.row b1 [.bool u0.neg, .slice ao2 u0.abs.length cap3] 71) :: Rr) Z w) (hZ : Z.on w) {K : (Int × BInt) → Prop} (hp : guint64_vc u0 K) : Calls Tryd.prog 45 #[.pointer (some ⟨b1, 0, none⟩)] w fun e w' => ∃ (r : Int × BInt) (ao1001 : Option Addr) (cap1002 : Nat) (Z' : Fz), e = .returned (.int .u64 r.1) ∧ K r ∧ Fz.le Z Z' ∧ SlR (tyInt .u32) Z' ao1001 cap1002 r.2.abs ∧ Mem B [] w0 Z0 ((.row b1 [.bool r.2.neg, .slice ao1001 r.2.abs.length cap1002] 71) :: Rr) Z' w' := by
 refine enter0 Tryd.func45 rfl rfl (by kernel_rfl) ?_; intro a0 hF0; have hle0 := Fz.le.refl Z
 have hp5 := hp (hs4.small); clear hp
 refine sqH ?_; intro hQ6Q hQ6
 refine s1 hF0 2 (.int .u64 0) ?_; intro a7 hF8; clear hF0
 refine nlH (hQ6 _ _ ?_); clear hQ6 hQ6Q
 refine sqH ?_; intro hQ9Q hQ9
 refine s1 hF8 3 (.int .u64 0) ?_; intro a10 hF11; clear hF8
 refine nlH (hQ9 _ _ ?_); clear hQ9 hQ9Q
 refine wp_seq ?_
 refine sqH ?_; intro hQ12Q hQ12
 refine s1 hF11 4 (.pointer (some ⟨b1, 0, none⟩)) ?_; intro a13 hF14; clear hF11
 refine s1 hF14 5 (.pointer (some ⟨b1, 0, none⟩)) ?_; intro a15 hF16; clear hF14
 refine s1 hF16 6 (.pointer (some ⟨b1, 1, none⟩)) ?_; intro a17 hF18; clear hF16
 refine l1 hF18 hM0 7 0 1 (.slice ao2 u0.abs.length cap3) rfl rfl ?_; intro a19 hF20; clear hF18
 refine s1 hF20 8 (.int .i64 (u0.abs.length : Int)) ?_; intro a21 hF22; clear hF20
 refine s1 hF22 9 (.bool (decide ((u0.abs.length : Int) > 0))) ?_; intro a23 hF24; clear hF22
 refine nlH (hQ12 _ _ ?_); clear hQ12 hQ12Q
 refine cd hF24 (t := decide ((u0.abs.length : Int) > 0)) (by kernel_rfl) (fun hb25 => ?_) (fun hb25 => ?_)
 ·
  have hp26 := hp5.1 hb25; clear hp5
  refine rgH ?_; intro hQ27Q hQ27
  refine s1 hF24 10 (.pointer (some ⟨b1, 0, none⟩)) ?_; intro a28 hF29; clear hF24
  refine s1 hF29 11 (.pointer (some ⟨b1, 0, none⟩)) ?_; intro a30 hF31; clear hF29
  refine s1 hF31 12 (.pointer (some ⟨b1, 1, none⟩)) ?_; intro a32 hF33; clear hF31
  refine l1 hF33 hM0 13 0 1 (.slice ao2 u0.abs.length cap3) rfl rfl ?_; intro a34 hF35; clear hF33
  have hc36 := hp26.1; have hp37 := hp26.2; clear hp26
  refine ix hF35 (T := (tyInt .u32)) (xs := u0.abs) hs4 (0 : Int) hc36 (k := .i64) (e := 105) (bytes := 4) (nog rfl _) rfl (by kernel_rfl) rfl (by kernel_rfl) (by kernel_rfl) (by kernel_rfl) ?_; intro b38 off39 cs40 q41 a45 hq42 hP43 hT44 hF46; clear hF35
  have hp47 := hp37 q41 hq42; clear hp37
  obtain rfl : cs40 = ([.int .u32 q41] : List Value) := hT44
  refine z1 hF46 hM0 15 hP43 0 (.int .u32 q41) rfl ?_; intro a48 hF49; clear hF46
  refine s1 hF49 16 (.int .u64 (wu64 q41)) ?_; intro a50 hF51; clear hF49
  refine s1 hF51 3 (.int .u64 (wu64 q41)) ?_; intro a52 hF53; clear hF51
  refine nlH (hQ27 _ _ ?_); clear hQ27 hQ27Q
  refine thn ?_
  refine wp_seq ?_
  have hF54 : Fr 34 [] [⟨0, [], .pointer (some ⟨b1, 0, none⟩)⟩, ⟨3, [], .int .u64 (wu64 q41)⟩] a52 := hF53.reg; clear hF53
  refine sqH ?_; intro hQ55Q hQ55
  refine s1 hF54 17 (.pointer (some ⟨b1, 0, none⟩)) ?_; intro a56 hF57; clear hF54
  refine s1 hF57 18 (.pointer (some ⟨b1, 0, none⟩)) ?_; intro a58 hF59; clear hF57
  refine s1 hF59 19 (.pointer (some ⟨b1, 1, none⟩)) ?_; intro a60 hF61; clear hF59
  refine l1 hF61 hM0 20 0 1 (.slice ao2 u0.abs.length cap3) rfl rfl ?_; intro a62 hF63; clear hF61
  refine s1 hF63 21 (.int .i64 (u0.abs.length : Int)) ?_; intro a64 hF65; clear hF63
  refine s1 hF65 22 (.bool (decide ((u0.abs.length : Int) > 1))) ?_; intro a66 hF67; clear hF65
  refine nlH (hQ55 _ _ ?_); clear hQ55 hQ55Q
  refine cd hF67 (t := decide ((u0.abs.length : Int) > 1)) (by kernel_rfl) (fun hb68 => ?_) (fun hb68 => ?_)
  ·
   have hp69 := hp47.1 hb68; clear hp47
   refine rgH ?_; intro hQ70Q hQ70
   refine s1 hF67 23 (.int .u64 (wu64 q41)) ?_; intro a71 hF72; clear hF67
   refine s1 hF72 24 (.pointer (some ⟨b1, 0, none⟩)) ?_; intro a73 hF74; clear hF72
   refine s1 hF74 25 (.pointer (some ⟨b1, 0, none⟩)) ?_; intro a75 hF76; clear hF74
   refine s1 hF76 26 (.pointer (some ⟨b1, 1, none⟩)) ?_; intro a77 hF78; clear hF76
   refine l1 hF78 hM0 27 0 1 (.slice ao2 u0.abs.length cap3) rfl rfl ?_; intro a79 hF80; clear hF78
   have hc81 := hp69.1; have hp82 := hp69.2; clear hp69
   refine ix hF80 (T := (tyInt .u32)) (xs := u0.abs) hs4 (1 : Int) hc81 (k := .i64) (e := 105) (bytes := 4) (nog rfl _) rfl (by kernel_rfl) rfl (by kernel_rfl) (by kernel_rfl) (by kernel_rfl) ?_; intro b83 off84 cs85 q86 a90 hq87 hP88 hT89 hF91; clear hF80
   have hp92 := hp82 q86 hq87; clear hp82
   obtain rfl : cs85 = ([.int .u32 q86] : List Value) := hT89
   refine z1 hF91 hM0 29 hP88 0 (.int .u32 q86) rfl ?_; intro a93 hF94; clear hF91
   refine s1 hF94 30 (.int .u64 (wu64 q86)) ?_; intro a95 hF96; clear hF94
   refine s1 hF96 31 (.int .u64 (bShl .u64 (wu64 q86) 32)) ?_; intro a97 hF98; clear hF96
   refine s1 hF98 32 (.int .u64 (bOr .u64 (wu64 q41) (bShl .u64 (wu64 q86) 32))) ?_; intro a99 hF100; clear hF98
   refine s1 hF100 3 (.int .u64 (bOr .u64 (wu64 q41) (bShl .u64 (wu64 q86) 32))) ?_; intro a101 hF102; clear hF100
   refine nlH (hQ70 _ _ ?_); clear hQ70 hQ70Q
   refine thn ?_
   have hF103 : Fr 34 [] [⟨3, [], .int .u64 (bOr .u64 (wu64 q41) (bShl .u64 (wu64 q86) 32))⟩] a101 := hF102.reg; clear hF102
   refine sqH ?_; intro hQ104Q hQ104
   refine s1 hF103 33 (.int .u64 (bOr .u64 (wu64 q41) (bShl .u64 (wu64 q86) 32))) ?_; intro a105 hF106; clear hF103
   refine s1 hF106 2 (.int .u64 (bOr .u64 (wu64 q41) (bShl .u64 (wu64 q86) 32))) ?_; intro a107 hF108; clear hF106
   refine nlH (hQ104 _ _ ?_); clear hQ104 hQ104Q
   refine wp_ret ?_
   refine rt (fn := Tryd.f45) (v := .int .u64 (bOr .u64 (wu64 q41) (bShl .u64 (wu64 q86) 32))) hF108 (re1 hF108 (fn := Tryd.f45) rfl (by kernel_rfl)) ?_
   exact ⟨(bOr .u64 (wu64 q41) (bShl .u64 (wu64 q86) 32), u0), ao2, cap3, Z, rfl, hp92, hle0, hs4, hM0.keep (List.Sublist.cons_cons _ (List.Sublist.refl _))⟩
  ·
   have hp109 := hp47.2 hb68; clear hp47
   refine wp_skip ?_
   refine thn ?_
   refine sqH ?_; intro hQ110Q hQ110
   refine s1 hF67 33 (.int .u64 (wu64 q41)) ?_; intro a111 hF112; clear hF67
   refine s1 hF112 2 (.int .u64 (wu64 q41)) ?_; intro a113 hF114; clear hF112
   refine nlH (hQ110 _ _ ?_); clear hQ110 hQ110Q
   refine wp_ret ?_
   refine rt (fn := Tryd.f45) (v := .int .u64 (wu64 q41)) hF114 (re1 hF114 (fn := Tryd.f45) rfl (by kernel_rfl)) ?_
   exact ⟨(wu64 q41, u0), ao2, cap3, Z, rfl, hp109, hle0, hs4, hM0.keep (List.Sublist.cons_cons _ (List.Sublist.refl _))⟩
 ·
  have hp115 := hp5.2 hb25; clear hp5
  refine wp_skip ?_
  refine thn ?_
  refine wp_seq ?_
  refine sqH ?_; intro hQ116Q hQ116
  refine s1 hF24 17 (.pointer (some ⟨b1, 0, none⟩)) ?_; intro a117 hF118; clear hF24
  refine s1 hF118 18 (.pointer (some ⟨b1, 0, none⟩)) ?_; intro a119 hF120; clear hF118
  refine s1 hF120 19 (.pointer (some ⟨b1, 1, none⟩)) ?_; intro a121 hF122; clear hF120
  refine l1 hF122 hM0 20 0 1 (.slice ao2 u0.abs.length cap3) rfl rfl ?_; intro a123 hF124; clear hF122
  refine s1 hF124 21 (.int .i64 (u0.abs.length : Int)) ?_; intro a125 hF126; clear hF124
  refine s1 hF126 22 (.bool (decide ((u0.abs.length : Int) > 1))) ?_; intro a127 hF128; clear hF126
  refine nlH (hQ116 _ _ ?_); clear hQ116 hQ116Q
  refine cd hF128 (t := decide ((u0.abs.length : Int) > 1)) (by kernel_rfl) (fun hb129 => ?_) (fun hb129 => ?_)
  ·
   have hp130 := hp115.1 hb129; clear hp115
   have hF131 : Fr 34 [] [⟨0, [], .pointer (some ⟨b1, 0, none⟩)⟩, ⟨3, [], .int .u64 0⟩] a127 := hF128.reg; clear hF128
   refine rgH ?_; intro hQ132Q hQ132
   refine s1 hF131 23 (.int .u64 0) ?_; intro a133 hF134; clear hF131
   refine s1 hF134 24 (.pointer (some ⟨b1, 0, none⟩)) ?_; intro a135 hF136; clear hF134
   refine s1 hF136 25 (.pointer (some ⟨b1, 0, none⟩)) ?_; intro a137 hF138; clear hF136
   refine s1 hF138 26 (.pointer (some ⟨b1, 1, none⟩)) ?_; intro a139 hF140; clear hF138
   refine l1 hF140 hM0 27 0 1 (.slice ao2 u0.abs.length cap3) rfl rfl ?_; intro a141 hF142; clear hF140
   have hc143 := hp130.1; have hp144 := hp130.2; clear hp130
   refine ix hF142 (T := (tyInt .u32)) (xs := u0.abs) hs4 (1 : Int) hc143 (k := .i64) (e := 105) (bytes := 4) (nog rfl _) rfl (by kernel_rfl) rfl (by kernel_rfl) (by kernel_rfl) (by kernel_rfl) ?_; intro b145 off146 cs147 q148 a152 hq149 hP150 hT151 hF153; clear hF142
   have hp154 := hp144 q148 hq149; clear hp144
   obtain rfl : cs147 = ([.int .u32 q148] : List Value) := hT151
   refine z1 hF153 hM0 29 hP150 0 (.int .u32 q148) rfl ?_; intro a155 hF156; clear hF153
   refine s1 hF156 30 (.int .u64 (wu64 q148)) ?_; intro a157 hF158; clear hF156
   refine s1 hF158 31 (.int .u64 (bShl .u64 (wu64 q148) 32)) ?_; intro a159 hF160; clear hF158
   refine s1 hF160 32 (.int .u64 (bOr .u64 0 (bShl .u64 (wu64 q148) 32))) ?_; intro a161 hF162; clear hF160
   refine s1 hF162 3 (.int .u64 (bOr .u64 0 (bShl .u64 (wu64 q148) 32))) ?_; intro a163 hF164; clear hF162
   refine nlH (hQ132 _ _ ?_); clear hQ132 hQ132Q
   refine thn ?_
   refine sqH ?_; intro hQ165Q hQ165
   refine s1 hF164 33 (.int .u64 (bOr .u64 0 (bShl .u64 (wu64 q148) 32))) ?_; intro a166 hF167; clear hF164
   refine s1 hF167 2 (.int .u64 (bOr .u64 0 (bShl .u64 (wu64 q148) 32))) ?_; intro a168 hF169; clear hF167
   refine nlH (hQ165 _ _ ?_); clear hQ165 hQ165Q
   refine wp_ret ?_
   refine rt (fn := Tryd.f45) (v := .int .u64 (bOr .u64 0 (bShl .u64 (wu64 q148) 32))) hF169 (re1 hF169 (fn := Tryd.f45) rfl (by kernel_rfl)) ?_
   exact ⟨(bOr .u64 0 (bShl .u64 (wu64 q148) 32), u0), ao2, cap3, Z, rfl, hp154, hle0, hs4, hM0.keep (List.Sublist.cons_cons _ (List.Sublist.refl _))⟩
  ·
   have hp170 := hp115.2 hb129; clear hp115
   refine wp_skip ?_
   refine thn ?_
   have hF171 : Fr 34 [] [⟨3, [], .int .u64 0⟩] a127 := hF128.reg; clear hF128
   refine sqH ?_; intro hQ172Q hQ172
   refine s1 hF171 33 (.int .u64 0) ?_; intro a173 hF174; clear hF171
   refine s1 hF174 2 (.int .u64 0) ?_; intro a175 hF176; clear hF174
   refine nlH (hQ172 _ _ ?_); clear hQ172 hQ172Q
   refine wp_ret ?_
   refine rt (fn := Tryd.f45) (v := .int .u64 0) hF176 (re1 hF176 (fn := Tryd.f45) rfl (by kernel_rfl)) ?_
   exact ⟨(0, u0), ao2, cap3, Z, rfl, hp170, hle0, hs4, hM0.keep (List.Sublist.cons_cons _ (List.Sublist.refl _))⟩

end Go.Proofs.YtfafpnacflcgmaaDoor
