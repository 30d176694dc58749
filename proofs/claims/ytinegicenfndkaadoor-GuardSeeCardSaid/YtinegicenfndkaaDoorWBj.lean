/- The walks, made by program: each call does what its pure predicate says. -/
import Derived.Test.YtinegicenfndkaaDoorPBj
import Derived.Test.YtinegicenfndkaaDoorWBi
set_option linter.unusedVariables false
set_option linter.unusedSimpArgs false
namespace Go.Proofs.YtinegicenfndkaaDoor
open Go.Sy Go.RowKit
theorem rrow_fun (u0 : Int) (u1 : Int) (hpre : u0 ≤ 9223372036854775807 ∧ u1 ≤ 1000000)  (Z : Fz) (w : World) (hg5 : SlR (tyInt .u8) Z (some ⟨5, 0, none⟩) 64 deBruijn64) (hZ : Z.on w) : Calls Tryd.prog 60 #[.int .i64 u0, .int .i64 u1] w fun e w' => e = .returned (.tuple #[str ((rrowS u0 u1).1), .bool ((rrowS u0 u1).2)]) ∧ Below w.heap.size w w' :=
  (rrow_walk u0 u1  Z w hg5 hZ (rrow_ok u0 u1 hpre)).mono fun _ _ ⟨r, he, hk, hb⟩ => ⟨by subst hk; exact he, hb⟩

theorem gnew_fun (u0 : Int) (hpre : 0 ≤ u0 ∧ u0 ≤ 9223372036854775807)  (Z : Fz) (w : World)  (hZ : Z.on w) : Calls Tryd.prog 56 #[.int .i64 u0] w fun e w' => ∃ (b1001 : Nat) (ao1002 : Option Addr) (cap1003 : Nat) (Z' : Fz), e = .returned (.pointer (some ⟨b1001, 0, none⟩)) ∧ SlR (tyInt .u32) Z' ao1002 cap1003 (gnewS u0).abs ∧ Mem w.heap.size [] w Z [.row b1001 [.bool (gnewS u0).neg, .slice ao1002 (gnewS u0).abs.length cap1003] 93] Z' w' :=
  (gnew_walk u0  Z w  hZ (gnew_ok u0 hpre)).mono fun _ _ ⟨r, h0, h1, h2, h3, he, hk, f0, hm⟩ => by subst hk; exact ⟨h0, h1, h2, h3, he, f0, hm⟩

theorem rvalue_fun (u0 : List UInt8) (hpre : isRow u0 = true ∧ u0.length ≤ 1000)  (Z : Fz) (w : World)  (hZ : Z.on w) : Calls Tryd.prog 54 #[str u0] w fun e w' => ∃ (b1001 : Nat) (ao1002 : Option Addr) (cap1003 : Nat) (Z' : Fz), e = .returned (.pointer (some ⟨b1001, 0, none⟩)) ∧ SlR (tyInt .u32) Z' ao1002 cap1003 (rvalueS u0).abs ∧ Mem w.heap.size [] w Z [.row b1001 [.bool (rvalueS u0).neg, .slice ao1002 (rvalueS u0).abs.length cap1003] 93] Z' w' :=
  (rvalue_walk u0  Z w  hZ (rvalue_ok u0 hpre)).mono fun _ _ ⟨r, h0, h1, h2, h3, he, hk, f0, hm⟩ => by subst hk; exact ⟨h0, h1, h2, h3, he, f0, hm⟩

set_option maxRecDepth 100000 in
set_option maxHeartbeats 0 in
theorem rsumof_walk (u0 : Int) (u1 : List UInt8)  (Z : Fz) (w : World) (hg5 : SlR (tyInt .u8) Z (some ⟨5, 0, none⟩) 64 deBruijn64) (hZ : Z.on w) {K : (List UInt8) → Prop} (hp : rsumof_vc u0 u1 K) : Calls Tryd.prog 19 #[.int .i64 u0, str u1] w fun e w' => ∃ r : (List UInt8), e = .returned (str r) ∧ K r ∧ Below w.heap.size w w' := by
 refine enter0 Tryd.func19 rfl rfl (by kernel_rfl) ?_; intro a0 hF0; have hM0 := Mem.start w Z hZ; have hle0 := Fz.le.refl Z
 refine sqH ?_; intro hQ1Q hQ1
 refine s1 hF0 4 (str []) ?_; intro a2 hF3; clear hF0
 refine nlH (hQ1 _ _ ?_); clear hQ1 hQ1Q
 refine sqH ?_; intro hQ4Q hQ4
 refine sn hF3 hM0 (fun b => .slice (some ⟨b, 0, none⟩) 5 5) [.int .i64 15, .int .i64 17, .int .i64 21, .int .i64 8, .int .i64 16] 3 (nog rfl _) rfl (by kernel_rfl) (by kernel_rfl) ?_; intro b5 a6 wd8 hF7 hM9; clear hF3 hM0
 refine s1 hF7 15 (.int .i64 u0) ?_; intro a10 hF11; clear hF7
 have hM12 : Mem w.heap.size [] w Z [.own (tyInt .i64) 3 (some ⟨b5, 0, none⟩) 5 ([15, 17, 21, 8, 16] : List Int)] Z wd8 := hM9.rowOwn (T := (tyInt .i64)) (xs := ([15, 17, 21, 8, 16] : List Int)) 0 rfl (by decide) (by show 5 ≤ lim; decide) ((RepAll.one (T := (tyInt .i64)) (x := 15) rfl).append ((RepAll.one (T := (tyInt .i64)) (x := 17) rfl).append ((RepAll.one (T := (tyInt .i64)) (x := 21) rfl).append ((RepAll.one (T := (tyInt .i64)) (x := 8) rfl).append (RepAll.one (T := (tyInt .i64)) (x := 16) rfl))))); clear hM9
 obtain ⟨Z13, hle14, hM15, hs16⟩ := hM12.freeze 0 rfl
 replace hg5 := hg5.mono hle14
 replace hle0 := Fz.le.trans hle0 hle14
 have hM17 : Mem w.heap.size [] w Z [] Z13 wd8 := hM15; clear hM15
 have hc18 := hp.1; have hp19 := hp.2; clear hp
 refine ix hF11 (T := (tyInt .i64)) (xs := ([15, 17, 21, 8, 16] : List Int)) hs16 u0 hc18 (k := .i64) (e := 3) (bytes := 8) (nog rfl _) rfl (by kernel_rfl) rfl (by kernel_rfl) (by kernel_rfl) (by kernel_rfl) ?_; intro b20 off21 cs22 q23 a27 hq24 hP25 hT26 hF28; clear hF11
 have hp29 := hp19 q23 hq24; clear hp19
 obtain rfl : cs22 = ([.int .i64 q23] : List Value) := hT26
 refine z1 hF28 hM17 17 hP25 0 (.int .i64 q23) rfl ?_; intro a30 hF31; clear hF28
 refine s1 hF31 5 (.int .i64 q23) ?_; intro a32 hF33; clear hF31
 refine nlH (hQ4 _ _ ?_); clear hQ4 hQ4Q
 refine sqH ?_; intro hQ34Q hQ34
 refine sn hF33 hM17 (fun b => .slice (some ⟨b, 0, none⟩) 5 5) [.int .i64 17817, .int .i64 92251, .int .i64 1058969, .int .i64 47, .int .i64 4129] 2 (nog rfl _) rfl (by kernel_rfl) (by kernel_rfl) ?_; intro b35 a36 wd38 hF37 hM39; clear hF33 hM17
 refine s1 hF37 19 (.int .i64 u0) ?_; intro a40 hF41; clear hF37
 have hM42 : Mem w.heap.size [] w Z [.own (tyInt .i64) 2 (some ⟨b35, 0, none⟩) 5 ([17817, 92251, 1058969, 47, 4129] : List Int)] Z13 wd38 := hM39.rowOwn (T := (tyInt .i64)) (xs := ([17817, 92251, 1058969, 47, 4129] : List Int)) 0 rfl (by decide) (by show 5 ≤ lim; decide) ((RepAll.one (T := (tyInt .i64)) (x := 17817) rfl).append ((RepAll.one (T := (tyInt .i64)) (x := 92251) rfl).append ((RepAll.one (T := (tyInt .i64)) (x := 1058969) rfl).append ((RepAll.one (T := (tyInt .i64)) (x := 47) rfl).append (RepAll.one (T := (tyInt .i64)) (x := 4129) rfl))))); clear hM39
 obtain ⟨Z43, hle44, hM45, hs46⟩ := hM42.freeze 0 rfl
 replace hg5 := hg5.mono hle44
 replace hs16 := hs16.mono hle44
 replace hP25 := hP25.mono hle44
 replace hle0 := Fz.le.trans hle0 hle44
 have hM47 : Mem w.heap.size [] w Z [] Z43 wd38 := hM45; clear hM45
 have hc48 := hp29.1; have hp49 := hp29.2; clear hp29
 refine ix hF41 (T := (tyInt .i64)) (xs := ([17817, 92251, 1058969, 47, 4129] : List Int)) hs46 u0 hc48 (k := .i64) (e := 2) (bytes := 8) (nog rfl _) rfl (by kernel_rfl) rfl (by kernel_rfl) (by kernel_rfl) (by kernel_rfl) ?_; intro b50 off51 cs52 q53 a57 hq54 hP55 hT56 hF58; clear hF41
 have hp59 := hp49 q53 hq54; clear hp49
 obtain rfl : cs52 = ([.int .i64 q53] : List Value) := hT56
 refine z1 hF58 hM47 21 hP55 0 (.int .i64 q53) rfl ?_; intro a60 hF61; clear hF58
 refine s1 hF61 6 (.int .i64 q53) ?_; intro a62 hF63; clear hF61
 refine nlH (hQ34 _ _ ?_); clear hQ34 hQ34Q
 refine sqH ?_; intro hQ64Q hQ64
 refine sn hF63 hM47 (fun b => .slice (some ⟨b, 0, none⟩) 5 5) [.int .i64 0, .int .i64 65536, .int .i64 1048576, .int .i64 255, .int .i64 65535] 2 (nog rfl _) rfl (by kernel_rfl) (by kernel_rfl) ?_; intro b65 a66 wd68 hF67 hM69; clear hF63 hM47
 refine s1 hF67 23 (.int .i64 u0) ?_; intro a70 hF71; clear hF67
 have hM72 : Mem w.heap.size [] w Z [.own (tyInt .i64) 2 (some ⟨b65, 0, none⟩) 5 ([0, 65536, 1048576, 255, 65535] : List Int)] Z43 wd68 := hM69.rowOwn (T := (tyInt .i64)) (xs := ([0, 65536, 1048576, 255, 65535] : List Int)) 0 rfl (by decide) (by show 5 ≤ lim; decide) ((RepAll.one (T := (tyInt .i64)) (x := 0) rfl).append ((RepAll.one (T := (tyInt .i64)) (x := 65536) rfl).append ((RepAll.one (T := (tyInt .i64)) (x := 1048576) rfl).append ((RepAll.one (T := (tyInt .i64)) (x := 255) rfl).append (RepAll.one (T := (tyInt .i64)) (x := 65535) rfl))))); clear hM69
 obtain ⟨Z73, hle74, hM75, hs76⟩ := hM72.freeze 0 rfl
 replace hg5 := hg5.mono hle74
 replace hs16 := hs16.mono hle74
 replace hP25 := hP25.mono hle74
 replace hs46 := hs46.mono hle74
 replace hP55 := hP55.mono hle74
 replace hle0 := Fz.le.trans hle0 hle74
 have hM77 : Mem w.heap.size [] w Z [] Z73 wd68 := hM75; clear hM75
 have hc78 := hp59.1; have hp79 := hp59.2; clear hp59
 refine ix hF71 (T := (tyInt .i64)) (xs := ([0, 65536, 1048576, 255, 65535] : List Int)) hs76 u0 hc78 (k := .i64) (e := 2) (bytes := 8) (nog rfl _) rfl (by kernel_rfl) rfl (by kernel_rfl) (by kernel_rfl) (by kernel_rfl) ?_; intro b80 off81 cs82 q83 a87 hq84 hP85 hT86 hF88; clear hF71
 have hp89 := hp79 q83 hq84; clear hp79
 obtain rfl : cs82 = ([.int .i64 q83] : List Value) := hT86
 refine z1 hF88 hM77 25 hP85 0 (.int .i64 q83) rfl ?_; intro a90 hF91; clear hF88
 refine s1 hF91 7 (.int .i64 q83) ?_; intro a92 hF93; clear hF91
 refine nlH (hQ64 _ _ ?_); clear hQ64 hQ64Q
 have hF94 : Fr 83 [] [⟨0, [], .int .i64 u0⟩, ⟨1, [], str u1⟩, ⟨5, [], .int .i64 q23⟩, ⟨6, [], .int .i64 q53⟩, ⟨7, [], .int .i64 q83⟩] a92 := hF93.region (by kernel_rfl) (by kernel_rfl); clear hF93
 refine sqH ?_; intro hQ95Q hQ95
 refine sn hF94 hM77 (fun b => .slice (some ⟨b, 0, none⟩) 5 5) [.int .i64 0, .int .i64 0, .int .i64 0, .int .i64 255, .int .i64 0] 2 (nog rfl _) rfl (by kernel_rfl) (by kernel_rfl) ?_; intro b96 a97 wd99 hF98 hM100; clear hF94 hM77
 refine s1 hF98 27 (.int .i64 u0) ?_; intro a101 hF102; clear hF98
 have hM103 : Mem w.heap.size [] w Z [.own (tyInt .i64) 2 (some ⟨b96, 0, none⟩) 5 ([0, 0, 0, 255, 0] : List Int)] Z73 wd99 := hM100.rowOwn (T := (tyInt .i64)) (xs := ([0, 0, 0, 255, 0] : List Int)) 0 rfl (by decide) (by show 5 ≤ lim; decide) ((RepAll.one (T := (tyInt .i64)) (x := 0) rfl).append ((RepAll.one (T := (tyInt .i64)) (x := 0) rfl).append ((RepAll.one (T := (tyInt .i64)) (x := 0) rfl).append ((RepAll.one (T := (tyInt .i64)) (x := 255) rfl).append (RepAll.one (T := (tyInt .i64)) (x := 0) rfl))))); clear hM100
 obtain ⟨Z104, hle105, hM106, hs107⟩ := hM103.freeze 0 rfl
 replace hg5 := hg5.mono hle105
 replace hs16 := hs16.mono hle105
 replace hP25 := hP25.mono hle105
 replace hs46 := hs46.mono hle105
 replace hP55 := hP55.mono hle105
 replace hs76 := hs76.mono hle105
 replace hP85 := hP85.mono hle105
 replace hle0 := Fz.le.trans hle0 hle105
 have hM108 : Mem w.heap.size [] w Z [] Z104 wd99 := hM106; clear hM106
 have hc109 := hp89.1; have hp110 := hp89.2; clear hp89
 refine ix hF102 (T := (tyInt .i64)) (xs := ([0, 0, 0, 255, 0] : List Int)) hs107 u0 hc109 (k := .i64) (e := 2) (bytes := 8) (nog rfl _) rfl (by kernel_rfl) rfl (by kernel_rfl) (by kernel_rfl) (by kernel_rfl) ?_; intro b111 off112 cs113 q114 a118 hq115 hP116 hT117 hF119; clear hF102
 have hp120 := hp110 q114 hq115; clear hp110
 obtain rfl : cs113 = ([.int .i64 q114] : List Value) := hT117
 refine z1 hF119 hM108 29 hP116 0 (.int .i64 q114) rfl ?_; intro a121 hF122; clear hF119
 refine s1 hF122 8 (.int .i64 q114) ?_; intro a123 hF124; clear hF122
 refine nlH (hQ95 _ _ ?_); clear hQ95 hQ95Q
 refine sqH ?_; intro hQ125Q hQ125
 refine s1 hF124 30 (str u1) ?_; intro a126 hF127; clear hF124
 have hc128 := hp120.1; have hp129 := hp120.2; clear hp120
 refine cl hF127 54 #[str u1] (nog rfl _) rfl (by kernel_rfl) (by kernel_rfl) ?_
 refine (rvalue_fun u1 hc128 _ _ hM108.fz).mono ?_; rintro _ wd130 ⟨b134, ao135, cap136, Z138, rfl, hs137, hm⟩; refine ⟨_, rfl, ?_⟩; intro a131 hF132; have hM133 := hM108.callZ hm; have hle139 := hm.ext.le; clear hm hM108 hF127
 replace hg5 := hg5.mono hle139
 replace hs16 := hs16.mono hle139
 replace hP25 := hP25.mono hle139
 replace hs46 := hs46.mono hle139
 replace hP55 := hP55.mono hle139
 replace hs76 := hs76.mono hle139
 replace hP85 := hP85.mono hle139
 replace hs107 := hs107.mono hle139
 replace hP116 := hP116.mono hle139
 replace hle0 := Fz.le.trans hle0 hle139
 have hM140 : Mem w.heap.size [] w Z [.row b134 [.bool ((rvalueS u1).neg), .slice ao135 ((rvalueS u1).abs).length cap136] 93] Z138 wd130 := hM133; clear hM133
 refine s1 hF132 9 (.pointer (some ⟨b134, 0, none⟩)) ?_; intro a141 hF142; clear hF132
 refine nlH (hQ125 _ _ ?_); clear hQ125 hQ125Q
 refine sqH ?_; intro hQ143Q hQ143
 refine s1 hF142 32 (.pointer (some ⟨b134, 0, none⟩)) ?_; intro a144 hF145; clear hF142
 refine s1 hF145 33 (.pointer (some ⟨b134, 0, none⟩)) ?_; intro a146 hF147; clear hF145
 refine s1 hF147 34 (.int .i64 q23) ?_; intro a148 hF149; clear hF147
 refine s1 hF149 35 (.int .u64 (wu64 q23)) ?_; intro a150 hF151; clear hF149
 have hc152 := hp129.1; have hp153 := hp129.2; clear hp129
 refine cl hF151 55 #[.pointer (some ⟨b134, 0, none⟩), .pointer (some ⟨b134, 0, none⟩), .int .u64 (wu64 q23)] (nog rfl _) rfl (by kernel_rfl) (by kernel_rfl) ?_
 obtain ⟨r158, hr159⟩ : ∃ x, (glshAS (rvalueS u1) (wu64 q23)) = x := ⟨_, rfl⟩; have hp160 := hp153 r158 hr159; clear hp153
 have h9 := glshA_fun (rvalueS u1) (wu64 q23) hc152 b134 ao135 cap136 _ _ _ _ _ _ hs137 hM140 hM140.fz; rw [hr159] at h9; refine h9.mono ?_; clear h9; rintro _ wd154 ⟨ao162, cap163, Z165, rfl, hle166, hs164, hm⟩; refine ⟨_, rfl, ?_⟩; intro a155 hF156; have hM157 := hm; clear hm hM140 hF151
 replace hg5 := hg5.mono hle166
 replace hs16 := hs16.mono hle166
 replace hP25 := hP25.mono hle166
 replace hs46 := hs46.mono hle166
 replace hP55 := hP55.mono hle166
 replace hs76 := hs76.mono hle166
 replace hP85 := hP85.mono hle166
 replace hs107 := hs107.mono hle166
 replace hP116 := hP116.mono hle166
 replace hs137 := hs137.mono hle166
 replace hle0 := Fz.le.trans hle0 hle166
 have hM167 : Mem w.heap.size [] w Z [.row b134 [.bool r158.neg, .slice ao162 r158.abs.length cap163] 93] Z165 wd154 := hM157; clear hM157
 have hp168 := hp160 (hs164.small); clear hp160
 refine nlH (hQ143 _ _ ?_); clear hQ143 hQ143Q
 refine sqH ?_; intro hQ169Q hQ169
 refine s1 hF156 37 (.int .i64 q83) ?_; intro a170 hF171; clear hF156
 have hc172 := hp168.1; have hp173 := hp168.2; clear hp168
 refine cl hF171 56 #[.int .i64 q83] (nog rfl _) rfl (by kernel_rfl) (by kernel_rfl) ?_
 refine (gnew_fun q83 hc172 _ _ hM167.fz).mono ?_; rintro _ wd174 ⟨b178, ao179, cap180, Z182, rfl, hs181, hm⟩; refine ⟨_, rfl, ?_⟩; intro a175 hF176; have hM177 := hM167.callZ hm; have hle183 := hm.ext.le; clear hm hM167 hF171
 replace hg5 := hg5.mono hle183
 replace hs16 := hs16.mono hle183
 replace hP25 := hP25.mono hle183
 replace hs46 := hs46.mono hle183
 replace hP55 := hP55.mono hle183
 replace hs76 := hs76.mono hle183
 replace hP85 := hP85.mono hle183
 replace hs107 := hs107.mono hle183
 replace hP116 := hP116.mono hle183
 replace hs137 := hs137.mono hle183
 replace hs164 := hs164.mono hle183
 replace hle0 := Fz.le.trans hle0 hle183
 have hM184 : Mem w.heap.size [] w Z [.row b178 [.bool ((gnewS q83).neg), .slice ao179 ((gnewS q83).abs).length cap180] 93, .row b134 [.bool r158.neg, .slice ao162 r158.abs.length cap163] 93] Z182 wd174 := hM177; clear hM177
 refine s1 hF176 10 (.pointer (some ⟨b178, 0, none⟩)) ?_; intro a185 hF186; clear hF176
 refine nlH (hQ169 _ _ ?_); clear hQ169 hQ169Q
 have hF187 : Fr 83 [] [⟨1, [], str u1⟩, ⟨5, [], .int .i64 q23⟩, ⟨6, [], .int .i64 q53⟩, ⟨8, [], .int .i64 q114⟩, ⟨9, [], .pointer (some ⟨b134, 0, none⟩)⟩, ⟨10, [], .pointer (some ⟨b178, 0, none⟩)⟩] a185 := hF186.region (by kernel_rfl) (by kernel_rfl); clear hF186
 refine sqH ?_; intro hQ188Q hQ188
 refine s1 hF187 39 (.pointer (some ⟨b134, 0, none⟩)) ?_; intro a189 hF190; clear hF187
 refine s1 hF190 40 (.pointer (some ⟨b134, 0, none⟩)) ?_; intro a191 hF192; clear hF190
 refine s1 hF192 41 (.pointer (some ⟨b178, 0, none⟩)) ?_; intro a193 hF194; clear hF192
 refine s1 hF194 42 (.pointer (some ⟨b178, 0, none⟩)) ?_; intro a195 hF196; clear hF194
 refine s1 hF196 43 (str u1) ?_; intro a197 hF198; clear hF196
 refine s1 hF198 44 (.int .i64 (u1.length : Int)) ?_; intro a199 hF200; clear hF198
 refine s1 hF200 45 (.int .u64 (wu64 (u1.length : Int))) ?_; intro a201 hF202; clear hF200
 have hc203 := hp173.1; have hp204 := hp173.2; clear hp173
 refine cl hF202 55 #[.pointer (some ⟨b178, 0, none⟩), .pointer (some ⟨b178, 0, none⟩), .int .u64 (wu64 (u1.length : Int))] (nog rfl _) rfl (by kernel_rfl) (by kernel_rfl) ?_
 obtain ⟨r209, hr210⟩ : ∃ x, (glshAS (gnewS q83) (wu64 (u1.length : Int))) = x := ⟨_, rfl⟩; have hp211 := hp204 r209 hr210; clear hp204
 have h9 := glshA_fun (gnewS q83) (wu64 (u1.length : Int)) hc203 b178 ao179 cap180 _ _ _ _ _ _ hs181 hM184 hM184.fz; rw [hr210] at h9; refine h9.mono ?_; clear h9; rintro _ wd205 ⟨ao213, cap214, Z216, rfl, hle217, hs215, hm⟩; refine ⟨_, rfl, ?_⟩; intro a206 hF207; have hM208 := hm; clear hm hM184 hF202
 replace hg5 := hg5.mono hle217
 replace hs16 := hs16.mono hle217
 replace hP25 := hP25.mono hle217
 replace hs46 := hs46.mono hle217
 replace hP55 := hP55.mono hle217
 replace hs76 := hs76.mono hle217
 replace hP85 := hP85.mono hle217
 replace hs107 := hs107.mono hle217
 replace hP116 := hP116.mono hle217
 replace hs137 := hs137.mono hle217
 replace hs164 := hs164.mono hle217
 replace hs181 := hs181.mono hle217
 replace hle0 := Fz.le.trans hle0 hle217
 have hM218 : Mem w.heap.size [] w Z [.row b178 [.bool r209.neg, .slice ao213 r209.abs.length cap214] 93, .row b134 [.bool r158.neg, .slice ao162 r158.abs.length cap163] 93] Z216 wd205 := hM208; clear hM208
 have hp219 := hp211 (hs215.small); clear hp211
 have hc220 := hp219.1; have hp221 := hp219.2; clear hp219
 refine cl hF207 57 #[.pointer (some ⟨b134, 0, none⟩), .pointer (some ⟨b134, 0, none⟩), .pointer (some ⟨b178, 0, none⟩)] (nog rfl _) rfl (by kernel_rfl) (by kernel_rfl) ?_
 obtain ⟨r226, hr227⟩ : ∃ x, (gxorS r158 r209) = x := ⟨_, rfl⟩; have hp228 := hp221 r226 hr227; clear hp221
 have h9 := gxor_fun r158 r209 hc220 b134 ao162 cap163 b178 ao213 cap214 _ _ _ _ _ _ hs164 hs215 (hM218.perm ((pk 1 rfl).trans ((List.Perm.refl _).cons _))) hM218.fz; rw [hr227] at h9; refine h9.mono ?_; clear h9; rintro _ wd222 ⟨ao230, cap231, ao233, cap234, Z236, rfl, hle237, hs232, hs235, hm⟩; refine ⟨_, rfl, ?_⟩; intro a223 hF224; have hM225 := hm; clear hm hM218 hF207
 replace hg5 := hg5.mono hle237
 replace hs16 := hs16.mono hle237
 replace hP25 := hP25.mono hle237
 replace hs46 := hs46.mono hle237
 replace hP55 := hP55.mono hle237
 replace hs76 := hs76.mono hle237
 replace hP85 := hP85.mono hle237
 replace hs107 := hs107.mono hle237
 replace hP116 := hP116.mono hle237
 replace hs137 := hs137.mono hle237
 replace hs164 := hs164.mono hle237
 replace hs181 := hs181.mono hle237
 replace hs215 := hs215.mono hle237
 replace hle0 := Fz.le.trans hle0 hle237
 have hM238 : Mem w.heap.size [] w Z [.row b134 [.bool r226.1.neg, .slice ao230 r226.1.abs.length cap231] 93, .row b178 [.bool r226.2.neg, .slice ao233 r226.2.abs.length cap234] 93] Z236 wd222 := hM225; clear hM225
 have hp239 := hp228 (hs232.small); clear hp228
 have hp240 := hp239 (hs235.small); clear hp239
 refine nlH (hQ188 _ _ ?_); clear hQ188 hQ188Q
 refine sqH ?_; intro hQ241Q hQ241
 refine s1 hF224 48 (.int .i64 q53) ?_; intro a242 hF243; clear hF224
 have hc244 := hp240.1; have hp245 := hp240.2; clear hp240
 refine cl hF243 56 #[.int .i64 q53] (nog rfl _) rfl (by kernel_rfl) (by kernel_rfl) ?_
 refine (gnew_fun q53 hc244 _ _ hM238.fz).mono ?_; rintro _ wd246 ⟨b250, ao251, cap252, Z254, rfl, hs253, hm⟩; refine ⟨_, rfl, ?_⟩; intro a247 hF248; have hM249 := hM238.callZ hm; have hle255 := hm.ext.le; clear hm hM238 hF243
 replace hg5 := hg5.mono hle255
 replace hs16 := hs16.mono hle255
 replace hP25 := hP25.mono hle255
 replace hs46 := hs46.mono hle255
 replace hP55 := hP55.mono hle255
 replace hs76 := hs76.mono hle255
 replace hP85 := hP85.mono hle255
 replace hs107 := hs107.mono hle255
 replace hP116 := hP116.mono hle255
 replace hs137 := hs137.mono hle255
 replace hs164 := hs164.mono hle255
 replace hs181 := hs181.mono hle255
 replace hs215 := hs215.mono hle255
 replace hs232 := hs232.mono hle255
 replace hs235 := hs235.mono hle255
 replace hle0 := Fz.le.trans hle0 hle255
 have hM256 : Mem w.heap.size [] w Z [.row b250 [.bool ((gnewS q53).neg), .slice ao251 ((gnewS q53).abs).length cap252] 93, .row b134 [.bool r226.1.neg, .slice ao230 r226.1.abs.length cap231] 93, .row b178 [.bool r226.2.neg, .slice ao233 r226.2.abs.length cap234] 93] Z254 wd246 := hM249; clear hM249
 refine s1 hF248 11 (.pointer (some ⟨b250, 0, none⟩)) ?_; intro a257 hF258; clear hF248
 refine nlH (hQ241 _ _ ?_); clear hQ241 hQ241Q
 refine sqH ?_; intro hQ259Q hQ259
 refine s1 hF258 50 (.pointer (some ⟨b250, 0, none⟩)) ?_; intro a260 hF261; clear hF258
 refine s1 hF261 51 (.pointer (some ⟨b250, 0, none⟩)) ?_; intro a262 hF263; clear hF261
 refine s1 hF263 52 (.int .i64 q23) ?_; intro a264 hF265; clear hF263
 have hc266 := hp245.1; have hp267 := hp245.2; clear hp245
 refine cl hF265 58 #[.pointer (some ⟨b250, 0, none⟩), .pointer (some ⟨b250, 0, none⟩), .int .i64 q23, .int .u64 1] (nog rfl _) rfl (by kernel_rfl) (by kernel_rfl) ?_
 obtain ⟨r272, hr273⟩ : ∃ x, (gsetbitS (gnewS q53) q23 1) = x := ⟨_, rfl⟩; have hp274 := hp267 r272 hr273; clear hp267
 have h9 := gsetbit_fun (gnewS q53) q23 1 hc266 b250 ao251 cap252 _ _ _ _ _ _ hs253 hM256 hM256.fz; rw [hr273] at h9; refine h9.mono ?_; clear h9; rintro _ wd268 ⟨ao276, cap277, Z279, rfl, hle280, hs278, hm⟩; refine ⟨_, rfl, ?_⟩; intro a269 hF270; have hM271 := hm; clear hm hM256 hF265
 replace hg5 := hg5.mono hle280
 replace hs16 := hs16.mono hle280
 replace hP25 := hP25.mono hle280
 replace hs46 := hs46.mono hle280
 replace hP55 := hP55.mono hle280
 replace hs76 := hs76.mono hle280
 replace hP85 := hP85.mono hle280
 replace hs107 := hs107.mono hle280
 replace hP116 := hP116.mono hle280
 replace hs137 := hs137.mono hle280
 replace hs164 := hs164.mono hle280
 replace hs181 := hs181.mono hle280
 replace hs215 := hs215.mono hle280
 replace hs232 := hs232.mono hle280
 replace hs235 := hs235.mono hle280
 replace hs253 := hs253.mono hle280
 replace hle0 := Fz.le.trans hle0 hle280
 have hM281 : Mem w.heap.size [] w Z [.row b250 [.bool r272.neg, .slice ao276 r272.abs.length cap277] 93, .row b134 [.bool r226.1.neg, .slice ao230 r226.1.abs.length cap231] 93, .row b178 [.bool r226.2.neg, .slice ao233 r226.2.abs.length cap234] 93] Z279 wd268 := hM271; clear hM271
 have hp282 := hp274 (hs278.small); clear hp274
 refine nlH (hQ259 _ _ ?_); clear hQ259 hQ259Q
 have hF283 : Fr 83 [] [⟨5, [], .int .i64 q23⟩, ⟨8, [], .int .i64 q114⟩, ⟨9, [], .pointer (some ⟨b134, 0, none⟩)⟩, ⟨11, [], .pointer (some ⟨b250, 0, none⟩)⟩] a269 := hF270.region (by kernel_rfl) (by kernel_rfl); clear hF270
 have hF285 : Fr 83 [] [⟨5, [], .int .i64 q23⟩, ⟨8, [], .int .i64 q114⟩, ⟨9, [], .pointer (some ⟨b134, 0, none⟩)⟩, ⟨11, [], .pointer (some ⟨b250, 0, none⟩)⟩] a269 := hF283.region (by kernel_rfl) (by kernel_rfl); clear hF283
 obtain ⟨inv284, hp286, hp287⟩ := hp282
 refine wp_seq_k fun KJ288 hKJ289 => ?_
 have hJ290 : ∀ (yb250 : BInt) (yb134 : BInt) (aoyb250_0 : Option Addr) (capyb250_0 : Nat) (aoyb134_0 : Option Addr) (capyb134_0 : Nat) (ZJ284 : Fz), inv284 yb250 yb134 ∧ SlR (tyInt .u32) ZJ284 aoyb250_0 capyb250_0 yb250.abs ∧ SlR (tyInt .u32) ZJ284 aoyb134_0 capyb134_0 yb134.abs ∧ Fz.le Z279 ZJ284 → ∀ a1 w1, Fr 83 [] [⟨5, [], .int .i64 q23⟩, ⟨8, [], .int .i64 q114⟩, ⟨9, [], .pointer (some ⟨b134, 0, none⟩)⟩] a1 → Mem w.heap.size [] w Z [.row b250 [.bool yb250.neg, .slice aoyb250_0 yb250.abs.length capyb250_0] 93, .row b134 [.bool yb134.neg, .slice aoyb134_0 yb134.abs.length capyb134_0] 93, .row b178 [.bool r226.2.neg, .slice ao233 r226.2.abs.length cap234] 93] ZJ284 w1 → KJ288 a1 w1 := by
  rintro yb250 yb134 aoyb250_0 capyb250_0 aoyb134_0 capyb134_0 ZJ284 ⟨hI295, hsyb250_0, hsyb134_0, hleJ284⟩ a291 wd292 hF293 hM294; clear hF285 hM281
  refine hKJ289 _ _ ?_; clear hKJ289
  have hp296 := hp287 yb250 yb134 hI295
  replace hle0 := Fz.le.trans hle0 hleJ284
  have hs297 := hg5.mono hleJ284
  have hs298 := hs16.mono hleJ284
  have hs299 := hP25.mono hleJ284
  have hs300 := hs46.mono hleJ284
  have hs301 := hP55.mono hleJ284
  have hs302 := hs76.mono hleJ284
  have hs303 := hP85.mono hleJ284
  have hs304 := hs107.mono hleJ284
  have hs305 := hP116.mono hleJ284
  have hs306 := hs137.mono hleJ284
  have hs307 := hs164.mono hleJ284
  have hs308 := hs181.mono hleJ284
  have hs309 := hs215.mono hleJ284
  have hs310 := hs232.mono hleJ284
  have hs311 := hs235.mono hleJ284
  have hs312 := hs253.mono hleJ284
  have hs313 := hs278.mono hleJ284
  refine sqH ?_; intro hQ314Q hQ314
  refine s1 hF293 70 (.pointer (some ⟨b134, 0, none⟩)) ?_; intro a315 hF316; clear hF293
  refine s1 hF316 71 (.pointer (some ⟨b134, 0, none⟩)) ?_; intro a317 hF318; clear hF316
  refine s1 hF318 72 (.int .i64 q114) ?_; intro a319 hF320; clear hF318
  have hc321 := hp296.1; have hp322 := hp296.2; clear hp296
  refine cl hF320 56 #[.int .i64 q114] (nog rfl _) rfl (by kernel_rfl) (by kernel_rfl) ?_
  refine (gnew_fun q114 hc321 _ _ hM294.fz).mono ?_; rintro _ wd323 ⟨b327, ao328, cap329, Z331, rfl, hs330, hm⟩; refine ⟨_, rfl, ?_⟩; intro a324 hF325; have hM326 := hM294.callZ hm; have hle332 := hm.ext.le; clear hm hM294 hF320
  replace hs297 := hs297.mono hle332
  replace hs298 := hs298.mono hle332
  replace hs299 := hs299.mono hle332
  replace hs300 := hs300.mono hle332
  replace hs301 := hs301.mono hle332
  replace hs302 := hs302.mono hle332
  replace hs303 := hs303.mono hle332
  replace hs304 := hs304.mono hle332
  replace hs305 := hs305.mono hle332
  replace hs306 := hs306.mono hle332
  replace hs307 := hs307.mono hle332
  replace hs308 := hs308.mono hle332
  replace hs309 := hs309.mono hle332
  replace hs310 := hs310.mono hle332
  replace hs311 := hs311.mono hle332
  replace hs312 := hs312.mono hle332
  replace hs313 := hs313.mono hle332
  replace hsyb250_0 := hsyb250_0.mono hle332
  replace hsyb134_0 := hsyb134_0.mono hle332
  replace hleJ284 := hleJ284.mono hle332
  replace hle0 := Fz.le.trans hle0 hle332
  have hM333 : Mem w.heap.size [] w Z [.row b327 [.bool ((gnewS q114).neg), .slice ao328 ((gnewS q114).abs).length cap329] 93, .row b250 [.bool yb250.neg, .slice aoyb250_0 yb250.abs.length capyb250_0] 93, .row b134 [.bool yb134.neg, .slice aoyb134_0 yb134.abs.length capyb134_0] 93, .row b178 [.bool r226.2.neg, .slice ao233 r226.2.abs.length cap234] 93] Z331 wd323 := hM326; clear hM326
  have hc334 := hp322.1; have hp335 := hp322.2; clear hp322
  refine cl hF325 57 #[.pointer (some ⟨b134, 0, none⟩), .pointer (some ⟨b134, 0, none⟩), .pointer (some ⟨b327, 0, none⟩)] (nog rfl _) rfl (by kernel_rfl) (by kernel_rfl) ?_
  obtain ⟨r340, hr341⟩ : ∃ x, (gxorS yb134 (gnewS q114)) = x := ⟨_, rfl⟩; have hp342 := hp335 r340 hr341; clear hp335
  have h9 := gxor_fun yb134 (gnewS q114) hc334 b134 aoyb134_0 capyb134_0 b327 ao328 cap329 _ _ _ _ _ _ hsyb134_0 hs330 (hM333.perm ((pk 2 rfl).trans ((List.Perm.refl _).cons _))) hM333.fz; rw [hr341] at h9; refine h9.mono ?_; clear h9; rintro _ wd336 ⟨ao344, cap345, ao347, cap348, Z350, rfl, hle351, hs346, hs349, hm⟩; refine ⟨_, rfl, ?_⟩; intro a337 hF338; have hM339 := hm; clear hm hM333 hF325
  replace hs297 := hs297.mono hle351
  replace hs298 := hs298.mono hle351
  replace hs299 := hs299.mono hle351
  replace hs300 := hs300.mono hle351
  replace hs301 := hs301.mono hle351
  replace hs302 := hs302.mono hle351
  replace hs303 := hs303.mono hle351
  replace hs304 := hs304.mono hle351
  replace hs305 := hs305.mono hle351
  replace hs306 := hs306.mono hle351
  replace hs307 := hs307.mono hle351
  replace hs308 := hs308.mono hle351
  replace hs309 := hs309.mono hle351
  replace hs310 := hs310.mono hle351
  replace hs311 := hs311.mono hle351
  replace hs312 := hs312.mono hle351
  replace hs313 := hs313.mono hle351
  replace hsyb250_0 := hsyb250_0.mono hle351
  replace hsyb134_0 := hsyb134_0.mono hle351
  replace hleJ284 := hleJ284.mono hle351
  replace hs330 := hs330.mono hle351
  replace hle0 := Fz.le.trans hle0 hle351
  have hM352 : Mem w.heap.size [] w Z [.row b134 [.bool r340.1.neg, .slice ao344 r340.1.abs.length cap345] 93, .row b327 [.bool r340.2.neg, .slice ao347 r340.2.abs.length cap348] 93, .row b250 [.bool yb250.neg, .slice aoyb250_0 yb250.abs.length capyb250_0] 93, .row b178 [.bool r226.2.neg, .slice ao233 r226.2.abs.length cap234] 93] Z350 wd336 := hM339; clear hM339
  have hp353 := hp342 (hs346.small); clear hp342
  have hp354 := hp353 (hs349.small); clear hp353
  refine nlH (hQ314 _ _ ?_); clear hQ314 hQ314Q
  refine sqH ?_; intro hQ355Q hQ355
  refine s1 hF338 76 (.pointer (some ⟨b134, 0, none⟩)) ?_; intro a356 hF357; clear hF338
  have hc358 := hp354.1; have hp359 := hp354.2; clear hp354
  refine cl hF357 61 #[.pointer (some ⟨b134, 0, none⟩)] (nog rfl _) rfl (by kernel_rfl) (by kernel_rfl) ?_
  obtain ⟨r364, hr365⟩ : ∃ x, (gint64S r340.1) = x := ⟨_, rfl⟩; have hp366 := hp359 r364 hr365; clear hp359
  have h9 := gint64_fun r340.1 hc358 b134 ao344 cap345 _ _ _ _ _ _ hs346 hM352 hM352.fz; rw [hr365] at h9; refine h9.mono ?_; clear h9; rintro _ wd360 ⟨ao368, cap369, Z371, rfl, hle372, hs370, hm⟩; refine ⟨_, rfl, ?_⟩; intro a361 hF362; have hM363 := hm; clear hm hM352 hF357
  replace hs297 := hs297.mono hle372
  replace hs298 := hs298.mono hle372
  replace hs299 := hs299.mono hle372
  replace hs300 := hs300.mono hle372
  replace hs301 := hs301.mono hle372
  replace hs302 := hs302.mono hle372
  replace hs303 := hs303.mono hle372
  replace hs304 := hs304.mono hle372
  replace hs305 := hs305.mono hle372
  replace hs306 := hs306.mono hle372
  replace hs307 := hs307.mono hle372
  replace hs308 := hs308.mono hle372
  replace hs309 := hs309.mono hle372
  replace hs310 := hs310.mono hle372
  replace hs311 := hs311.mono hle372
  replace hs312 := hs312.mono hle372
  replace hs313 := hs313.mono hle372
  replace hsyb250_0 := hsyb250_0.mono hle372
  replace hsyb134_0 := hsyb134_0.mono hle372
  replace hleJ284 := hleJ284.mono hle372
  replace hs330 := hs330.mono hle372
  replace hs346 := hs346.mono hle372
  replace hs349 := hs349.mono hle372
  replace hle0 := Fz.le.trans hle0 hle372
  have hM373 : Mem w.heap.size [] w Z [.row b134 [.bool r364.2.neg, .slice ao368 r364.2.abs.length cap369] 93, .row b327 [.bool r340.2.neg, .slice ao347 r340.2.abs.length cap348] 93, .row b250 [.bool yb250.neg, .slice aoyb250_0 yb250.abs.length capyb250_0] 93, .row b178 [.bool r226.2.neg, .slice ao233 r226.2.abs.length cap234] 93] Z371 wd360 := hM363; clear hM363
  have hp374 := hp366 (hs370.small); clear hp366
  refine s1 hF362 78 (.int .i64 q23) ?_; intro a375 hF376; clear hF362
  have hc377 := hp374.1; have hp378 := hp374.2; clear hp374
  refine fcl hF376 hM373 (.tuple #[str ((rrowS r364.1 q23).1), .bool ((rrowS r364.1 q23).2)]) 60 #[.int .i64 r364.1, .int .i64 q23] (nog rfl _) rfl (by kernel_rfl) (fun _ => by kernel_rfl) (rrow_fun r364.1 q23 hc377 _ _ hs297 hM373.fz) ?_; intro a379 wd381 hF380 hM382; clear hF376 hM373
  refine s1 hF380 75 (.tuple #[str ((rrowS r364.1 q23).1), .bool ((rrowS r364.1 q23).2)]) ?_; intro a383 hF384; clear hF380
  refine s1 hF384 80 (str ((rrowS r364.1 q23).1)) ?_; intro a385 hF386; clear hF384
  refine s1 hF386 81 (.bool ((rrowS r364.1 q23).2)) ?_; intro a387 hF388; clear hF386
  refine s1 hF388 12 (str ((rrowS r364.1 q23).1)) ?_; intro a389 hF390; clear hF388
  refine s1 hF390 13 (.bool ((rrowS r364.1 q23).2)) ?_; intro a391 hF392; clear hF390
  refine nlH (hQ355 _ _ ?_); clear hQ355 hQ355Q
  have hF393 : Fr 83 [] [⟨12, [], str ((rrowS r364.1 q23).1)⟩] a391 := hF392.region (by kernel_rfl) (by kernel_rfl); clear hF392
  refine sqH ?_; intro hQ394Q hQ394
  refine s1 hF393 82 (str ((rrowS r364.1 q23).1)) ?_; intro a395 hF396; clear hF393
  refine s1 hF396 4 (str ((rrowS r364.1 q23).1)) ?_; intro a397 hF398; clear hF396
  refine nlH (hQ394 _ _ ?_); clear hQ394 hQ394Q
  refine wp_ret ?_
  refine rt (fn := Tryd.f19) (v := str ((rrowS r364.1 q23).1)) hF398 (re1 hF398 (fn := Tryd.f19) rfl (by kernel_rfl)) ?_
  exact ⟨(rrowS r364.1 q23).1, rfl, hp378, hM382.below⟩
 have hle399 := Fz.le.refl Z279
 refine wp_block ?_
 have hF400 : Fr 83 [] [⟨5, [], .int .i64 q23⟩, ⟨8, [], .int .i64 q114⟩, ⟨9, [], .pointer (some ⟨b134, 0, none⟩)⟩, ⟨11, [], .pointer (some ⟨b250, 0, none⟩)⟩] a269 := hF285.region (by kernel_rfl) (by kernel_rfl); clear hF285
 have hF402 : Fr 83 [] [⟨5, [], .int .i64 q23⟩, ⟨8, [], .int .i64 q114⟩, ⟨9, [], .pointer (some ⟨b134, 0, none⟩)⟩, ⟨11, [], .pointer (some ⟨b250, 0, none⟩)⟩] a269 := hF400.region (by kernel_rfl) (by kernel_rfl); clear hF400
 obtain ⟨inv401, mu401, hI405, hr404⟩ := hp286
 have hle406 := hle0
 refine lp (ι := BInt × BInt × (Option Addr) × Nat × (Option Addr) × Nat × Fz) (fun (s : BInt × BInt × (Option Addr) × Nat × (Option Addr) × Nat × Fz) => [⟨5, [], .int .i64 q23⟩, ⟨8, [], .int .i64 q114⟩, ⟨9, [], .pointer (some ⟨b134, 0, none⟩)⟩, ⟨11, [], .pointer (some ⟨b250, 0, none⟩)⟩]) (fun (s : BInt × BInt × (Option Addr) × Nat × (Option Addr) × Nat × Fz) => [.row b250 [.bool s.1.neg, .slice s.2.2.1 s.1.abs.length s.2.2.2.1] 93, .row b134 [.bool s.2.1.neg, .slice s.2.2.2.2.1 s.2.1.abs.length s.2.2.2.2.2.1] 93, .row b178 [.bool r226.2.neg, .slice ao233 r226.2.abs.length cap234] 93]) (fun (s : BInt × BInt × (Option Addr) × Nat × (Option Addr) × Nat × Fz) => s.2.2.2.2.2.2) (fun (s : BInt × BInt × (Option Addr) × Nat × (Option Addr) × Nat × Fz) => inv401 s.1 s.2.1 ∧ SlR (tyInt .u32) s.2.2.2.2.2.2 s.2.2.1 s.2.2.2.1 s.1.abs ∧ SlR (tyInt .u32) s.2.2.2.2.2.2 s.2.2.2.2.1 s.2.2.2.2.2.1 s.2.1.abs ∧ Fz.le Z279 s.2.2.2.2.2.2) (fun (s : BInt × BInt × (Option Addr) × Nat × (Option Addr) × Nat × Fz) => mu401 s.1 s.2.1) ⟨r272, r226.1, ao276, cap277, ao230, cap231, Z279⟩ ⟨hI405, hs278, hs232, Fz.le.refl _⟩ (by exact hF402.region (by kernel_rfl) (by kernel_rfl)) (by exact hM281) ?_
 rintro ⟨yb250v, yb134v, aoyb250v_0, capyb250v_0, aoyb134v_0, capyb134v_0, ZL401⟩ ⟨hI403, hsyb250v_0, hsyb134v_0, hleL401⟩ a407 wd408 hF409 hM410
 have hF411 : Fr 83 [] [⟨5, [], .int .i64 q23⟩, ⟨8, [], .int .i64 q114⟩, ⟨9, [], .pointer (some ⟨b134, 0, none⟩)⟩, ⟨11, [], .pointer (some ⟨b250, 0, none⟩)⟩] a407 := hF409; clear hF409 hF402
 have hM412 : Mem w.heap.size [] w Z [.row b250 [.bool yb250v.neg, .slice aoyb250v_0 yb250v.abs.length capyb250v_0] 93, .row b134 [.bool yb134v.neg, .slice aoyb134v_0 yb134v.abs.length capyb134v_0] 93, .row b178 [.bool r226.2.neg, .slice ao233 r226.2.abs.length cap234] 93] ZL401 wd408 := hM410; clear hM410 hM281
 have hp413 := hr404 yb250v yb134v hI403
 replace hle0 := Fz.le.trans hle0 hleL401
 have hs414 := hg5.mono hleL401
 have hs415 := hs16.mono hleL401
 have hs416 := hP25.mono hleL401
 have hs417 := hs46.mono hleL401
 have hs418 := hP55.mono hleL401
 have hs419 := hs76.mono hleL401
 have hs420 := hP85.mono hleL401
 have hs421 := hs107.mono hleL401
 have hs422 := hP116.mono hleL401
 have hs423 := hs137.mono hleL401
 have hs424 := hs164.mono hleL401
 have hs425 := hs181.mono hleL401
 have hs426 := hs215.mono hleL401
 have hs427 := hs232.mono hleL401
 have hs428 := hs235.mono hleL401
 have hs429 := hs253.mono hleL401
 have hs430 := hs278.mono hleL401
 have hs431 := hle399.mono hleL401
 refine wp_seq ?_
 refine sqH ?_; intro hQ432Q hQ432
 refine s1 hF411 54 (.pointer (some ⟨b134, 0, none⟩)) ?_; intro a433 hF434; clear hF411
 have hc435 := hp413.1; have hp436 := hp413.2; clear hp413
 refine cl hF434 59 #[.pointer (some ⟨b134, 0, none⟩)] (nog rfl _) rfl (by kernel_rfl) (by kernel_rfl) ?_
 obtain ⟨r441, hr442⟩ : ∃ x, (gblenS yb134v) = x := ⟨_, rfl⟩; have hp443 := hp436 r441 hr442; clear hp436
 have h9 := gblen_fun yb134v hc435 b134 aoyb134v_0 capyb134v_0 _ _ _ _ _ _ hsyb134v_0 (hM412.perm (pk 1 rfl)) hM412.fz; rw [hr442] at h9; refine h9.mono ?_; clear h9; rintro _ wd437 ⟨ao445, cap446, Z448, rfl, hle449, hs447, hm⟩; refine ⟨_, rfl, ?_⟩; intro a438 hF439; have hM440 := hm; clear hm hM412 hF434
 replace hs414 := hs414.mono hle449
 replace hs415 := hs415.mono hle449
 replace hs416 := hs416.mono hle449
 replace hs417 := hs417.mono hle449
 replace hs418 := hs418.mono hle449
 replace hs419 := hs419.mono hle449
 replace hs420 := hs420.mono hle449
 replace hs421 := hs421.mono hle449
 replace hs422 := hs422.mono hle449
 replace hs423 := hs423.mono hle449
 replace hs424 := hs424.mono hle449
 replace hs425 := hs425.mono hle449
 replace hs426 := hs426.mono hle449
 replace hs427 := hs427.mono hle449
 replace hs428 := hs428.mono hle449
 replace hs429 := hs429.mono hle449
 replace hs430 := hs430.mono hle449
 replace hs431 := hs431.mono hle449
 replace hsyb250v_0 := hsyb250v_0.mono hle449
 replace hsyb134v_0 := hsyb134v_0.mono hle449
 replace hleL401 := hleL401.mono hle449
 replace hle0 := Fz.le.trans hle0 hle449
 have hM450 : Mem w.heap.size [] w Z [.row b134 [.bool r441.2.neg, .slice ao445 r441.2.abs.length cap446] 93, .row b250 [.bool yb250v.neg, .slice aoyb250v_0 yb250v.abs.length capyb250v_0] 93, .row b178 [.bool r226.2.neg, .slice ao233 r226.2.abs.length cap234] 93] Z448 wd437 := hM440; clear hM440
 have hp451 := hp443 (hs447.small); clear hp443
 refine s1 hF439 56 (.int .i64 q23) ?_; intro a452 hF453; clear hF439
 refine s1 hF453 57 (.bool (decide (r441.1 > q23))) ?_; intro a454 hF455; clear hF453
 refine nlH (hQ432 _ _ ?_); clear hQ432 hQ432Q
 refine cd hF455 (t := decide (r441.1 > q23)) (by kernel_rfl) (fun hb456 => ?_) (fun hb456 => ?_)
 · -- yes
  have hp457 := hp451.1 hb456; clear hp451
  refine wp_skip ?_
  refine thn ?_
  refine wp_block ?_
  refine rgH ?_; intro hQ458Q hQ458
  refine s1 hF455 58 (.pointer (some ⟨b134, 0, none⟩)) ?_; intro a459 hF460; clear hF455
  refine s1 hF460 59 (.pointer (some ⟨b134, 0, none⟩)) ?_; intro a461 hF462; clear hF460
  refine sn hF462 hM450 (fun b => .pointer (some ⟨b, 0, none⟩)) [.bool false, .slice none 0 0] 93 (nog rfl _) rfl (by kernel_rfl) (by kernel_rfl) ?_; intro b463 a464 wd466 hF465 hM467; clear hF462 hM450
  refine s1 hF465 61 (.pointer (some ⟨b250, 0, none⟩)) ?_; intro a468 hF469; clear hF465
  refine s1 hF469 62 (.pointer (some ⟨b134, 0, none⟩)) ?_; intro a470 hF471; clear hF469
  have hc472 := hp457.1; have hp473 := hp457.2; clear hp457
  refine cl hF471 59 #[.pointer (some ⟨b134, 0, none⟩)] (nog rfl _) rfl (by kernel_rfl) (by kernel_rfl) ?_
  obtain ⟨r478, hr479⟩ : ∃ x, (gblenS r441.2) = x := ⟨_, rfl⟩; have hp480 := hp473 r478 hr479; clear hp473
  have h9 := gblen_fun r441.2 hc472 b134 ao445 cap446 _ _ _ _ _ _ hs447 (hM467.perm (pk 1 rfl)) hM467.fz; rw [hr479] at h9; refine h9.mono ?_; clear h9; rintro _ wd474 ⟨ao482, cap483, Z485, rfl, hle486, hs484, hm⟩; refine ⟨_, rfl, ?_⟩; intro a475 hF476; have hM477 := hm; clear hm hM467 hF471
  replace hs414 := hs414.mono hle486
  replace hs415 := hs415.mono hle486
  replace hs416 := hs416.mono hle486
  replace hs417 := hs417.mono hle486
  replace hs418 := hs418.mono hle486
  replace hs419 := hs419.mono hle486
  replace hs420 := hs420.mono hle486
  replace hs421 := hs421.mono hle486
  replace hs422 := hs422.mono hle486
  replace hs423 := hs423.mono hle486
  replace hs424 := hs424.mono hle486
  replace hs425 := hs425.mono hle486
  replace hs426 := hs426.mono hle486
  replace hs427 := hs427.mono hle486
  replace hs428 := hs428.mono hle486
  replace hs429 := hs429.mono hle486
  replace hs430 := hs430.mono hle486
  replace hs431 := hs431.mono hle486
  replace hsyb250v_0 := hsyb250v_0.mono hle486
  replace hsyb134v_0 := hsyb134v_0.mono hle486
  replace hleL401 := hleL401.mono hle486
  replace hs447 := hs447.mono hle486
  replace hle0 := Fz.le.trans hle0 hle486
  have hM487 : Mem w.heap.size [] w Z [.row b134 [.bool r478.2.neg, .slice ao482 r478.2.abs.length cap483] 93, .row b463 [.bool false, .slice none 0 0] 93, .row b250 [.bool yb250v.neg, .slice aoyb250v_0 yb250v.abs.length capyb250v_0] 93, .row b178 [.bool r226.2.neg, .slice ao233 r226.2.abs.length cap234] 93] Z485 wd474 := hM477; clear hM477
  have hp488 := hp480 (hs484.small); clear hp480
  refine s1 hF476 64 (.int .i64 q23) ?_; intro a489 hF490; clear hF476
  refine s1 hF490 65 (.int .i64 (w64 (r478.1 - q23))) ?_; intro a491 hF492; clear hF490
  refine s1 hF492 66 (.int .i64 (w64 ((w64 (r478.1 - q23)) - 1))) ?_; intro a493 hF494; clear hF492
  refine s1 hF494 67 (.int .u64 (wu64 (w64 ((w64 (r478.1 - q23)) - 1)))) ?_; intro a495 hF496; clear hF494
  have hc497 := hp488.1; have hp498 := hp488.2; clear hp488
  refine cl hF496 55 #[.pointer (some ⟨b463, 0, none⟩), .pointer (some ⟨b250, 0, none⟩), .int .u64 (wu64 (w64 ((w64 (r478.1 - q23)) - 1)))] (nog rfl _) rfl (by kernel_rfl) (by kernel_rfl) ?_
  obtain ⟨r503, hr504⟩ : ∃ x, (glshS (⟨false, []⟩ : BInt) yb250v (wu64 (w64 ((w64 (r478.1 - q23)) - 1)))) = x := ⟨_, rfl⟩; have hp505 := hp498 r503 hr504; clear hp498
  have h9 := glsh_fun (⟨false, []⟩ : BInt) yb250v (wu64 (w64 ((w64 (r478.1 - q23)) - 1))) hc497 b463 none 0 b250 aoyb250v_0 capyb250v_0 _ _ _ _ _ _ (SlR.nil _ _) hsyb250v_0 (hM487.perm ((pk 1 rfl).trans (((pk 1 rfl).trans ((List.Perm.refl _).cons _)).cons _))) hM487.fz; rw [hr504] at h9; refine h9.mono ?_; clear h9; rintro _ wd499 ⟨ao507, cap508, ao510, cap511, Z513, rfl, hle514, hs509, hs512, hm⟩; refine ⟨_, rfl, ?_⟩; intro a500 hF501; have hM502 := hm; clear hm hM487 hF496
  replace hs414 := hs414.mono hle514
  replace hs415 := hs415.mono hle514
  replace hs416 := hs416.mono hle514
  replace hs417 := hs417.mono hle514
  replace hs418 := hs418.mono hle514
  replace hs419 := hs419.mono hle514
  replace hs420 := hs420.mono hle514
  replace hs421 := hs421.mono hle514
  replace hs422 := hs422.mono hle514
  replace hs423 := hs423.mono hle514
  replace hs424 := hs424.mono hle514
  replace hs425 := hs425.mono hle514
  replace hs426 := hs426.mono hle514
  replace hs427 := hs427.mono hle514
  replace hs428 := hs428.mono hle514
  replace hs429 := hs429.mono hle514
  replace hs430 := hs430.mono hle514
  replace hs431 := hs431.mono hle514
  replace hsyb250v_0 := hsyb250v_0.mono hle514
  replace hsyb134v_0 := hsyb134v_0.mono hle514
  replace hleL401 := hleL401.mono hle514
  replace hs447 := hs447.mono hle514
  replace hs484 := hs484.mono hle514
  replace hle0 := Fz.le.trans hle0 hle514
  have hM515 : Mem w.heap.size [] w Z [.row b463 [.bool r503.1.neg, .slice ao507 r503.1.abs.length cap508] 93, .row b250 [.bool r503.2.neg, .slice ao510 r503.2.abs.length cap511] 93, .row b134 [.bool r478.2.neg, .slice ao482 r478.2.abs.length cap483] 93, .row b178 [.bool r226.2.neg, .slice ao233 r226.2.abs.length cap234] 93] Z513 wd499 := hM502; clear hM502
  have hp516 := hp505 (hs509.small); clear hp505
  have hp517 := hp516 (hs512.small); clear hp516
  have hc518 := hp517.1; have hp519 := hp517.2; clear hp517
  refine cl hF501 57 #[.pointer (some ⟨b134, 0, none⟩), .pointer (some ⟨b134, 0, none⟩), .pointer (some ⟨b463, 0, none⟩)] (nog rfl _) rfl (by kernel_rfl) (by kernel_rfl) ?_
  obtain ⟨r524, hr525⟩ : ∃ x, (gxorS r478.2 r503.1) = x := ⟨_, rfl⟩; have hp526 := hp519 r524 hr525; clear hp519
  have h9 := gxor_fun r478.2 r503.1 hc518 b134 ao482 cap483 b463 ao507 cap508 _ _ _ _ _ _ hs484 hs509 (hM515.perm ((pk 2 rfl).trans ((List.Perm.refl _).cons _))) hM515.fz; rw [hr525] at h9; refine h9.mono ?_; clear h9; rintro _ wd520 ⟨ao528, cap529, ao531, cap532, Z534, rfl, hle535, hs530, hs533, hm⟩; refine ⟨_, rfl, ?_⟩; intro a521 hF522; have hM523 := hm; clear hm hM515 hF501
  replace hs414 := hs414.mono hle535
  replace hs415 := hs415.mono hle535
  replace hs416 := hs416.mono hle535
  replace hs417 := hs417.mono hle535
  replace hs418 := hs418.mono hle535
  replace hs419 := hs419.mono hle535
  replace hs420 := hs420.mono hle535
  replace hs421 := hs421.mono hle535
  replace hs422 := hs422.mono hle535
  replace hs423 := hs423.mono hle535
  replace hs424 := hs424.mono hle535
  replace hs425 := hs425.mono hle535
  replace hs426 := hs426.mono hle535
  replace hs427 := hs427.mono hle535
  replace hs428 := hs428.mono hle535
  replace hs429 := hs429.mono hle535
  replace hs430 := hs430.mono hle535
  replace hs431 := hs431.mono hle535
  replace hsyb250v_0 := hsyb250v_0.mono hle535
  replace hsyb134v_0 := hsyb134v_0.mono hle535
  replace hleL401 := hleL401.mono hle535
  replace hs447 := hs447.mono hle535
  replace hs484 := hs484.mono hle535
  replace hs509 := hs509.mono hle535
  replace hs512 := hs512.mono hle535
  replace hle0 := Fz.le.trans hle0 hle535
  have hM536 : Mem w.heap.size [] w Z [.row b134 [.bool r524.1.neg, .slice ao528 r524.1.abs.length cap529] 93, .row b463 [.bool r524.2.neg, .slice ao531 r524.2.abs.length cap532] 93, .row b250 [.bool r503.2.neg, .slice ao510 r503.2.abs.length cap511] 93, .row b178 [.bool r226.2.neg, .slice ao233 r226.2.abs.length cap234] 93] Z534 wd520 := hM523; clear hM523
  have hp537 := hp526 (hs530.small); clear hp526
  have hp538 := hp537 (hs533.small); clear hp537
  refine nlH (hQ458 _ _ ?_); clear hQ458 hQ458Q
  refine ibn ?_
  refine rd ?_
  have hM539 := hM536.perm ((pk 2 rfl).trans ((((pk 1 rfl).trans ((List.Perm.refl _).cons _)).cons _).cons _))
  exact ⟨⟨r503.2, r524.1, ao510, cap511, ao528, cap529, Z534⟩, ⟨hp538.1, hs512, hs530, hleL401⟩, hp538.2, (hF522.region (by kernel_rfl) (by kernel_rfl)).anyβ _ (by kernel_rfl), hM539.keep (List.Sublist.cons_cons _ (List.Sublist.cons_cons _ (List.Sublist.cons_cons _ (List.Sublist.cons _ (List.Sublist.slnil)))))⟩
 · -- no
  have hp540 := hp451.2 hb456; clear hp451
  refine wp_exit ?_
  refine thx ?_
  refine thx ?_
  refine ibx ?_
  refine rd ?_
  have hM541 := hM450.perm ((pk 1 rfl).trans ((List.Perm.refl _).cons _))
  exact hJ290 yb250v r441.2 aoyb250v_0 capyb250v_0 ao445 cap446 Z448 ⟨hp540, hsyb250v_0, hs447, hs431⟩ _ _ ((hF455.region (by kernel_rfl) (by kernel_rfl)).anyβ _ (by kernel_rfl)) (hM541.keep (List.Sublist.cons_cons _ (List.Sublist.cons_cons _ (List.Sublist.cons_cons _ (List.Sublist.slnil)))))

end Go.Proofs.YtinegicenfndkaaDoor
