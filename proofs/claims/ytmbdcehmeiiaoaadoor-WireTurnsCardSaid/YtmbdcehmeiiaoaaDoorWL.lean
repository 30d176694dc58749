/- The walks, made by program: each call does what its pure predicate says. -/
import Derived.Test.YtmbdcehmeiiaoaaDoorPL
import Derived.Test.YtmbdcehmeiiaoaaDoorWK
set_option linter.unusedVariables false
set_option linter.unusedSimpArgs false
namespace Go.Proofs.YtmbdcehmeiiaoaaDoor
open Go.Sy Go.RowKit
theorem wired_fun   (Z : Fz) (w : World)  (hZ : Z.on w) : Calls Tryd.prog 21 #[] w fun e w' => e = .returned (.bool true) ∧ Below w.heap.size w w' :=
  (wired_walk   Z w  hZ (wired_ok )).mono fun _ _ ⟨r, he, hk, hb⟩ => ⟨by subst hk; exact he, hb⟩

set_option maxRecDepth 100000 in
set_option maxHeartbeats 0 in
theorem LTurns_walk (u0 : List Frame) (ao1 : Option Addr) (cap2 : Nat) (Z : Fz) (w : World) (hs3 : SlR tyFrame Z ao1 cap2 u0) (hZ : Z.on w) {K : Bool → Prop} (hp : LTurns_vc u0 K) : Calls Tryd.prog 7 #[.slice ao1 u0.length cap2] w fun e w' => ∃ r : Bool, e = .returned (.bool r) ∧ K r ∧ Below w.heap.size w w' := by
 refine enter0 Tryd.func7 rfl rfl (by kernel_rfl) ?_; intro a0 hF0; have hM0 := Mem.start w Z hZ; have hle0 := Fz.le.refl Z
 have hp4 := hp (hs3.small); clear hp
 refine sqH ?_; intro hQ5Q hQ5
 refine s1 hF0 2 (.bool false) ?_; intro a6 hF7; clear hF0
 refine nlH (hQ5 _ _ ?_); clear hQ5 hQ5Q
 refine sqH ?_; intro hQ8Q hQ8
 refine s1 hF7 13 (.slice ao1 u0.length cap2) ?_; intro a9 hF10; clear hF7
 have hc11 := hp4.1; have hp12 := hp4.2; clear hp4
 refine cl hF10 18 #[.slice ao1 u0.length cap2] (nog rfl _) rfl (by kernel_rfl) (by kernel_rfl) ?_
 refine (wsend_fun u0 hc11 ao1 cap2 _ _ hs3 hM0.fz).mono ?_; rintro _ wd13 ⟨ao17, cap18, Z19, rfl, hm⟩; refine ⟨_, rfl, ?_⟩; intro a14 hF15; have hM16 := hM0.callZ hm; have hle20 := hm.ext.le; clear hm hM0 hF10
 replace hs3 := hs3.mono hle20
 replace hle0 := Fz.le.trans hle0 hle20
 have hM21 : Mem w.heap.size [] w Z [.own (tyInt .i64) 3 ao17 cap18 ((sendS u0).2.2.1)] Z19 wd13 := hM16; clear hM16
 have hp22 := hp12 (hM21.ownSmall 0 rfl); clear hp12
 refine s1 hF15 12 (.tuple #[str ((sendS u0).1), .int .i64 ((sendS u0).2.1), .slice ao17 ((sendS u0).2.2.1).length cap18, .int .i64 ((sendS u0).2.2.2)]) ?_; intro a23 hF24; clear hF15
 refine s1 hF24 15 (str ((sendS u0).1)) ?_; intro a25 hF26; clear hF24
 refine s1 hF26 16 (.int .i64 ((sendS u0).2.1)) ?_; intro a27 hF28; clear hF26
 refine s1 hF28 17 (.slice ao17 ((sendS u0).2.2.1).length cap18) ?_; intro a29 hF30; clear hF28
 refine s1 hF30 18 (.int .i64 ((sendS u0).2.2.2)) ?_; intro a31 hF32; clear hF30
 refine s1 hF32 3 (str ((sendS u0).1)) ?_; intro a33 hF34; clear hF32
 refine s1 hF34 4 (.int .i64 ((sendS u0).2.1)) ?_; intro a35 hF36; clear hF34
 refine s1 hF36 5 (.slice ao17 ((sendS u0).2.2.1).length cap18) ?_; intro a37 hF38; clear hF36
 refine s1 hF38 6 (.int .i64 ((sendS u0).2.2.2)) ?_; intro a39 hF40; clear hF38
 refine nlH (hQ8 _ _ ?_); clear hQ8 hQ8Q
 refine sqH ?_; intro hQ41Q hQ41
 refine s1 hF40 19 (.slice ao1 u0.length cap2) ?_; intro a42 hF43; clear hF40
 have hc44 := hp22.1; have hp45 := hp22.2; clear hp22
 refine cl hF43 19 #[.slice ao1 u0.length cap2] (nog rfl _) rfl (by kernel_rfl) (by kernel_rfl) ?_
 refine (fclone_fun u0 hc44 ao1 cap2 _ _ hs3 hM21.fz).mono ?_; rintro _ wd46 ⟨ao50, cap51, Z52, rfl, hm⟩; refine ⟨_, rfl, ?_⟩; intro a47 hF48; have hM49 := hM21.callZ hm; have hle53 := hm.ext.le; clear hm hM21 hF43
 replace hs3 := hs3.mono hle53
 replace hle0 := Fz.le.trans hle0 hle53
 have hM54 : Mem w.heap.size [] w Z [.own tyFrame 24 ao50 cap51 (fcloneS u0), .own (tyInt .i64) 3 ao17 cap18 ((sendS u0).2.2.1)] Z52 wd46 := hM49; clear hM49
 have hp55 := hp45 (hM54.ownSmall 0 rfl); clear hp45
 refine s1 hF48 7 (.slice ao50 (fcloneS u0).length cap51) ?_; intro a56 hF57; clear hF48
 refine nlH (hQ41 _ _ ?_); clear hQ41 hQ41Q
 have hF58 : Fr 67 [] [⟨0, [], .slice ao1 u0.length cap2⟩, ⟨3, [], str ((sendS u0).1)⟩, ⟨4, [], .int .i64 ((sendS u0).2.1)⟩, ⟨5, [], .slice ao17 ((sendS u0).2.2.1).length cap18⟩, ⟨6, [], .int .i64 ((sendS u0).2.2.2)⟩, ⟨7, [], .slice ao50 (fcloneS u0).length cap51⟩] a56 := hF57.region (by kernel_rfl) (by kernel_rfl); clear hF57
 refine sqH ?_; intro hQ59Q hQ59
 refine s1 hF58 21 (.slice ao50 (fcloneS u0).length cap51) ?_; intro a60 hF61; clear hF58
 refine cl hF61 20 #[.slice ao50 (fcloneS u0).length cap51] (nog rfl _) rfl (by kernel_rfl) (by kernel_rfl) ?_
 refine (frev_fun (fcloneS u0) ao50 cap51 _ _ _ _ _ _ hM54 hM54.fz).mono ?_; rintro _ wd62 ⟨Z67, rfl, hle68, hl66, hm⟩; refine ⟨_, rfl, ?_⟩; intro a63 hF64; have hM65 := hm; clear hm hM54 hF61
 replace hs3 := hs3.mono hle68
 replace hle0 := Fz.le.trans hle0 hle68
 have hF69 : Fr 67 [] [⟨0, [], .slice ao1 u0.length cap2⟩, ⟨3, [], str ((sendS u0).1)⟩, ⟨4, [], .int .i64 ((sendS u0).2.1)⟩, ⟨5, [], .slice ao17 ((sendS u0).2.2.1).length cap18⟩, ⟨6, [], .int .i64 ((sendS u0).2.2.2)⟩, ⟨7, [], .slice ao50 (frevS (fcloneS u0)).length cap51⟩, ⟨21, [], .slice ao50 (frevS (fcloneS u0)).length cap51⟩, ⟨22, [], .tuple #[]⟩] a63 := by rw [hl66]; exact hF64.region (by kernel_rfl) (by kernel_rfl)
 clear hF64
 have hM70 : Mem w.heap.size [] w Z [.own tyFrame 24 ao50 cap51 (frevS (fcloneS u0)), .own (tyInt .i64) 3 ao17 cap18 ((sendS u0).2.2.1)] Z67 wd62 := hM65; clear hM65
 have hp71 := hp55 (hM70.ownSmall 0 rfl); clear hp55
 refine nlH (hQ59 _ _ ?_); clear hQ59 hQ59Q
 refine sqH ?_; intro hQ72Q hQ72
 refine s1 hF69 24 (.slice ao50 (frevS (fcloneS u0)).length cap51) ?_; intro a73 hF74; clear hF69
 obtain ⟨Z75, hle76, hM77, hs78⟩ := hM70.freeze 0 rfl
 replace hs3 := hs3.mono hle76
 replace hle0 := Fz.le.trans hle0 hle76
 have hM79 : Mem w.heap.size [] w Z [.own (tyInt .i64) 3 ao17 cap18 ((sendS u0).2.2.1)] Z75 wd62 := hM77; clear hM77
 have hc80 := hp71.1; have hp81 := hp71.2; clear hp71
 refine cl hF74 18 #[.slice ao50 (frevS (fcloneS u0)).length cap51] (nog rfl _) rfl (by kernel_rfl) (by kernel_rfl) ?_
 refine (wsend_fun (frevS (fcloneS u0)) hc80 ao50 cap51 _ _ hs78 hM79.fz).mono ?_; rintro _ wd82 ⟨ao86, cap87, Z88, rfl, hm⟩; refine ⟨_, rfl, ?_⟩; intro a83 hF84; have hM85 := hM79.callZ hm; have hle89 := hm.ext.le; clear hm hM79 hF74
 replace hs3 := hs3.mono hle89
 replace hs78 := hs78.mono hle89
 replace hle0 := Fz.le.trans hle0 hle89
 have hM90 : Mem w.heap.size [] w Z [.own (tyInt .i64) 3 ao86 cap87 ((sendS (frevS (fcloneS u0))).2.2.1), .own (tyInt .i64) 3 ao17 cap18 ((sendS u0).2.2.1)] Z88 wd82 := hM85; clear hM85
 have hp91 := hp81 (hM90.ownSmall 0 rfl); clear hp81
 refine s1 hF84 23 (.tuple #[str ((sendS (frevS (fcloneS u0))).1), .int .i64 ((sendS (frevS (fcloneS u0))).2.1), .slice ao86 ((sendS (frevS (fcloneS u0))).2.2.1).length cap87, .int .i64 ((sendS (frevS (fcloneS u0))).2.2.2)]) ?_; intro a92 hF93; clear hF84
 refine s1 hF93 26 (str ((sendS (frevS (fcloneS u0))).1)) ?_; intro a94 hF95; clear hF93
 refine s1 hF95 27 (.int .i64 ((sendS (frevS (fcloneS u0))).2.1)) ?_; intro a96 hF97; clear hF95
 refine s1 hF97 28 (.slice ao86 ((sendS (frevS (fcloneS u0))).2.2.1).length cap87) ?_; intro a98 hF99; clear hF97
 refine s1 hF99 29 (.int .i64 ((sendS (frevS (fcloneS u0))).2.2.2)) ?_; intro a100 hF101; clear hF99
 refine s1 hF101 8 (str ((sendS (frevS (fcloneS u0))).1)) ?_; intro a102 hF103; clear hF101
 refine s1 hF103 9 (.int .i64 ((sendS (frevS (fcloneS u0))).2.1)) ?_; intro a104 hF105; clear hF103
 refine s1 hF105 10 (.slice ao86 ((sendS (frevS (fcloneS u0))).2.2.1).length cap87) ?_; intro a106 hF107; clear hF105
 refine s1 hF107 11 (.int .i64 ((sendS (frevS (fcloneS u0))).2.2.2)) ?_; intro a108 hF109; clear hF107
 refine nlH (hQ72 _ _ ?_); clear hQ72 hQ72Q
 refine wp_seq ?_
 refine sqH ?_; intro hQ110Q hQ110
 refine fcl hF109 hM90 (.bool true) 21 #[] (nog rfl _) rfl (by kernel_rfl) (fun _ => by kernel_rfl) (wired_fun  _ _ hM90.fz) ?_; intro a111 wd113 hF112 hM114; clear hF109 hM90
 refine s1 hF112 31 (.bool false) ?_; intro a115 hF116; clear hF112
 refine s1 hF116 32 (.bool false) ?_; intro a117 hF118; clear hF116
 refine st hF118 (.int .i64 ((sendS u0).2.2.2)) (by rw [wanted_of hF118 (b := false) rfl rfl (by kernel_rfl) (by kernel_rfl)]; rfl) rfl (by kernel_rfl) (p0 hF118 (by kernel_rfl)) ?_; intro a119 hF120; clear hF118
 refine st hF120 (.bool (((sendS u0).2.2.2) != 0)) (by rw [wanted_of hF120 (b := false) rfl rfl (by kernel_rfl) (by kernel_rfl)]; rfl) rfl (by kernel_rfl) (p0 hF120 (by kernel_rfl)) ?_; intro a121 hF122; clear hF120
 refine s1 hF122 35 (.bool (((sendS u0).2.2.2) != 0)) ?_; intro a123 hF124; clear hF122
 refine s1 hF124 36 (.bool (((sendS u0).2.2.2) != 0)) ?_; intro a125 hF126; clear hF124
 have hF127 := hF126.atom ((((sendS u0).2.2.2) != 0) == false) (by kernel_rfl); clear hF126
 refine gp hF127 37 0 [] (((sendS u0).2.2.2) != 0) (.int .i64 ((sendS (frevS (fcloneS u0))).2.2.2)) rfl rfl ?_; intro a128 hF129; clear hF127
 refine gp hF129 38 0 [] (((sendS u0).2.2.2) != 0) (.bool (((sendS (frevS (fcloneS u0))).2.2.2) != 0)) rfl rfl ?_; intro a130 hF131; clear hF129
 refine st hF131 (.bool ((((sendS u0).2.2.2) != 0) || (((sendS (frevS (fcloneS u0))).2.2.2) != 0))) (nog rfl _) rfl (by kernel_rfl) (pk_or hF131 (g := []) (m := 0) (b := ((sendS u0).2.2.2) != 0) (v := ((sendS (frevS (fcloneS u0))).2.2.2) != 0) rfl (by kernel_rfl) (by kernel_rfl) (by kernel_rfl) rfl) ?_; intro a132 hF133; clear hF131
 refine nlH (hQ110 _ _ ?_); clear hQ110 hQ110Q
 refine cd hF133 (t := (((sendS u0).2.2.2) != 0) || (((sendS (frevS (fcloneS u0))).2.2.2) != 0)) (by kernel_rfl) (fun hb134 => ?_) (fun hb134 => ?_)
 · -- yes
  have hp135 := hp91.1 hb134; clear hp91
  have hF136 : Fr 67 [] [⟨6, [], .int .i64 ((sendS u0).2.2.2)⟩, ⟨11, [], .int .i64 ((sendS (frevS (fcloneS u0))).2.2.2)⟩] a132 := hF133.region (by kernel_rfl) (by kernel_rfl); clear hF133
  refine sqH ?_; intro hQ137Q hQ137
  refine fcl hF136 hM114 (.bool true) 21 #[] (nog rfl _) rfl (by kernel_rfl) (fun _ => by kernel_rfl) (wired_fun  _ _ hM114.fz) ?_; intro a138 wd140 hF139 hM141; clear hF136 hM114
  refine s1 hF139 41 (.bool true) ?_; intro a142 hF143; clear hF139
  refine st hF143 (.int .i64 ((sendS u0).2.2.2)) (by rw [wanted_of hF143 (b := true) rfl rfl (by kernel_rfl) (by kernel_rfl)]; rfl) rfl (by kernel_rfl) (p0 hF143 (by kernel_rfl)) ?_; intro a144 hF145; clear hF143
  refine st hF145 (.bool (((sendS u0).2.2.2) == 0)) (by rw [wanted_of hF145 (b := true) rfl rfl (by kernel_rfl) (by kernel_rfl)]; rfl) rfl (by kernel_rfl) (p0 hF145 (by kernel_rfl)) ?_; intro a146 hF147; clear hF145
  refine st hF147 (.int .i64 ((sendS (frevS (fcloneS u0))).2.2.2)) (by rw [wanted_of hF147 (b := true) rfl rfl (by kernel_rfl) (by kernel_rfl)]; rfl) rfl (by kernel_rfl) (p0 hF147 (by kernel_rfl)) ?_; intro a148 hF149; clear hF147
  refine st hF149 (.bool (((sendS (frevS (fcloneS u0))).2.2.2) == 0)) (by rw [wanted_of hF149 (b := true) rfl rfl (by kernel_rfl) (by kernel_rfl)]; rfl) rfl (by kernel_rfl) (p0 hF149 (by kernel_rfl)) ?_; intro a150 hF151; clear hF149
  refine st hF151 (.bool ((((sendS u0).2.2.2) == 0) == (((sendS (frevS (fcloneS u0))).2.2.2) == 0))) (by rw [wanted_of hF151 (b := true) rfl rfl (by kernel_rfl) (by kernel_rfl)]; rfl) rfl (by kernel_rfl) (p0 hF151 (by kernel_rfl)) ?_; intro a152 hF153; clear hF151
  refine s1 hF153 47 (.bool ((((sendS u0).2.2.2) == 0) == (((sendS (frevS (fcloneS u0))).2.2.2) == 0))) ?_; intro a154 hF155; clear hF153
  refine s1 hF155 2 (.bool ((((sendS u0).2.2.2) == 0) == (((sendS (frevS (fcloneS u0))).2.2.2) == 0))) ?_; intro a156 hF157; clear hF155
  refine nlH (hQ137 _ _ ?_); clear hQ137 hQ137Q
  refine wp_ret ?_
  refine thr ?_
  refine rt (fn := Tryd.f7) (v := .bool ((((sendS u0).2.2.2) == 0) == (((sendS (frevS (fcloneS u0))).2.2.2) == 0))) hF157 (re1 hF157 (fn := Tryd.f7) rfl (by kernel_rfl)) ?_
  exact ⟨(((sendS u0).2.2.2) == 0) == (((sendS (frevS (fcloneS u0))).2.2.2) == 0), rfl, hp135, hM141.below⟩
 · -- no
  have hp158 := hp91.2 hb134; clear hp91
  refine wp_skip ?_
  refine thn ?_
  have hF159 : Fr 67 [] [⟨0, [], .slice ao1 u0.length cap2⟩, ⟨3, [], str ((sendS u0).1)⟩, ⟨4, [], .int .i64 ((sendS u0).2.1)⟩, ⟨5, [], .slice ao17 ((sendS u0).2.2.1).length cap18⟩, ⟨8, [], str ((sendS (frevS (fcloneS u0))).1)⟩, ⟨9, [], .int .i64 ((sendS (frevS (fcloneS u0))).2.1)⟩, ⟨10, [], .slice ao86 ((sendS (frevS (fcloneS u0))).2.2.1).length cap87⟩] a132 := hF133.region (by kernel_rfl) (by kernel_rfl); clear hF133
  refine sqH ?_; intro hQ160Q hQ160
  refine s1 hF159 48 (.slice ao86 ((sendS (frevS (fcloneS u0))).2.2.1).length cap87) ?_; intro a161 hF162; clear hF159
  refine cl hF162 22 #[.slice ao86 ((sendS (frevS (fcloneS u0))).2.2.1).length cap87] (nog rfl _) rfl (by kernel_rfl) (by kernel_rfl) ?_
  refine (irev_fun ((sendS (frevS (fcloneS u0))).2.2.1) ao86 cap87 _ _ _ _ _ _ hM114 hM114.fz).mono ?_; rintro _ wd163 ⟨Z168, rfl, hle169, hl167, hm⟩; refine ⟨_, rfl, ?_⟩; intro a164 hF165; have hM166 := hm; clear hm hM114 hF162
  replace hs3 := hs3.mono hle169
  replace hs78 := hs78.mono hle169
  replace hle0 := Fz.le.trans hle0 hle169
  have hF170 : Fr 67 [] [⟨0, [], .slice ao1 u0.length cap2⟩, ⟨3, [], str ((sendS u0).1)⟩, ⟨4, [], .int .i64 ((sendS u0).2.1)⟩, ⟨5, [], .slice ao17 ((sendS u0).2.2.1).length cap18⟩, ⟨8, [], str ((sendS (frevS (fcloneS u0))).1)⟩, ⟨9, [], .int .i64 ((sendS (frevS (fcloneS u0))).2.1)⟩, ⟨10, [], .slice ao86 (irevS ((sendS (frevS (fcloneS u0))).2.2.1)).length cap87⟩, ⟨48, [], .slice ao86 (irevS ((sendS (frevS (fcloneS u0))).2.2.1)).length cap87⟩, ⟨49, [], .tuple #[]⟩] a164 := by rw [hl167]; exact hF165.region (by kernel_rfl) (by kernel_rfl)
  clear hF165
  have hM171 : Mem w.heap.size [] w Z [.own (tyInt .i64) 3 ao86 cap87 (irevS ((sendS (frevS (fcloneS u0))).2.2.1)), .own (tyInt .i64) 3 ao17 cap18 ((sendS u0).2.2.1)] Z168 wd163 := hM166; clear hM166
  have hp172 := hp158 (hM171.ownSmall 0 rfl); clear hp158
  refine nlH (hQ160 _ _ ?_); clear hQ160 hQ160Q
  refine sqH ?_; intro hQ173Q hQ173
  refine s1 hF170 50 (str ((sendS u0).1)) ?_; intro a174 hF175; clear hF170
  refine s1 hF175 51 (str ((sendS (frevS (fcloneS u0))).1)) ?_; intro a176 hF177; clear hF175
  refine st hF177 (.bool (((sendS u0).1) == ((sendS (frevS (fcloneS u0))).1))) (nog rfl _) rfl (by kernel_rfl) (strcmp_run hF177 (g := []) (op := .eql) rfl (by kernel_rfl) (by kernel_rfl) (by decide) rfl) ?_; intro a178 hF179; clear hF177
  refine s1 hF179 53 (.bool (((sendS u0).1) == ((sendS (frevS (fcloneS u0))).1))) ?_; intro a180 hF181; clear hF179
  have hF182 := hF181.atom ((((sendS u0).1) == ((sendS (frevS (fcloneS u0))).1)) == true) (by kernel_rfl); clear hF181
  refine gp hF182 54 0 [] (((sendS u0).1) == ((sendS (frevS (fcloneS u0))).1)) (.int .i64 ((sendS u0).2.1)) rfl rfl ?_; intro a183 hF184; clear hF182
  refine gp hF184 55 0 [] (((sendS u0).1) == ((sendS (frevS (fcloneS u0))).1)) (.slice ao1 u0.length cap2) rfl rfl ?_; intro a185 hF186; clear hF184
  refine gp hF186 56 0 [] (((sendS u0).1) == ((sendS (frevS (fcloneS u0))).1)) (.int .i64 (u0.length : Int)) rfl rfl ?_; intro a187 hF188; clear hF186
  refine gp hF188 57 0 [] (((sendS u0).1) == ((sendS (frevS (fcloneS u0))).1)) (.int .i64 (w64 ((u0.length : Int) - 1))) rfl rfl ?_; intro a189 hF190; clear hF188
  refine gp hF190 58 0 [] (((sendS u0).1) == ((sendS (frevS (fcloneS u0))).1)) (.int .i64 ((sendS (frevS (fcloneS u0))).2.1)) rfl rfl ?_; intro a191 hF192; clear hF190
  refine gp hF192 59 0 [] (((sendS u0).1) == ((sendS (frevS (fcloneS u0))).1)) (.int .i64 (w64 ((w64 ((u0.length : Int) - 1)) - ((sendS (frevS (fcloneS u0))).2.1)))) rfl rfl ?_; intro a193 hF194; clear hF192
  refine gp hF194 60 0 [] (((sendS u0).1) == ((sendS (frevS (fcloneS u0))).1)) (.bool (((sendS u0).2.1) == (w64 ((w64 ((u0.length : Int) - 1)) - ((sendS (frevS (fcloneS u0))).2.1))))) rfl rfl ?_; intro a195 hF196; clear hF194
  refine st hF196 (.bool ((((sendS u0).1) == ((sendS (frevS (fcloneS u0))).1)) && (((sendS u0).2.1) == (w64 ((w64 ((u0.length : Int) - 1)) - ((sendS (frevS (fcloneS u0))).2.1)))))) (nog rfl _) rfl (by kernel_rfl) (pk_and hF196 (g := []) (m := 0) (b := ((sendS u0).1) == ((sendS (frevS (fcloneS u0))).1)) (v := ((sendS u0).2.1) == (w64 ((w64 ((u0.length : Int) - 1)) - ((sendS (frevS (fcloneS u0))).2.1)))) rfl (by kernel_rfl) (by kernel_rfl) (by kernel_rfl) rfl) ?_; intro a197 hF198; clear hF196
  refine s1 hF198 62 (.bool ((((sendS u0).1) == ((sendS (frevS (fcloneS u0))).1)) && (((sendS u0).2.1) == (w64 ((w64 ((u0.length : Int) - 1)) - ((sendS (frevS (fcloneS u0))).2.1)))))) ?_; intro a199 hF200; clear hF198
  have hF201 := hF200.atom (((((sendS u0).1) == ((sendS (frevS (fcloneS u0))).1)) && (((sendS u0).2.1) == (w64 ((w64 ((u0.length : Int) - 1)) - ((sendS (frevS (fcloneS u0))).2.1))))) == true) (by kernel_rfl); clear hF200
  refine gp hF201 63 1 [] ((((sendS u0).1) == ((sendS (frevS (fcloneS u0))).1)) && (((sendS u0).2.1) == (w64 ((w64 ((u0.length : Int) - 1)) - ((sendS (frevS (fcloneS u0))).2.1))))) (.slice ao17 ((sendS u0).2.2.1).length cap18) rfl rfl ?_; intro a202 hF203; clear hF201
  refine gp hF203 64 1 [] ((((sendS u0).1) == ((sendS (frevS (fcloneS u0))).1)) && (((sendS u0).2.1) == (w64 ((w64 ((u0.length : Int) - 1)) - ((sendS (frevS (fcloneS u0))).2.1))))) (.slice ao86 (irevS ((sendS (frevS (fcloneS u0))).2.2.1)).length cap87) rfl rfl ?_; intro a204 hF205; clear hF203
  obtain ⟨Z206, hle207, hM208, hs209⟩ := hM171.freeze 1 rfl
  replace hs3 := hs3.mono hle207
  replace hs78 := hs78.mono hle207
  replace hle0 := Fz.le.trans hle0 hle207
  have hM210 : Mem w.heap.size [] w Z [.own (tyInt .i64) 3 ao86 cap87 (irevS ((sendS (frevS (fcloneS u0))).2.2.1))] Z206 wd163 := hM208; clear hM208
  obtain ⟨Z211, hle212, hM213, hs214⟩ := hM210.freeze 0 rfl
  replace hs3 := hs3.mono hle212
  replace hs78 := hs78.mono hle212
  replace hs209 := hs209.mono hle212
  replace hle0 := Fz.le.trans hle0 hle212
  have hM215 : Mem w.heap.size [] w Z [] Z211 wd163 := hM213; clear hM213
  refine gcl hF205 hM215 (.bool (ieqS ((sendS u0).2.2.1) (irevS ((sendS (frevS (fcloneS u0))).2.2.1)))) 23 #[.slice ao17 ((sendS u0).2.2.1).length cap18, .slice ao86 (irevS ((sendS (frevS (fcloneS u0))).2.2.1)).length cap87] (m := 1) (cj := []) (bj := (((sendS u0).1) == ((sendS (frevS (fcloneS u0))).1)) && (((sendS u0).2.1) == (w64 ((w64 ((u0.length : Int) - 1)) - ((sendS (frevS (fcloneS u0))).2.1))))) rfl rfl (by kernel_rfl) rfl (by kernel_rfl) (by kernel_rfl) (by kernel_rfl) (fun _ => by kernel_rfl) (fun hg => ieq_fun ((sendS u0).2.2.1) (irevS ((sendS (frevS (fcloneS u0))).2.2.1)) ao17 cap18 ao86 cap87 _ _ hs209 hs214 hM215.fz) ?_; intro a216 wd218 hF217 hM219; clear hF205 hM215
  refine st hF217 (.bool (((((sendS u0).1) == ((sendS (frevS (fcloneS u0))).1)) && (((sendS u0).2.1) == (w64 ((w64 ((u0.length : Int) - 1)) - ((sendS (frevS (fcloneS u0))).2.1))))) && (ieqS ((sendS u0).2.2.1) (irevS ((sendS (frevS (fcloneS u0))).2.2.1))))) (nog rfl _) rfl (by kernel_rfl) (pk_and hF217 (g := []) (m := 1) (b := (((sendS u0).1) == ((sendS (frevS (fcloneS u0))).1)) && (((sendS u0).2.1) == (w64 ((w64 ((u0.length : Int) - 1)) - ((sendS (frevS (fcloneS u0))).2.1))))) (v := (ieqS ((sendS u0).2.2.1) (irevS ((sendS (frevS (fcloneS u0))).2.2.1)))) rfl (by kernel_rfl) (by kernel_rfl) (by kernel_rfl) rfl) ?_; intro a220 hF221; clear hF217
  refine s1 hF221 2 (.bool (((((sendS u0).1) == ((sendS (frevS (fcloneS u0))).1)) && (((sendS u0).2.1) == (w64 ((w64 ((u0.length : Int) - 1)) - ((sendS (frevS (fcloneS u0))).2.1))))) && (ieqS ((sendS u0).2.2.1) (irevS ((sendS (frevS (fcloneS u0))).2.2.1))))) ?_; intro a222 hF223; clear hF221
  refine nlH (hQ173 _ _ ?_); clear hQ173 hQ173Q
  refine wp_ret ?_
  refine rt (fn := Tryd.f7) (v := .bool (((((sendS u0).1) == ((sendS (frevS (fcloneS u0))).1)) && (((sendS u0).2.1) == (w64 ((w64 ((u0.length : Int) - 1)) - ((sendS (frevS (fcloneS u0))).2.1))))) && (ieqS ((sendS u0).2.2.1) (irevS ((sendS (frevS (fcloneS u0))).2.2.1))))) hF223 (re1 hF223 (fn := Tryd.f7) rfl (by kernel_rfl)) ?_
  exact ⟨((((sendS u0).1) == ((sendS (frevS (fcloneS u0))).1)) && (((sendS u0).2.1) == (w64 ((w64 ((u0.length : Int) - 1)) - ((sendS (frevS (fcloneS u0))).2.1))))) && (ieqS ((sendS u0).2.2.1) (irevS ((sendS (frevS (fcloneS u0))).2.2.1))), rfl, hp172, hM219.below⟩

end Go.Proofs.YtmbdcehmeiiaoaaDoor
