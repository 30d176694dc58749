/- The walks, made by program: each call does what its pure predicate says. -/
import Derived.Test.YtmbdcehmeiiaoaaGreatDoorWF
set_option linter.unusedVariables false
set_option linter.unusedSimpArgs false
namespace Go.Proofs.YtmbdcehmeiiaoaaGreatDoor
open Go.Sy Go.RowKit
set_option maxRecDepth 100000 in
set_option maxHeartbeats 0 in
theorem fRead_walk (u0 : List UInt8)  (Z : Fz) (w : World)  (hZ : Z.on w) {K : (Frame × Int × Int) → Prop} (hp : fRead_vc u0 K) : Calls Tryz.prog 8 #[str u0] w fun e w' => ∃ (r : Frame × Int × Int) (ao1001 : Option Addr) (cap1002 : Nat) (Z' : Fz), e = .returned (.tuple #[.agg #[.int .i64 r.1.ID, .bool r.1.Long, .bool r.1.Fast, .bool r.1.Remote, .int .i64 r.1.Size, .slice ao1001 r.1.Data.length cap1002], .int .i64 r.2.1, .int .i64 r.2.2]) ∧ K r ∧ SlR (tyInt .u8) Z' ao1001 cap1002 r.1.Data ∧ Mem w.heap.size [] w Z [] Z' w' := by
 refine enter0 Tryz.func8 rfl rfl (by kernel_rfl) ?_; intro a0 hF0; have hM0 := Mem.start w Z hZ; have hle0 := Fz.le.refl Z
 refine sqH ?_; intro hQ1Q hQ1
 refine sn hF0 hM0 (fun b => .pointer (some ⟨b, 0, none⟩)) [.int .i64 0, .bool false, .bool false, .bool false, .int .i64 0, .slice none 0 0] 24 (nog rfl _) rfl (by kernel_rfl) (by kernel_rfl) ?_; intro b2 a3 wd5 hF4 hM6; clear hF0 hM0
 refine s1 hF4 3 (.int .i64 0) ?_; intro a7 hF8; clear hF4
 refine s1 hF8 4 (.int .i64 0) ?_; intro a9 hF10; clear hF8
 refine nlH (hQ1 _ _ ?_); clear hQ1 hQ1Q
 refine wp_seq ?_
 refine sqH ?_; intro hQ11Q hQ11
 refine s1 hF10 13 (str u0) ?_; intro a12 hF13; clear hF10
 refine fcl hF13 hM6 (.int .i64 (bcheckS u0)) 31 #[str u0] (nog rfl _) rfl (by kernel_rfl) (fun _ => by kernel_rfl) (bcheck_fun u0 _ _ hM6.fz) ?_; intro a14 wd16 hF15 hM17; clear hF13 hM6
 refine s1 hF15 5 (.int .i64 (bcheckS u0)) ?_; intro a18 hF19; clear hF15
 refine nlH (hQ11 _ _ ?_); clear hQ11 hQ11Q
 refine sqH ?_; intro hQ20Q hQ20
 refine s1 hF19 15 (.int .i64 (bcheckS u0)) ?_; intro a21 hF22; clear hF19
 refine s1 hF22 16 (.bool ((bcheckS u0) != 0)) ?_; intro a23 hF24; clear hF22
 refine nlH (hQ20 _ _ ?_); clear hQ20 hQ20Q
 have hc25 := hp.1; have hp26 := hp.2; clear hp
 refine cd hF24 (t := (bcheckS u0) != 0) (by kernel_rfl) (fun h => Bool.noConfusion (hc25.symm.trans h)) (fun _ => ?_)
 refine wp_skip ?_
 refine thn ?_
 refine sqH ?_; intro hQ28Q hQ28
 refine s1 hF24 19 (str u0) ?_; intro a29 hF30; clear hF24
 refine s1 hF30 20 (.agg #[str u0, .int .i64 0, .int .i64 0, .int .u8 0, .int .i64 0]) ?_; intro a31 hF32; clear hF30
 refine s1 hF32 21 (.agg #[str u0, .int .i64 0, .int .i64 0, .int .u8 0, .int .i64 0, .int .i64 0, .bool false, .bool false, .bool false, .int .i64 0, .slice none 0 0]) ?_; intro a33 hF34; clear hF32
 refine sn hF34 hM17 (fun b => .pointer (some ⟨b, 0, none⟩)) [str u0, .int .i64 0, .int .i64 0, .int .u8 0, .int .i64 0, .int .i64 0, .bool false, .bool false, .bool false, .int .i64 0, .slice none 0 0] 61 (nog rfl _) rfl (by kernel_rfl) (by kernel_rfl) ?_; intro b35 a36 wd38 hF37 hM39; clear hF34 hM17
 refine s1 hF37 6 (.pointer (some ⟨b35, 0, none⟩)) ?_; intro a40 hF41; clear hF37
 refine nlH (hQ28 _ _ ?_); clear hQ28 hQ28Q
 refine sqH ?_; intro hQ42Q hQ42
 refine s1 hF41 23 (.pointer (some ⟨b35, 0, none⟩)) ?_; intro a43 hF44; clear hF41
 have hc45 := hp26.1; have hp46 := hp26.2; clear hp26
 refine cl hF44 32 #[.pointer (some ⟨b35, 0, none⟩)] (nog rfl _) rfl (by kernel_rfl) (by kernel_rfl) ?_
 obtain ⟨r51, hr52⟩ : ∃ x, (rnamesS (⟨(⟨u0, 0, 0, (⟨0, 0⟩ : Counter)⟩ : Reader), (⟨0, false, false, false, 0, []⟩ : Frame)⟩ : FReader)) = x := ⟨_, rfl⟩; have hp53 := hp46 r51 hr52; clear hp46
 have h9 := rnames_fun (⟨(⟨u0, 0, 0, (⟨0, 0⟩ : Counter)⟩ : Reader), (⟨0, false, false, false, 0, []⟩ : Frame)⟩ : FReader) hc45 b35 none 0 _ _ _ _ _ _ (SlR.nil _ _) hM39 hM39.fz; rw [hr52] at h9; refine h9.mono ?_; clear h9; rintro _ wd47 ⟨ao55, cap56, Z58, rfl, hle59, hs57, hm⟩; refine ⟨_, rfl, ?_⟩; intro a48 hF49; have hM50 := hm; clear hm hM39 hF44
 replace hle0 := Fz.le.trans hle0 hle59
 have hM60 : Mem w.heap.size [] w Z [.row b35 [str r51.Reader.Row, .int .i64 r51.Reader.At, .int .i64 r51.Reader.Code, .int .u8 r51.Reader.c.last, .int .i64 r51.Reader.c.n, .int .i64 r51.f.ID, .bool r51.f.Long, .bool r51.f.Fast, .bool r51.f.Remote, .int .i64 r51.f.Size, .slice ao55 r51.f.Data.length cap56] 61, .row b2 [.int .i64 0, .bool false, .bool false, .bool false, .int .i64 0, .slice none 0 0] 24] Z58 wd47 := hM50; clear hM50
 have hp61 := hp53 (hs57.small); clear hp53
 refine nlH (hQ42 _ _ ?_); clear hQ42 hQ42Q
 have hF62 : Fr 158 [] [⟨2, [], .pointer (some ⟨b2, 0, none⟩)⟩, ⟨6, [], .pointer (some ⟨b35, 0, none⟩)⟩] a48 := hF49.reg; clear hF49
 refine sqH ?_; intro hQ63Q hQ63
 refine s1 hF62 25 (.pointer (some ⟨b35, 0, none⟩)) ?_; intro a64 hF65; clear hF62
 have hc66 := hp61.1; have hp67 := hp61.2; clear hp61
 refine cl hF65 33 #[.pointer (some ⟨b35, 0, none⟩), .int .i64 4] (nog rfl _) rfl (by kernel_rfl) (by kernel_rfl) ?_
 obtain ⟨r72, hr73⟩ : ∃ x, (rnumberS r51 4) = x := ⟨_, rfl⟩; have hp74 := hp67 r72 hr73; clear hp67
 have h9 := rnumber_fun r51 4 hc66 b35 ao55 cap56 _ _ _ _ _ _ hs57 hM60 hM60.fz; rw [hr73] at h9; refine h9.mono ?_; clear h9; rintro _ wd68 ⟨ao76, cap77, Z79, rfl, hle80, hs78, hm⟩; refine ⟨_, rfl, ?_⟩; intro a69 hF70; have hM71 := hm; clear hm hM60 hF65
 replace hs57 := hs57.mono hle80
 replace hle0 := Fz.le.trans hle0 hle80
 have hM81 : Mem w.heap.size [] w Z [.row b35 [str r72.2.Reader.Row, .int .i64 r72.2.Reader.At, .int .i64 r72.2.Reader.Code, .int .u8 r72.2.Reader.c.last, .int .i64 r72.2.Reader.c.n, .int .i64 r72.2.f.ID, .bool r72.2.f.Long, .bool r72.2.f.Fast, .bool r72.2.f.Remote, .int .i64 r72.2.f.Size, .slice ao76 r72.2.f.Data.length cap77] 61, .row b2 [.int .i64 0, .bool false, .bool false, .bool false, .int .i64 0, .slice none 0 0] 24] Z79 wd68 := hM71; clear hM71
 have hp82 := hp74 (hs78.small); clear hp74
 refine s1 hF70 7 (.int .i64 r72.1) ?_; intro a83 hF84; clear hF70
 refine nlH (hQ63 _ _ ?_); clear hQ63 hQ63Q
 refine wp_seq ?_
 refine wp_block ?_
 refine sqH ?_; intro hQ85Q hQ85
 refine s1 hF84 47 (.pointer (some ⟨b35, 0, none⟩)) ?_; intro a86 hF87; clear hF84
 refine s1 hF87 48 (.pointer (some ⟨b35, 0, none⟩)) ?_; intro a88 hF89; clear hF87
 refine s1 hF89 49 (.pointer (some ⟨b35, 0, none⟩)) ?_; intro a90 hF91; clear hF89
 refine s1 hF91 50 (.pointer (some ⟨b35, 2, none⟩)) ?_; intro a92 hF93; clear hF91
 refine l1 hF93 hM81 51 0 2 (.int .i64 r72.2.Reader.Code) rfl rfl ?_; intro a94 hF95; clear hF93
 refine s1 hF95 52 (.bool (r72.2.Reader.Code != 0)) ?_; intro a96 hF97; clear hF95
 refine s1 hF97 46 (.bool (r72.2.Reader.Code != 0)) ?_; intro a98 hF99; clear hF97
 refine nlH (hQ85 _ _ ?_); clear hQ85 hQ85Q
 have hc100 := hp82.1; have hp101 := hp82.2; clear hp82
 refine cd hF99 (t := r72.2.Reader.Code != 0) (by kernel_rfl) (fun h => Bool.noConfusion (hc100.symm.trans h)) (fun _ => ?_)
 refine sqH ?_; intro hQ103Q hQ103
 refine s1 hF99 54 (.pointer (some ⟨b35, 0, none⟩)) ?_; intro a104 hF105; clear hF99
 refine s1 hF105 55 (.pointer (some ⟨b35, 0, none⟩)) ?_; intro a106 hF107; clear hF105
 refine s1 hF107 56 (.pointer (some ⟨b35, 5, none⟩)) ?_; intro a108 hF109; clear hF107
 refine s1 hF109 57 (.pointer (some ⟨b35, 7, none⟩)) ?_; intro a110 hF111; clear hF109
 refine l1 hF111 hM81 58 0 7 (.bool r72.2.f.Fast) rfl rfl ?_; intro a112 hF113; clear hF111
 refine s1 hF113 59 (.bool (!r72.2.f.Fast)) ?_; intro a114 hF115; clear hF113
 refine s1 hF115 60 (.bool (!r72.2.f.Fast)) ?_; intro a116 hF117; clear hF115
 have hF118 := hF117.atom ((!r72.2.f.Fast) == true) (by kernel_rfl); clear hF117
 refine gp hF118 61 0 [] (!r72.2.f.Fast) (.int .i64 r72.1) rfl rfl ?_; intro a119 hF120; clear hF118
 refine gp hF120 62 0 [] (!r72.2.f.Fast) (.bool (decide (r72.1 > 8))) rfl rfl ?_; intro a121 hF122; clear hF120
 refine st hF122 (.bool ((!r72.2.f.Fast) && (decide (r72.1 > 8)))) (nog rfl _) rfl (by kernel_rfl) (pk_and hF122 (g := []) (m := 0) (b := !r72.2.f.Fast) (v := decide (r72.1 > 8)) rfl (by kernel_rfl) (by kernel_rfl) (by kernel_rfl) rfl) ?_; intro a123 hF124; clear hF122
 refine s1 hF124 53 (.bool ((!r72.2.f.Fast) && (decide (r72.1 > 8)))) ?_; intro a125 hF126; clear hF124
 refine nlH (hQ103 _ _ ?_); clear hQ103 hQ103Q
 have hc127 := hp101.1; have hp128 := hp101.2; clear hp101
 refine cd hF126 (t := (!r72.2.f.Fast) && (decide (r72.1 > 8))) (by kernel_rfl) (fun h => Bool.noConfusion (hc127.symm.trans h)) (fun _ => ?_)
 have hF130 : Fr 158 [] [⟨2, [], .pointer (some ⟨b2, 0, none⟩)⟩, ⟨6, [], .pointer (some ⟨b35, 0, none⟩)⟩, ⟨7, [], .int .i64 r72.1⟩] a125 := hF126.reg; clear hF126
 refine sqH ?_; intro hQ131Q hQ131
 refine s1 hF130 67 (.pointer (some ⟨b35, 0, none⟩)) ?_; intro a132 hF133; clear hF130
 refine s1 hF133 68 (.pointer (some ⟨b35, 0, none⟩)) ?_; intro a134 hF135; clear hF133
 refine s1 hF135 69 (.pointer (some ⟨b35, 5, none⟩)) ?_; intro a136 hF137; clear hF135
 refine s1 hF137 70 (.pointer (some ⟨b35, 8, none⟩)) ?_; intro a138 hF139; clear hF137
 refine l1 hF139 hM81 71 0 8 (.bool r72.2.f.Remote) rfl rfl ?_; intro a140 hF141; clear hF139
 refine s1 hF141 66 (.bool r72.2.f.Remote) ?_; intro a142 hF143; clear hF141
 refine nlH (hQ131 _ _ ?_); clear hQ131 hQ131Q
 have hc144 := hp128.1; have hp145 := hp128.2; clear hp128
 refine cd hF143 (t := r72.2.f.Remote) (by kernel_rfl) (fun h => Bool.noConfusion (hc144.symm.trans h)) (fun _ => ?_)
 refine sqH ?_; intro hQ147Q hQ147
 refine cl hF143 35 #[] (nog rfl _) rfl (by kernel_rfl) (by kernel_rfl) ?_
 refine (fsizes_fun  _ _ hM81.fz).mono ?_; rintro _ wd148 ⟨ao152, cap153, Z154, rfl, hm⟩; refine ⟨_, rfl, ?_⟩; intro a149 hF150; have hM151 := hM81.callZ hm; have hle155 := hm.ext.le; clear hm hM81 hF143
 replace hs57 := hs57.mono hle155
 replace hs78 := hs78.mono hle155
 replace hle0 := Fz.le.trans hle0 hle155
 have hM156 : Mem w.heap.size [] w Z [.own (tyInt .i64) 3 ao152 cap153 fsizes, .row b35 [str r72.2.Reader.Row, .int .i64 r72.2.Reader.At, .int .i64 r72.2.Reader.Code, .int .u8 r72.2.Reader.c.last, .int .i64 r72.2.Reader.c.n, .int .i64 r72.2.f.ID, .bool r72.2.f.Long, .bool r72.2.f.Fast, .bool r72.2.f.Remote, .int .i64 r72.2.f.Size, .slice ao76 r72.2.f.Data.length cap77] 61, .row b2 [.int .i64 0, .bool false, .bool false, .bool false, .int .i64 0, .slice none 0 0] 24] Z154 wd148 := hM151; clear hM151
 have hp157 := hp145 (hM156.ownSmall 0 rfl); clear hp145
 refine s1 hF150 28 (.int .i64 r72.1) ?_; intro a158 hF159; clear hF150
 have hc160 := hp157.1; have hp161 := hp157.2; clear hp157
 refine ixo hF159 hM156 0 (T := (tyInt .i64)) (xs := fsizes) r72.1 hc160 (k := .i64) (e := 3) (bytes := 8) (nog rfl _) rfl (by kernel_rfl) rfl (by kernel_rfl) (by kernel_rfl) rfl (by kernel_rfl) ?_; intro g162 a164 hg163 hF165; clear hF159
 subst hg163
 have hF166 : Fr 158 [] [⟨2, [], .pointer (some ⟨b2, 0, none⟩)⟩, ⟨6, [], .pointer (some ⟨b35, 0, none⟩)⟩, ⟨7, [], .int .i64 r72.1⟩, ⟨27, [], .slice (some ⟨g162, 0, none⟩) fsizes.length cap153⟩, ⟨28, [], .int .i64 r72.1⟩, ⟨29, [], .pointer (some ⟨g162, r72.1.toNat * 1, none⟩)⟩, ⟨66, [], .bool r72.2.f.Remote⟩, ⟨67, [], .pointer (some ⟨b35, 0, none⟩)⟩, ⟨68, [], .pointer (some ⟨b35, 0, none⟩)⟩, ⟨69, [], .pointer (some ⟨b35, 5, none⟩)⟩, ⟨70, [], .pointer (some ⟨b35, 8, none⟩)⟩, ⟨71, [], .bool r72.2.f.Remote⟩] a164 := hF165.reg; clear hF165
 have hM167 : Mem w.heap.size [] w Z [.own (tyInt .i64) 3 (some ⟨g162, 0, none⟩) cap153 fsizes, .row b35 [str r72.2.Reader.Row, .int .i64 r72.2.Reader.At, .int .i64 r72.2.Reader.Code, .int .u8 r72.2.Reader.c.last, .int .i64 r72.2.Reader.c.n, .int .i64 r72.2.f.ID, .bool r72.2.f.Long, .bool r72.2.f.Fast, .bool r72.2.f.Remote, .int .i64 r72.2.f.Size, .slice ao76 r72.2.f.Data.length cap77] 61, .row b2 [.int .i64 0, .bool false, .bool false, .bool false, .int .i64 0, .slice none 0 0] 24] Z154 wd148 := hM156; clear hM156
 obtain ⟨q168, hq169⟩ : ∃ q, fsizes[r72.1.toNat]? = some q := ⟨_, List.getElem?_eq_getElem (by first | omega | (simp only [List.length_set] at *; omega))⟩; have hp170 := hp161 q168 hq169; clear hp161
 obtain ⟨cs171, hT172, hcl173⟩ := own_el hM167 0 (T := (tyInt .i64)) (xs := fsizes) rfl r72.1.toNat hq169
 obtain rfl : cs171 = ([.int .i64 q168] : List Value) := hT172
 refine lc1 hF166 30 (.int .i64 q168) (hcl173 0 _ rfl) rfl ?_; intro a174 hF175; clear hF166
 refine s1 hF175 7 (.int .i64 q168) ?_; intro a176 hF177; clear hF175
 refine nlH (hQ147 _ _ ?_); clear hQ147 hQ147Q
 refine sqH ?_; intro hQ178Q hQ178
 refine s1 hF177 31 (.pointer (some ⟨b35, 0, none⟩)) ?_; intro a179 hF180; clear hF177
 refine s1 hF180 32 (.pointer (some ⟨b35, 0, none⟩)) ?_; intro a181 hF182; clear hF180
 refine s1 hF182 33 (.pointer (some ⟨b35, 0, none⟩)) ?_; intro a183 hF184; clear hF182
 refine s1 hF184 34 (.int .i64 q168) ?_; intro a185 hF186; clear hF184
 refine s1 hF186 35 (.int .i64 (w64 (8 * q168))) ?_; intro a187 hF188; clear hF186
 have hc189 := hp170.1; have hp190 := hp170.2; clear hp170
 refine cl hF188 36 #[.pointer (some ⟨b35, 0, none⟩), .int .i64 (w64 (8 * q168))] (nog rfl _) rfl (by kernel_rfl) (by kernel_rfl) ?_
 obtain ⟨r195, hr196⟩ : ∃ x, (rtakeFS r72.2 (w64 (8 * q168))) = x := ⟨_, rfl⟩; have hp197 := hp190 r195 hr196; clear hp190
 have h9 := rtakeF_fun r72.2 (w64 (8 * q168)) hc189 b35 ao76 cap77 _ _ _ _ _ _ hs78 (hM167.perm (pk 1 rfl)) hM167.fz; rw [hr196] at h9; refine h9.mono ?_; clear h9; rintro _ wd191 ⟨ao199, cap200, Z202, rfl, hle203, hs201, hm⟩; refine ⟨_, rfl, ?_⟩; intro a192 hF193; have hM194 := hm; clear hm hM167 hF188
 replace hs57 := hs57.mono hle203
 replace hs78 := hs78.mono hle203
 replace hle0 := Fz.le.trans hle0 hle203
 have hM204 : Mem w.heap.size [] w Z [.row b35 [str r195.2.Reader.Row, .int .i64 r195.2.Reader.At, .int .i64 r195.2.Reader.Code, .int .u8 r195.2.Reader.c.last, .int .i64 r195.2.Reader.c.n, .int .i64 r195.2.f.ID, .bool r195.2.f.Long, .bool r195.2.f.Fast, .bool r195.2.f.Remote, .int .i64 r195.2.f.Size, .slice ao199 r195.2.f.Data.length cap200] 61, .own (tyInt .i64) 3 (some ⟨g162, 0, none⟩) cap153 fsizes, .row b2 [.int .i64 0, .bool false, .bool false, .bool false, .int .i64 0, .slice none 0 0] 24] Z202 wd191 := hM194; clear hM194
 have hp205 := hp197 (hs201.small); clear hp197
 refine s1 hF193 8 (str r195.1) ?_; intro a206 hF207; clear hF193
 refine nlH (hQ178 _ _ ?_); clear hQ178 hQ178Q
 have hF208 : Fr 158 [] [⟨2, [], .pointer (some ⟨b2, 0, none⟩)⟩, ⟨6, [], .pointer (some ⟨b35, 0, none⟩)⟩, ⟨8, [], str r195.1⟩] a206 := hF207.reg; clear hF207
 refine rgH ?_; intro hQ209Q hQ209
 refine s1 hF208 38 (.pointer (some ⟨b35, 0, none⟩)) ?_; intro a210 hF211; clear hF208
 refine s1 hF211 39 (str r195.1) ?_; intro a212 hF213; clear hF211
 refine cl hF213 37 #[str r195.1] (nog rfl _) rfl (by kernel_rfl) (by kernel_rfl) ?_
 refine (bbytes_fun r195.1 _ _ hM204.fz).mono ?_; rintro _ wd214 ⟨ao218, cap219, Z220, rfl, hm⟩; refine ⟨_, rfl, ?_⟩; intro a215 hF216; have hM217 := hM204.callZ hm; have hle221 := hm.ext.le; clear hm hM204 hF213
 replace hs57 := hs57.mono hle221
 replace hs78 := hs78.mono hle221
 replace hs201 := hs201.mono hle221
 replace hle0 := Fz.le.trans hle0 hle221
 have hM222 : Mem w.heap.size [] w Z [.own (tyInt .u8) 5 ao218 cap219 ((bbytesS r195.1).1), .row b35 [str r195.2.Reader.Row, .int .i64 r195.2.Reader.At, .int .i64 r195.2.Reader.Code, .int .u8 r195.2.Reader.c.last, .int .i64 r195.2.Reader.c.n, .int .i64 r195.2.f.ID, .bool r195.2.f.Long, .bool r195.2.f.Fast, .bool r195.2.f.Remote, .int .i64 r195.2.f.Size, .slice ao199 r195.2.f.Data.length cap200] 61, .own (tyInt .i64) 3 (some ⟨g162, 0, none⟩) cap153 fsizes, .row b2 [.int .i64 0, .bool false, .bool false, .bool false, .int .i64 0, .slice none 0 0] 24] Z220 wd214 := hM217; clear hM217
 have hp223 := hp205 (hM222.ownSmall 0 rfl); clear hp205
 refine s1 hF216 37 (.tuple #[.slice ao218 ((bbytesS r195.1).1).length cap219, .int .i64 ((bbytesS r195.1).2)]) ?_; intro a224 hF225; clear hF216
 refine s1 hF225 41 (.slice ao218 ((bbytesS r195.1).1).length cap219) ?_; intro a226 hF227; clear hF225
 refine s1 hF227 42 (.int .i64 ((bbytesS r195.1).2)) ?_; intro a228 hF229; clear hF227
 refine s1 hF229 43 (.pointer (some ⟨b35, 0, none⟩)) ?_; intro a230 hF231; clear hF229
 refine s1 hF231 44 (.pointer (some ⟨b35, 5, none⟩)) ?_; intro a232 hF233; clear hF231
 refine s1 hF233 45 (.pointer (some ⟨b35, 10, none⟩)) ?_; intro a234 hF235; clear hF233
 refine sr hF235 hM222 1 [str r195.2.Reader.Row, .int .i64 r195.2.Reader.At, .int .i64 r195.2.Reader.Code, .int .u8 r195.2.Reader.c.last, .int .i64 r195.2.Reader.c.n, .int .i64 r195.2.f.ID, .bool r195.2.f.Long, .bool r195.2.f.Fast, .bool r195.2.f.Remote, .int .i64 r195.2.f.Size, .slice ao218 ((bbytesS r195.1).1).length cap219] (b := b35) (off := 10) (cs := [str r195.2.Reader.Row, .int .i64 r195.2.Reader.At, .int .i64 r195.2.Reader.Code, .int .u8 r195.2.Reader.c.last, .int .i64 r195.2.Reader.c.n, .int .i64 r195.2.f.ID, .bool r195.2.f.Long, .bool r195.2.f.Fast, .bool r195.2.f.Remote, .int .i64 r195.2.f.Size, .slice ao199 r195.2.f.Data.length cap200]) (ty := 61) (u := .slice ao218 ((bbytesS r195.1).1).length cap219) (nog rfl _) rfl rfl (by kernel_rfl) (by kernel_rfl) (by kernel_rfl) (by kernel_rfl) (by kernel_rfl) (by kernel_rfl) (by kernel_rfl) ?_; intro wd236 hM237; clear hM222
 have hM238 : Mem w.heap.size [] w Z [.own (tyInt .u8) 5 ao218 cap219 ((bbytesS r195.1).1), .row b35 [str r195.2.Reader.Row, .int .i64 r195.2.Reader.At, .int .i64 r195.2.Reader.Code, .int .u8 r195.2.Reader.c.last, .int .i64 r195.2.Reader.c.n, .int .i64 r195.2.f.ID, .bool r195.2.f.Long, .bool r195.2.f.Fast, .bool r195.2.f.Remote, .int .i64 r195.2.f.Size, .slice ao218 ((bbytesS r195.1).1).length cap219] 61, .own (tyInt .i64) 3 (some ⟨g162, 0, none⟩) cap153 fsizes, .row b2 [.int .i64 0, .bool false, .bool false, .bool false, .int .i64 0, .slice none 0 0] 24] Z220 wd236 := hM237; clear hM237
 refine nlH (hQ209 _ _ ?_); clear hQ209 hQ209Q
 refine ibn ?_
 refine thn ?_
 refine wp_seq ?_
 refine sqH ?_; intro hQ239Q hQ239
 refine s1 hF235 77 (.pointer (some ⟨b35, 0, none⟩)) ?_; intro a240 hF241; clear hF235
 refine s1 hF241 78 (.pointer (some ⟨b35, 0, none⟩)) ?_; intro a242 hF243; clear hF241
 refine s1 hF243 79 (.pointer (some ⟨b35, 5, none⟩)) ?_; intro a244 hF245; clear hF243
 refine s1 hF245 80 (.pointer (some ⟨b35, 7, none⟩)) ?_; intro a246 hF247; clear hF245
 refine l1 hF247 hM238 81 1 7 (.bool r195.2.f.Fast) rfl rfl ?_; intro a248 hF249; clear hF247
 refine nlH (hQ239 _ _ ?_); clear hQ239 hQ239Q
 have hc250 := hp223.1; have hp251 := hp223.2; clear hp223
 refine cd hF249 (t := r195.2.f.Fast) (by kernel_rfl) (fun h => Bool.noConfusion (hc250.symm.trans h)) (fun _ => ?_)
 have hF253 : Fr 158 [] [⟨2, [], .pointer (some ⟨b2, 0, none⟩)⟩, ⟨6, [], .pointer (some ⟨b35, 0, none⟩)⟩] a248 := hF249.reg; clear hF249
 refine sqH ?_; intro hQ254Q hQ254
 refine s1 hF253 84 (.pointer (some ⟨b35, 0, none⟩)) ?_; intro a255 hF256; clear hF253
 refine s1 hF256 85 (.pointer (some ⟨b35, 0, none⟩)) ?_; intro a257 hF258; clear hF256
 refine s1 hF258 86 (.pointer (some ⟨b35, 0, none⟩)) ?_; intro a259 hF260; clear hF258
 refine s1 hF260 87 (.pointer (some ⟨b35, 2, none⟩)) ?_; intro a261 hF262; clear hF260
 refine l1 hF262 hM238 88 1 2 (.int .i64 r195.2.Reader.Code) rfl rfl ?_; intro a263 hF264; clear hF262
 refine s1 hF264 89 (.bool (r195.2.Reader.Code == 0)) ?_; intro a265 hF266; clear hF264
 refine nlH (hQ254 _ _ ?_); clear hQ254 hQ254Q
 have hc267 := hp251.1; have hp268 := hp251.2; clear hp251
 refine cd hF266 (t := r195.2.Reader.Code == 0) (by kernel_rfl) (fun _ => ?_) (fun h => Bool.noConfusion (hc267.symm.trans h))
 refine sqH ?_; intro hQ270Q hQ270
 refine s1 hF266 91 (.pointer (some ⟨b35, 0, none⟩)) ?_; intro a271 hF272; clear hF266
 refine s1 hF272 92 (.pointer (some ⟨b35, 0, none⟩)) ?_; intro a273 hF274; clear hF272
 refine s1 hF274 93 (.pointer (some ⟨b35, 5, none⟩)) ?_; intro a275 hF276; clear hF274
 refine l2 hF276 hM238 94 1 5 6 [.int .i64 r195.2.f.ID, .bool r195.2.f.Long, .bool r195.2.f.Fast, .bool r195.2.f.Remote, .int .i64 r195.2.f.Size, .slice ao218 ((bbytesS r195.1).1).length cap219] rfl rfl ?_; intro a277 hF278; clear hF276
 obtain ⟨Z279, hle280, hM281, hs282⟩ := hM238.freeze 0 rfl
 replace hs57 := hs57.mono hle280
 replace hs78 := hs78.mono hle280
 replace hs201 := hs201.mono hle280
 replace hle0 := Fz.le.trans hle0 hle280
 have hM283 : Mem w.heap.size [] w Z [.row b35 [str r195.2.Reader.Row, .int .i64 r195.2.Reader.At, .int .i64 r195.2.Reader.Code, .int .u8 r195.2.Reader.c.last, .int .i64 r195.2.Reader.c.n, .int .i64 r195.2.f.ID, .bool r195.2.f.Long, .bool r195.2.f.Fast, .bool r195.2.f.Remote, .int .i64 r195.2.f.Size, .slice ao218 ((bbytesS r195.1).1).length cap219] 61, .own (tyInt .i64) 3 (some ⟨g162, 0, none⟩) cap153 fsizes, .row b2 [.int .i64 0, .bool false, .bool false, .bool false, .int .i64 0, .slice none 0 0] 24] Z279 wd236 := hM281; clear hM281
 have hc284 := hp268.1; have hp285 := hp268.2; clear hp268
 refine fcl hF278 hM283 (str (fheadS (⟨r195.2.f.ID, r195.2.f.Long, r195.2.f.Fast, r195.2.f.Remote, r195.2.f.Size, (bbytesS r195.1).1⟩ : Frame))) 40 #[.agg #[.int .i64 r195.2.f.ID, .bool r195.2.f.Long, .bool r195.2.f.Fast, .bool r195.2.f.Remote, .int .i64 r195.2.f.Size, .slice ao218 ((bbytesS r195.1).1).length cap219]] (nog rfl _) rfl (by kernel_rfl) (fun _ => by kernel_rfl) (fhead_fun (⟨r195.2.f.ID, r195.2.f.Long, r195.2.f.Fast, r195.2.f.Remote, r195.2.f.Size, (bbytesS r195.1).1⟩ : Frame) hc284 ao218 cap219 _ _ hs282 hM283.fz) ?_; intro a286 wd288 hF287 hM289; clear hF278 hM283
 refine fcl hF287 hM289 (.tuple #[str ((csumS 0 (fheadS (⟨r195.2.f.ID, r195.2.f.Long, r195.2.f.Fast, r195.2.f.Remote, r195.2.f.Size, (bbytesS r195.1).1⟩ : Frame))).1), .int .i64 ((csumS 0 (fheadS (⟨r195.2.f.ID, r195.2.f.Long, r195.2.f.Fast, r195.2.f.Remote, r195.2.f.Size, (bbytesS r195.1).1⟩ : Frame))).2)]) 39 #[.int .i64 0, str (fheadS (⟨r195.2.f.ID, r195.2.f.Long, r195.2.f.Fast, r195.2.f.Remote, r195.2.f.Size, (bbytesS r195.1).1⟩ : Frame))] (nog rfl _) rfl (by kernel_rfl) (fun _ => by kernel_rfl) (csum_fun 0 (fheadS (⟨r195.2.f.ID, r195.2.f.Long, r195.2.f.Fast, r195.2.f.Remote, r195.2.f.Size, (bbytesS r195.1).1⟩ : Frame)) _ _ hM289.fz) ?_; intro a290 wd292 hF291 hM293; clear hF287 hM289
 refine s1 hF291 90 (.tuple #[str ((csumS 0 (fheadS (⟨r195.2.f.ID, r195.2.f.Long, r195.2.f.Fast, r195.2.f.Remote, r195.2.f.Size, (bbytesS r195.1).1⟩ : Frame))).1), .int .i64 ((csumS 0 (fheadS (⟨r195.2.f.ID, r195.2.f.Long, r195.2.f.Fast, r195.2.f.Remote, r195.2.f.Size, (bbytesS r195.1).1⟩ : Frame))).2)]) ?_; intro a294 hF295; clear hF291
 refine s1 hF295 97 (str ((csumS 0 (fheadS (⟨r195.2.f.ID, r195.2.f.Long, r195.2.f.Fast, r195.2.f.Remote, r195.2.f.Size, (bbytesS r195.1).1⟩ : Frame))).1)) ?_; intro a296 hF297; clear hF295
 refine s1 hF297 98 (.int .i64 ((csumS 0 (fheadS (⟨r195.2.f.ID, r195.2.f.Long, r195.2.f.Fast, r195.2.f.Remote, r195.2.f.Size, (bbytesS r195.1).1⟩ : Frame))).2)) ?_; intro a298 hF299; clear hF297
 refine s1 hF299 9 (str ((csumS 0 (fheadS (⟨r195.2.f.ID, r195.2.f.Long, r195.2.f.Fast, r195.2.f.Remote, r195.2.f.Size, (bbytesS r195.1).1⟩ : Frame))).1)) ?_; intro a300 hF301; clear hF299
 refine s1 hF301 10 (.int .i64 ((csumS 0 (fheadS (⟨r195.2.f.ID, r195.2.f.Long, r195.2.f.Fast, r195.2.f.Remote, r195.2.f.Size, (bbytesS r195.1).1⟩ : Frame))).2)) ?_; intro a302 hF303; clear hF301
 refine nlH (hQ270 _ _ ?_); clear hQ270 hQ270Q
 have hF304 : Fr 158 [] [⟨2, [], .pointer (some ⟨b2, 0, none⟩)⟩, ⟨6, [], .pointer (some ⟨b35, 0, none⟩)⟩, ⟨9, [], str ((csumS 0 (fheadS (⟨r195.2.f.ID, r195.2.f.Long, r195.2.f.Fast, r195.2.f.Remote, r195.2.f.Size, (bbytesS r195.1).1⟩ : Frame))).1)⟩] a302 := hF303.reg; clear hF303
 refine sqH ?_; intro hQ305Q hQ305
 refine s1 hF304 99 (.pointer (some ⟨b35, 0, none⟩)) ?_; intro a306 hF307; clear hF304
 refine s1 hF307 100 (.pointer (some ⟨b35, 0, none⟩)) ?_; intro a308 hF309; clear hF307
 refine s1 hF309 101 (.pointer (some ⟨b35, 0, none⟩)) ?_; intro a310 hF311; clear hF309
 have hc312 := hp285.1; have hp313 := hp285.2; clear hp285
 refine cl hF311 36 #[.pointer (some ⟨b35, 0, none⟩), .int .i64 15] (nog rfl _) rfl (by kernel_rfl) (by kernel_rfl) ?_
 obtain ⟨r318, hr319⟩ : ∃ x, (rtakeFS (⟨r195.2.Reader, (⟨r195.2.f.ID, r195.2.f.Long, r195.2.f.Fast, r195.2.f.Remote, r195.2.f.Size, (bbytesS r195.1).1⟩ : Frame)⟩ : FReader) 15) = x := ⟨_, rfl⟩; have hp320 := hp313 r318 hr319; clear hp313
 have h9 := rtakeF_fun (⟨r195.2.Reader, (⟨r195.2.f.ID, r195.2.f.Long, r195.2.f.Fast, r195.2.f.Remote, r195.2.f.Size, (bbytesS r195.1).1⟩ : Frame)⟩ : FReader) 15 hc312 b35 ao218 cap219 _ _ _ _ _ _ hs282 hM293 hM293.fz; rw [hr319] at h9; refine h9.mono ?_; clear h9; rintro _ wd314 ⟨ao322, cap323, Z325, rfl, hle326, hs324, hm⟩; refine ⟨_, rfl, ?_⟩; intro a315 hF316; have hM317 := hm; clear hm hM293 hF311
 replace hs57 := hs57.mono hle326
 replace hs78 := hs78.mono hle326
 replace hs201 := hs201.mono hle326
 replace hs282 := hs282.mono hle326
 replace hle0 := Fz.le.trans hle0 hle326
 have hM327 : Mem w.heap.size [] w Z [.row b35 [str r318.2.Reader.Row, .int .i64 r318.2.Reader.At, .int .i64 r318.2.Reader.Code, .int .u8 r318.2.Reader.c.last, .int .i64 r318.2.Reader.c.n, .int .i64 r318.2.f.ID, .bool r318.2.f.Long, .bool r318.2.f.Fast, .bool r318.2.f.Remote, .int .i64 r318.2.f.Size, .slice ao322 r318.2.f.Data.length cap323] 61, .own (tyInt .i64) 3 (some ⟨g162, 0, none⟩) cap153 fsizes, .row b2 [.int .i64 0, .bool false, .bool false, .bool false, .int .i64 0, .slice none 0 0] 24] Z325 wd314 := hM317; clear hM317
 have hp328 := hp320 (hs324.small); clear hp320
 refine s1 hF316 11 (str r318.1) ?_; intro a329 hF330; clear hF316
 refine nlH (hQ305 _ _ ?_); clear hQ305 hQ305Q
 refine sqH ?_; intro hQ331Q hQ331
 refine s1 hF330 103 (.pointer (some ⟨b35, 0, none⟩)) ?_; intro a332 hF333; clear hF330
 refine s1 hF333 104 (.pointer (some ⟨b35, 0, none⟩)) ?_; intro a334 hF335; clear hF333
 refine s1 hF335 105 (.pointer (some ⟨b35, 0, none⟩)) ?_; intro a336 hF337; clear hF335
 refine s1 hF337 106 (.pointer (some ⟨b35, 2, none⟩)) ?_; intro a338 hF339; clear hF337
 refine l1 hF339 hM327 107 0 2 (.int .i64 r318.2.Reader.Code) rfl rfl ?_; intro a340 hF341; clear hF339
 refine s1 hF341 108 (.bool (r318.2.Reader.Code == 0)) ?_; intro a342 hF343; clear hF341
 refine s1 hF343 109 (.bool (r318.2.Reader.Code == 0)) ?_; intro a344 hF345; clear hF343
 have hF346 := hF345.atom ((r318.2.Reader.Code == 0) == true) (by kernel_rfl); clear hF345
 refine gp hF346 110 0 [] (r318.2.Reader.Code == 0) (str r318.1) rfl rfl ?_; intro a347 hF348; clear hF346
 refine gp hF348 111 0 [] (r318.2.Reader.Code == 0) (str ((csumS 0 (fheadS (⟨r195.2.f.ID, r195.2.f.Long, r195.2.f.Fast, r195.2.f.Remote, r195.2.f.Size, (bbytesS r195.1).1⟩ : Frame))).1)) rfl rfl ?_; intro a349 hF350; clear hF348
 refine gd hF350 (.bool (r318.1 != ((csumS 0 (fheadS (⟨r195.2.f.ID, r195.2.f.Long, r195.2.f.Fast, r195.2.f.Remote, r195.2.f.Size, (bbytesS r195.1).1⟩ : Frame))).1))) (m := 0) (cj := []) (bj := r318.2.Reader.Code == 0) rfl rfl (by kernel_rfl) rfl (by kernel_rfl) (by kernel_rfl) (by kernel_rfl) (fun hg => strcmp_run hF350 (g := [0]) (op := .neq) rfl (by kernel_rfl) (by kernel_rfl) (by decide) hg) ?_; intro a351 hF352; clear hF350
 refine st hF352 (.bool ((r318.2.Reader.Code == 0) && (r318.1 != ((csumS 0 (fheadS (⟨r195.2.f.ID, r195.2.f.Long, r195.2.f.Fast, r195.2.f.Remote, r195.2.f.Size, (bbytesS r195.1).1⟩ : Frame))).1)))) (nog rfl _) rfl (by kernel_rfl) (pk_and hF352 (g := []) (m := 0) (b := r318.2.Reader.Code == 0) (v := r318.1 != ((csumS 0 (fheadS (⟨r195.2.f.ID, r195.2.f.Long, r195.2.f.Fast, r195.2.f.Remote, r195.2.f.Size, (bbytesS r195.1).1⟩ : Frame))).1)) rfl (by kernel_rfl) (by kernel_rfl) (by kernel_rfl) rfl) ?_; intro a353 hF354; clear hF352
 refine nlH (hQ331 _ _ ?_); clear hQ331 hQ331Q
 have hc355 := hp328.1; have hp356 := hp328.2; clear hp328
 refine cd hF354 (t := (r318.2.Reader.Code == 0) && (r318.1 != ((csumS 0 (fheadS (⟨r195.2.f.ID, r195.2.f.Long, r195.2.f.Fast, r195.2.f.Remote, r195.2.f.Size, (bbytesS r195.1).1⟩ : Frame))).1))) (by kernel_rfl) (fun h => Bool.noConfusion (hc355.symm.trans h)) (fun _ => ?_)
 refine wp_skip ?_
 refine thn ?_
 have hF358 : Fr 158 [] [⟨2, [], .pointer (some ⟨b2, 0, none⟩)⟩, ⟨6, [], .pointer (some ⟨b35, 0, none⟩)⟩] a353 := hF354.reg; clear hF354
 refine sqH ?_; intro hQ359Q hQ359
 refine s1 hF358 116 (.pointer (some ⟨b35, 0, none⟩)) ?_; intro a360 hF361; clear hF358
 refine s1 hF361 117 (.pointer (some ⟨b35, 0, none⟩)) ?_; intro a362 hF363; clear hF361
 refine s1 hF363 118 (.pointer (some ⟨b35, 0, none⟩)) ?_; intro a364 hF365; clear hF363
 have hc366 := hp356.1; have hp367 := hp356.2; clear hp356
 refine cl hF365 41 #[.pointer (some ⟨b35, 0, none⟩), .int .i64 10] (nog rfl _) rfl (by kernel_rfl) (by kernel_rfl) ?_
 obtain ⟨r372, hr373⟩ : ∃ x, (rplainFS r318.2 10) = x := ⟨_, rfl⟩; have hp374 := hp367 r372 hr373; clear hp367
 have h9 := rplainF_fun r318.2 10 hc366 b35 ao322 cap323 _ _ _ _ _ _ hs324 hM327 hM327.fz; rw [hr373] at h9; refine h9.mono ?_; clear h9; rintro _ wd368 ⟨ao376, cap377, Z379, rfl, hle380, hs378, hm⟩; refine ⟨_, rfl, ?_⟩; intro a369 hF370; have hM371 := hm; clear hm hM327 hF365
 replace hs57 := hs57.mono hle380
 replace hs78 := hs78.mono hle380
 replace hs201 := hs201.mono hle380
 replace hs282 := hs282.mono hle380
 replace hs324 := hs324.mono hle380
 replace hle0 := Fz.le.trans hle0 hle380
 have hM381 : Mem w.heap.size [] w Z [.row b35 [str r372.2.Reader.Row, .int .i64 r372.2.Reader.At, .int .i64 r372.2.Reader.Code, .int .u8 r372.2.Reader.c.last, .int .i64 r372.2.Reader.c.n, .int .i64 r372.2.f.ID, .bool r372.2.f.Long, .bool r372.2.f.Fast, .bool r372.2.f.Remote, .int .i64 r372.2.f.Size, .slice ao376 r372.2.f.Data.length cap377] 61, .own (tyInt .i64) 3 (some ⟨g162, 0, none⟩) cap153 fsizes, .row b2 [.int .i64 0, .bool false, .bool false, .bool false, .int .i64 0, .slice none 0 0] 24] Z379 wd368 := hM371; clear hM371
 have hp382 := hp374 (hs378.small); clear hp374
 refine s1 hF370 12 (str r372.1) ?_; intro a383 hF384; clear hF370
 refine nlH (hQ359 _ _ ?_); clear hQ359 hQ359Q
 refine wp_seq ?_
 have hF385 : Fr 158 [] [⟨2, [], .pointer (some ⟨b2, 0, none⟩)⟩, ⟨6, [], .pointer (some ⟨b35, 0, none⟩)⟩, ⟨12, [], str r372.1⟩] a383 := hF384.reg; clear hF384
 rcases Bool.eq_false_or_eq_true (r372.2.Reader.Code == 0) with hb386 | hb386
 ·
  have hp387 := hp382.1 hb386; clear hp382
  have hF388 : Fr 158 [] [⟨2, [], .pointer (some ⟨b2, 0, none⟩)⟩, ⟨6, [], .pointer (some ⟨b35, 0, none⟩)⟩, ⟨12, [], str r372.1⟩] a383 := hF385.reg; clear hF385
  refine sqQH mixed (by kernel_rfl) hM381 ?_; intro hQ389Q hQ389
  refine q1 hF388 120 (.pointer (some ⟨b35, 0, none⟩)) ?_; intro a391 hF392; clear hF388
  refine q1 hF392 121 (.pointer (some ⟨b35, 0, none⟩)) ?_; intro a394 hF395; clear hF392
  refine q1 hF395 122 (.pointer (some ⟨b35, 0, none⟩)) ?_; intro a397 hF398; clear hF395
  refine q1 hF398 123 (.pointer (some ⟨b35, 2, none⟩)) ?_; intro a400 hF401; clear hF398
  refine qst hF401 (.int .i64 r372.2.Reader.Code) (nog rfl _) rfl (by kernel_rfl) (fun v402 hC => ld hF401 hC 0 (g := []) (b := b35) (off := 2) (cs := [str r372.2.Reader.Row, .int .i64 r372.2.Reader.At, .int .i64 r372.2.Reader.Code, .int .u8 r372.2.Reader.c.last, .int .i64 r372.2.Reader.c.n, .int .i64 r372.2.f.ID, .bool r372.2.f.Long, .bool r372.2.f.Fast, .bool r372.2.f.Remote, .int .i64 r372.2.f.Size, .slice ao376 r372.2.f.Data.length cap377]) (ty := 61) rfl (by kernel_rfl) (by kernel_rfl) (by kernel_rfl) (by kernel_rfl) rfl) ?_; intro a403 hF404; clear hF401
  refine q1 hF404 125 (.bool (r372.2.Reader.Code == 0)) ?_; intro a406 hF407; clear hF404
  have hF408 := hF407.reval (d := 125) (c := []) (v := .bool (r372.2.Reader.Code == 0)) (by kernel_rfl) (.bool true) (by rw [hb386]); clear hF407
  refine q1 hF408 126 (.bool true) ?_; intro a410 hF411; clear hF408
  refine qst hF411 (str r372.1) (by rw [wanted_of hF411 (b := true) rfl rfl (by kernel_rfl) (by kernel_rfl)]; rfl) rfl (by kernel_rfl) (fun v412 hC => p0 hF411 (by kernel_rfl)) ?_; intro a413 hF414; clear hF411
  have hc416 := hp387.1; have hp417 := hp387.2; clear hp387
  refine qst hF414 (str (r372.1.take (1 : Int).toNat)) (by rw [wanted_of hF414 (b := true) rfl rfl (by kernel_rfl) (by kernel_rfl)]; rfl) rfl (by kernel_rfl) (fun v415 hC => strslH_run hF414 (g := []) (k := .i64) rfl (by kernel_rfl) (by kernel_rfl) (by kernel_rfl) hc416 rfl) ?_; intro a418 hF419; clear hF414
  have hc421 := hp417.1; have hp422 := hp417.2; clear hp417
  refine qst hF419 (str ((r372.1.take (1 : Int).toNat) ++ ([49] : List UInt8))) (by rw [wanted_of hF419 (b := true) rfl rfl (by kernel_rfl) (by kernel_rfl)]; rfl) rfl (by kernel_rfl) (fun v420 hC => stradd_run hF419 (g := []) rfl (by kernel_rfl) (by kernel_rfl) hc421 rfl) ?_; intro a423 hF424; clear hF419
  refine qst hF424 (str r372.1) (by rw [wanted_of hF424 (b := true) rfl rfl (by kernel_rfl) (by kernel_rfl)]; rfl) rfl (by kernel_rfl) (fun v425 hC => p0 hF424 (by kernel_rfl)) ?_; intro a426 hF427; clear hF424
  have hc429 := hp422.1; have hp430 := hp422.2; clear hp422
  refine qst hF427 (str (r372.1.drop (2 : Int).toNat)) (by rw [wanted_of hF427 (b := true) rfl rfl (by kernel_rfl) (by kernel_rfl)]; rfl) rfl (by kernel_rfl) (fun v428 hC => strslL_run hF427 (g := []) (k := .i64) rfl (by kernel_rfl) (by kernel_rfl) (by kernel_rfl) hc429 rfl) ?_; intro a431 hF432; clear hF427
  have hc434 := hp430.1; have hp435 := hp430.2; clear hp430
  refine qst hF432 (str (((r372.1.take (1 : Int).toNat) ++ ([49] : List UInt8)) ++ (r372.1.drop (2 : Int).toNat))) (by rw [wanted_of hF432 (b := true) rfl rfl (by kernel_rfl) (by kernel_rfl)]; rfl) rfl (by kernel_rfl) (fun v433 hC => stradd_run hF432 (g := []) rfl (by kernel_rfl) (by kernel_rfl) hc434 rfl) ?_; intro a436 hF437; clear hF432
  refine qst hF437 (.bool ((((r372.1.take (1 : Int).toNat) ++ ([49] : List UInt8)) ++ (r372.1.drop (2 : Int).toNat)) != ([49, 49, 49, 49, 49, 49, 49, 49, 49, 49] : List UInt8))) (by rw [wanted_of hF437 (b := true) rfl rfl (by kernel_rfl) (by kernel_rfl)]; rfl) rfl (by kernel_rfl) (fun v438 hC => strcmp_run hF437 (g := []) (op := .neq) rfl (by kernel_rfl) (by kernel_rfl) (by decide) rfl) ?_; intro a439 hF440; clear hF437
  refine q1 hF440 134 (.bool ((((r372.1.take (1 : Int).toNat) ++ ([49] : List UInt8)) ++ (r372.1.drop (2 : Int).toNat)) != ([49, 49, 49, 49, 49, 49, 49, 49, 49, 49] : List UInt8))) ?_; intro a442 hF443; clear hF440
  refine qnl (hQ389 _ ?_); clear hQ389 hQ389Q; intro wd444 hM445; clear hM381
  have hc446 := hp435.1; have hp447 := hp435.2; clear hp435
  refine cd hF443 (t := (((r372.1.take (1 : Int).toNat) ++ ([49] : List UInt8)) ++ (r372.1.drop (2 : Int).toNat)) != ([49, 49, 49, 49, 49, 49, 49, 49, 49, 49] : List UInt8)) (by kernel_rfl) (fun h => Bool.noConfusion (hc446.symm.trans h)) (fun _ => ?_)
  refine wp_skip ?_
  refine thn ?_
  refine wp_seq ?_
  have hF449 : Fr 158 [] [⟨2, [], .pointer (some ⟨b2, 0, none⟩)⟩, ⟨6, [], .pointer (some ⟨b35, 0, none⟩)⟩] a442 := hF443.reg; clear hF443
  refine sqH ?_; intro hQ450Q hQ450
  refine s1 hF449 137 (.pointer (some ⟨b35, 0, none⟩)) ?_; intro a451 hF452; clear hF449
  refine s1 hF452 138 (.pointer (some ⟨b35, 0, none⟩)) ?_; intro a453 hF454; clear hF452
  refine s1 hF454 139 (.pointer (some ⟨b35, 0, none⟩)) ?_; intro a455 hF456; clear hF454
  refine s1 hF456 140 (.pointer (some ⟨b35, 2, none⟩)) ?_; intro a457 hF458; clear hF456
  refine l1 hF458 hM445 141 0 2 (.int .i64 r372.2.Reader.Code) rfl rfl ?_; intro a459 hF460; clear hF458
  refine s1 hF460 142 (.bool (r372.2.Reader.Code != 0)) ?_; intro a461 hF462; clear hF460
  refine nlH (hQ450 _ _ ?_); clear hQ450 hQ450Q
  have hc463 := hp447.1; have hp464 := hp447.2; clear hp447
  refine cd hF462 (t := r372.2.Reader.Code != 0) (by kernel_rfl) (fun h => Bool.noConfusion (hc463.symm.trans h)) (fun _ => ?_)
  refine wp_skip ?_
  refine thn ?_
  have hF466 : Fr 158 [] [⟨2, [], .pointer (some ⟨b2, 0, none⟩)⟩, ⟨6, [], .pointer (some ⟨b35, 0, none⟩)⟩] a461 := hF462.reg; clear hF462
  refine wp_seq (any_invE mixed [[], [0], [1], [2], [], [4], [5], [6], [7], [0, 1, 2, 3], [0, 1, 2, 3, 4, 5, 6, 7, 8, 9], [0, 1, 2, 3, 4, 5, 6, 7, 8, 9, 10]] 12 (fun S a w1 => ∃ (ud3 : Value) (ud4 : Value) (ud149 : Value) (ud150 : Value) (ud151 : Value) (ud152 : Value) (ud153 : Value) (ud154 : Value) (ud155 : Value) (ud156 : Value) (ud157 : Value) (rh0 : Res) (rh1 : Res) (rh2 : Res), Fz.le Z379 Z379 ∧ Fr 158 [] [⟨2, [], .pointer (some ⟨b2, 0, none⟩)⟩, ⟨3, [], ud3⟩, ⟨4, [], ud4⟩, ⟨6, [], .pointer (some ⟨b35, 0, none⟩)⟩, ⟨149, [], ud149⟩, ⟨150, [], ud150⟩, ⟨151, [], ud151⟩, ⟨152, [], ud152⟩, ⟨153, [], ud153⟩, ⟨154, [], ud154⟩, ⟨155, [], ud155⟩, ⟨156, [], ud156⟩, ⟨157, [], ud157⟩] a ∧ Mem w.heap.size [] w Z [rh0, rh1, rh2] Z379 w1 ∧ (S 10 = true → ud3 = .int .i64 r372.2.Reader.At) ∧ (S 11 = true → ud4 = .int .i64 0) ∧ (S 0 = true → ud149 = .pointer (some ⟨b35, 0, none⟩)) ∧ (S 1 = true → ud150 = .pointer (some ⟨b35, 0, none⟩)) ∧ (S 2 = true → ud151 = .pointer (some ⟨b35, 5, none⟩)) ∧ (S 3 = true → ud152 = .agg #[.int .i64 r372.2.f.ID, .bool r372.2.f.Long, .bool r372.2.f.Fast, .bool r372.2.f.Remote, .int .i64 r372.2.f.Size, .slice ao376 r372.2.f.Data.length cap377]) ∧ (S 4 = true → ud153 = .pointer (some ⟨b35, 0, none⟩)) ∧ (S 5 = true → ud154 = .pointer (some ⟨b35, 0, none⟩)) ∧ (S 6 = true → ud155 = .pointer (some ⟨b35, 0, none⟩)) ∧ (S 7 = true → ud156 = .pointer (some ⟨b35, 1, none⟩)) ∧ (S 8 = true → ud157 = .int .i64 r372.2.Reader.At) ∧ (rh0 = .row b35 [str r372.2.Reader.Row, .int .i64 r372.2.Reader.At, .int .i64 r372.2.Reader.Code, .int .u8 r372.2.Reader.c.last, .int .i64 r372.2.Reader.c.n, .int .i64 r372.2.f.ID, .bool r372.2.f.Long, .bool r372.2.f.Fast, .bool r372.2.f.Remote, .int .i64 r372.2.f.Size, .slice ao376 r372.2.f.Data.length cap377] 61) ∧ (rh1 = .own (tyInt .i64) 3 (some ⟨g162, 0, none⟩) cap153 fsizes) ∧ (S 9 = false → rh2 = .row b2 [.int .i64 0, .bool false, .bool false, .bool false, .int .i64 0, .slice none 0 0] 24) ∧ (S 9 = true → rh2 = .row b2 [.int .i64 r372.2.f.ID, .bool r372.2.f.Long, .bool r372.2.f.Fast, .bool r372.2.f.Remote, .int .i64 r372.2.f.Size, .slice ao376 r372.2.f.Data.length cap377] 24)) ?h0 ?hs ?hE)
  case h0 =>
   have hF492 := hF466.any 3
   have hF493 := hF492.any 4
   have hF494 := hF493.any 149
   have hF495 := hF494.any 150
   have hF496 := hF495.any 151
   have hF497 := hF496.any 152
   have hF498 := hF497.any 153
   have hF499 := hF498.any 154
   have hF500 := hF499.any 155
   have hF501 := hF500.any 156
   have hF502 := hF501.any 157
   have hM503 := (hM445.perm lpr).drew
   exact ⟨a461.tmps.getD 3 undef, a461.tmps.getD 4 undef, a461.tmps.getD 149 undef, a461.tmps.getD 150 undef, a461.tmps.getD 151 undef, a461.tmps.getD 152 undef, a461.tmps.getD 153 undef, a461.tmps.getD 154 undef, a461.tmps.getD 155 undef, a461.tmps.getD 156 undef, a461.tmps.getD 157 undef, .row b35 [str r372.2.Reader.Row, .int .i64 r372.2.Reader.At, .int .i64 r372.2.Reader.Code, .int .u8 r372.2.Reader.c.last, .int .i64 r372.2.Reader.c.n, .int .i64 r372.2.f.ID, .bool r372.2.f.Long, .bool r372.2.f.Fast, .bool r372.2.f.Remote, .int .i64 r372.2.f.Size, .slice ao376 r372.2.f.Data.length cap377] 61, .own (tyInt .i64) 3 (some ⟨g162, 0, none⟩) cap153 fsizes, .row b2 [.int .i64 0, .bool false, .bool false, .bool false, .int .i64 0, .slice none 0 0] 24, Fz.le.refl _, hF502.reg, hM503, ff, ff, ff, ff, ff, ff, ff, ff, ff, ff, ff, rfl, rfl, kf, ff⟩
  case hs =>
   intro S hcl i o hil hi hSi hpre a w1 hI; refine Go.Sy.hid ?_; intro G hG; obtain ⟨ud3, ud4, ud149, ud150, ud151, ud152, ud153, ud154, ud155, ud156, ud157, rh0, rh1, rh2, hle491, hFx, hMx, cu3, cu4, cu149, cu150, cu151, cu152, cu153, cu154, cu155, cu156, cu157, cr0_0, cr1_0, cr2_0, hI⟩ := hI; have cr2_1 := hI; clear hI
   have hcase : i = 0 ∨ i = 1 ∨ i = 2 ∨ i = 3 ∨ i = 4 ∨ i = 5 ∨ i = 6 ∨ i = 7 ∨ i = 8 ∨ i = 9 ∨ i = 10 ∨ i = 11 := by clear hi; omega
   rcases hcase with rfl | rfl | rfl | rfl | rfl | rfl | rfl | rfl | rfl | rfl | rfl | rfl
   ·
    obtain rfl := oj hi
    have hx0 := hSi
    have hx1 := ngF hcl 1 0 hx0
    have hx2 := ngF hcl 2 1 hx1
    have hx3 := ngF hcl 3 2 hx2
    have hx9 := ngF hcl 9 0 hx0
    have hx10 := ngF hcl 10 0 hx0
    have hx11 := ngF hcl 11 0 hx0
    obtain rfl := cr0_0
    obtain rfl := cr1_0
    obtain rfl := cr2_0 hx9
    refine hG (any_step ?_); clear hG G; intro A J hJ
    have hle0 := Fz.le.trans hle0 hle491
    have hs504 := hs57.mono hle491
    have hs505 := hs78.mono hle491
    have hs506 := hs201.mono hle491
    have hs507 := hs282.mono hle491
    have hs508 := hs324.mono hle491
    have hs509 := hs378.mono hle491
    refine s1 hFx 149 (.pointer (some ⟨b35, 0, none⟩)) ?_; intro a510 hF511; clear hFx
    refine nl (qnI (hJ _ _ ?_)); clear hJ J
    exact ⟨ud3, ud4, .pointer (some ⟨b35, 0, none⟩), ud150, ud151, ud152, ud153, ud154, ud155, ud156, ud157, .row b35 [str r372.2.Reader.Row, .int .i64 r372.2.Reader.At, .int .i64 r372.2.Reader.Code, .int .u8 r372.2.Reader.c.last, .int .i64 r372.2.Reader.c.n, .int .i64 r372.2.f.ID, .bool r372.2.f.Long, .bool r372.2.f.Fast, .bool r372.2.f.Remote, .int .i64 r372.2.f.Size, .slice ao376 r372.2.f.Data.length cap377] 61, .own (tyInt .i64) 3 (some ⟨g162, 0, none⟩) cap153 fsizes, .row b2 [.int .i64 0, .bool false, .bool false, .bool false, .int .i64 0, .slice none 0 0] 24, hle491, hF511.reg, hMx.perm lpr, (nt hx10), (nt hx11), kf, (nt hx1), (nt hx2), (nt hx3), cu153, cu154, cu155, cu156, cu157, rfl, rfl, kf, (nt hx9)⟩
   ·
    obtain rfl := oj hi
    have hx0 := hpre 0 (by kernel_rfl)
    have hx1 := hSi
    have hx2 := ngF hcl 2 1 hx1
    have hx3 := ngF hcl 3 2 hx2
    have hx9 := ngF hcl 9 1 hx1
    have hx10 := ngF hcl 10 1 hx1
    have hx11 := ngF hcl 11 1 hx1
    obtain rfl := cu149 hx0
    obtain rfl := cr0_0
    obtain rfl := cr1_0
    obtain rfl := cr2_0 hx9
    refine hG (any_step ?_); clear hG G; intro A J hJ
    have hle0 := Fz.le.trans hle0 hle491
    have hs513 := hs57.mono hle491
    have hs514 := hs78.mono hle491
    have hs515 := hs201.mono hle491
    have hs516 := hs282.mono hle491
    have hs517 := hs324.mono hle491
    have hs518 := hs378.mono hle491
    refine s1 hFx 150 (.pointer (some ⟨b35, 0, none⟩)) ?_; intro a519 hF520; clear hFx
    refine nl (qnI (hJ _ _ ?_)); clear hJ J
    exact ⟨ud3, ud4, .pointer (some ⟨b35, 0, none⟩), .pointer (some ⟨b35, 0, none⟩), ud151, ud152, ud153, ud154, ud155, ud156, ud157, .row b35 [str r372.2.Reader.Row, .int .i64 r372.2.Reader.At, .int .i64 r372.2.Reader.Code, .int .u8 r372.2.Reader.c.last, .int .i64 r372.2.Reader.c.n, .int .i64 r372.2.f.ID, .bool r372.2.f.Long, .bool r372.2.f.Fast, .bool r372.2.f.Remote, .int .i64 r372.2.f.Size, .slice ao376 r372.2.f.Data.length cap377] 61, .own (tyInt .i64) 3 (some ⟨g162, 0, none⟩) cap153 fsizes, .row b2 [.int .i64 0, .bool false, .bool false, .bool false, .int .i64 0, .slice none 0 0] 24, hle491, hF520.reg, hMx.perm lpr, (nt hx10), (nt hx11), kf, kf, (nt hx2), (nt hx3), cu153, cu154, cu155, cu156, cu157, rfl, rfl, kf, (nt hx9)⟩
   ·
    obtain rfl := oj hi
    have hx1 := hpre 1 (by kernel_rfl)
    have hx0 := hcl 1 0 (by kernel_rfl) hx1
    have hx2 := hSi
    have hx3 := ngF hcl 3 2 hx2
    have hx9 := ngF hcl 9 2 hx2
    have hx10 := ngF hcl 10 2 hx2
    have hx11 := ngF hcl 11 2 hx2
    obtain rfl := cu149 hx0
    obtain rfl := cu150 hx1
    obtain rfl := cr0_0
    obtain rfl := cr1_0
    obtain rfl := cr2_0 hx9
    refine hG (any_step ?_); clear hG G; intro A J hJ
    have hle0 := Fz.le.trans hle0 hle491
    have hs522 := hs57.mono hle491
    have hs523 := hs78.mono hle491
    have hs524 := hs201.mono hle491
    have hs525 := hs282.mono hle491
    have hs526 := hs324.mono hle491
    have hs527 := hs378.mono hle491
    refine s1 hFx 151 (.pointer (some ⟨b35, 5, none⟩)) ?_; intro a528 hF529; clear hFx
    refine nl (qnI (hJ _ _ ?_)); clear hJ J
    exact ⟨ud3, ud4, .pointer (some ⟨b35, 0, none⟩), .pointer (some ⟨b35, 0, none⟩), .pointer (some ⟨b35, 5, none⟩), ud152, ud153, ud154, ud155, ud156, ud157, .row b35 [str r372.2.Reader.Row, .int .i64 r372.2.Reader.At, .int .i64 r372.2.Reader.Code, .int .u8 r372.2.Reader.c.last, .int .i64 r372.2.Reader.c.n, .int .i64 r372.2.f.ID, .bool r372.2.f.Long, .bool r372.2.f.Fast, .bool r372.2.f.Remote, .int .i64 r372.2.f.Size, .slice ao376 r372.2.f.Data.length cap377] 61, .own (tyInt .i64) 3 (some ⟨g162, 0, none⟩) cap153 fsizes, .row b2 [.int .i64 0, .bool false, .bool false, .bool false, .int .i64 0, .slice none 0 0] 24, hle491, hF529.reg, hMx.perm lpr, (nt hx10), (nt hx11), kf, kf, kf, (nt hx3), cu153, cu154, cu155, cu156, cu157, rfl, rfl, kf, (nt hx9)⟩
   ·
    obtain rfl := oj hi
    have hx2 := hpre 2 (by kernel_rfl)
    have hx1 := hcl 2 1 (by kernel_rfl) hx2
    have hx0 := hcl 1 0 (by kernel_rfl) hx1
    have hx3 := hSi
    have hx9 := ngF hcl 9 3 hx3
    have hx10 := ngF hcl 10 3 hx3
    have hx11 := ngF hcl 11 3 hx3
    obtain rfl := cu149 hx0
    obtain rfl := cu150 hx1
    obtain rfl := cu151 hx2
    obtain rfl := cr0_0
    obtain rfl := cr1_0
    obtain rfl := cr2_0 hx9
    refine hG (any_step ?_); clear hG G; intro A J hJ
    have hle0 := Fz.le.trans hle0 hle491
    have hs531 := hs57.mono hle491
    have hs532 := hs78.mono hle491
    have hs533 := hs201.mono hle491
    have hs534 := hs282.mono hle491
    have hs535 := hs324.mono hle491
    have hs536 := hs378.mono hle491
    refine l2 hFx hMx 152 0 5 6 [.int .i64 r372.2.f.ID, .bool r372.2.f.Long, .bool r372.2.f.Fast, .bool r372.2.f.Remote, .int .i64 r372.2.f.Size, .slice ao376 r372.2.f.Data.length cap377] rfl rfl ?_; intro a537 hF538; clear hFx
    refine nl (qnI (hJ _ _ ?_)); clear hJ J
    exact ⟨ud3, ud4, .pointer (some ⟨b35, 0, none⟩), .pointer (some ⟨b35, 0, none⟩), .pointer (some ⟨b35, 5, none⟩), .agg #[.int .i64 r372.2.f.ID, .bool r372.2.f.Long, .bool r372.2.f.Fast, .bool r372.2.f.Remote, .int .i64 r372.2.f.Size, .slice ao376 r372.2.f.Data.length cap377], ud153, ud154, ud155, ud156, ud157, .row b35 [str r372.2.Reader.Row, .int .i64 r372.2.Reader.At, .int .i64 r372.2.Reader.Code, .int .u8 r372.2.Reader.c.last, .int .i64 r372.2.Reader.c.n, .int .i64 r372.2.f.ID, .bool r372.2.f.Long, .bool r372.2.f.Fast, .bool r372.2.f.Remote, .int .i64 r372.2.f.Size, .slice ao376 r372.2.f.Data.length cap377] 61, .own (tyInt .i64) 3 (some ⟨g162, 0, none⟩) cap153 fsizes, .row b2 [.int .i64 0, .bool false, .bool false, .bool false, .int .i64 0, .slice none 0 0] 24, hle491, hF538.reg, hMx.perm lpr, (nt hx10), (nt hx11), kf, kf, kf, kf, cu153, cu154, cu155, cu156, cu157, rfl, rfl, kf, (nt hx9)⟩
   ·
    obtain rfl := oj hi
    have hx4 := hSi
    have hx5 := ngF hcl 5 4 hx4
    have hx6 := ngF hcl 6 5 hx5
    have hx7 := ngF hcl 7 6 hx6
    have hx8 := ngF hcl 8 7 hx7
    have hx10 := ngF hcl 10 4 hx4
    have hx11 := ngF hcl 11 4 hx4
    obtain rfl := cr0_0
    obtain rfl := cr1_0
    refine hG (any_step ?_); clear hG G; intro A J hJ
    have hle0 := Fz.le.trans hle0 hle491
    have hs540 := hs57.mono hle491
    have hs541 := hs78.mono hle491
    have hs542 := hs201.mono hle491
    have hs543 := hs282.mono hle491
    have hs544 := hs324.mono hle491
    have hs545 := hs378.mono hle491
    refine s1 hFx 153 (.pointer (some ⟨b35, 0, none⟩)) ?_; intro a546 hF547; clear hFx
    refine nl (qnI (hJ _ _ ?_)); clear hJ J
    exact ⟨ud3, ud4, ud149, ud150, ud151, ud152, .pointer (some ⟨b35, 0, none⟩), ud154, ud155, ud156, ud157, .row b35 [str r372.2.Reader.Row, .int .i64 r372.2.Reader.At, .int .i64 r372.2.Reader.Code, .int .u8 r372.2.Reader.c.last, .int .i64 r372.2.Reader.c.n, .int .i64 r372.2.f.ID, .bool r372.2.f.Long, .bool r372.2.f.Fast, .bool r372.2.f.Remote, .int .i64 r372.2.f.Size, .slice ao376 r372.2.f.Data.length cap377] 61, .own (tyInt .i64) 3 (some ⟨g162, 0, none⟩) cap153 fsizes, rh2, hle491, hF547.reg, hMx.perm lpr, (nt hx10), (nt hx11), cu149, cu150, cu151, cu152, kf, (nt hx5), (nt hx6), (nt hx7), (nt hx8), rfl, rfl, cr2_0, cr2_1⟩
   ·
    obtain rfl := oj hi
    have hx4 := hpre 4 (by kernel_rfl)
    have hx5 := hSi
    have hx6 := ngF hcl 6 5 hx5
    have hx7 := ngF hcl 7 6 hx6
    have hx8 := ngF hcl 8 7 hx7
    have hx10 := ngF hcl 10 5 hx5
    have hx11 := ngF hcl 11 5 hx5
    obtain rfl := cu153 hx4
    obtain rfl := cr0_0
    obtain rfl := cr1_0
    refine hG (any_step ?_); clear hG G; intro A J hJ
    have hle0 := Fz.le.trans hle0 hle491
    have hs549 := hs57.mono hle491
    have hs550 := hs78.mono hle491
    have hs551 := hs201.mono hle491
    have hs552 := hs282.mono hle491
    have hs553 := hs324.mono hle491
    have hs554 := hs378.mono hle491
    refine s1 hFx 154 (.pointer (some ⟨b35, 0, none⟩)) ?_; intro a555 hF556; clear hFx
    refine nl (qnI (hJ _ _ ?_)); clear hJ J
    exact ⟨ud3, ud4, ud149, ud150, ud151, ud152, .pointer (some ⟨b35, 0, none⟩), .pointer (some ⟨b35, 0, none⟩), ud155, ud156, ud157, .row b35 [str r372.2.Reader.Row, .int .i64 r372.2.Reader.At, .int .i64 r372.2.Reader.Code, .int .u8 r372.2.Reader.c.last, .int .i64 r372.2.Reader.c.n, .int .i64 r372.2.f.ID, .bool r372.2.f.Long, .bool r372.2.f.Fast, .bool r372.2.f.Remote, .int .i64 r372.2.f.Size, .slice ao376 r372.2.f.Data.length cap377] 61, .own (tyInt .i64) 3 (some ⟨g162, 0, none⟩) cap153 fsizes, rh2, hle491, hF556.reg, hMx.perm lpr, (nt hx10), (nt hx11), cu149, cu150, cu151, cu152, kf, kf, (nt hx6), (nt hx7), (nt hx8), rfl, rfl, cr2_0, cr2_1⟩
   ·
    obtain rfl := oj hi
    have hx5 := hpre 5 (by kernel_rfl)
    have hx4 := hcl 5 4 (by kernel_rfl) hx5
    have hx6 := hSi
    have hx7 := ngF hcl 7 6 hx6
    have hx8 := ngF hcl 8 7 hx7
    have hx10 := ngF hcl 10 6 hx6
    have hx11 := ngF hcl 11 6 hx6
    obtain rfl := cu153 hx4
    obtain rfl := cu154 hx5
    obtain rfl := cr0_0
    obtain rfl := cr1_0
    refine hG (any_step ?_); clear hG G; intro A J hJ
    have hle0 := Fz.le.trans hle0 hle491
    have hs558 := hs57.mono hle491
    have hs559 := hs78.mono hle491
    have hs560 := hs201.mono hle491
    have hs561 := hs282.mono hle491
    have hs562 := hs324.mono hle491
    have hs563 := hs378.mono hle491
    refine s1 hFx 155 (.pointer (some ⟨b35, 0, none⟩)) ?_; intro a564 hF565; clear hFx
    refine nl (qnI (hJ _ _ ?_)); clear hJ J
    exact ⟨ud3, ud4, ud149, ud150, ud151, ud152, .pointer (some ⟨b35, 0, none⟩), .pointer (some ⟨b35, 0, none⟩), .pointer (some ⟨b35, 0, none⟩), ud156, ud157, .row b35 [str r372.2.Reader.Row, .int .i64 r372.2.Reader.At, .int .i64 r372.2.Reader.Code, .int .u8 r372.2.Reader.c.last, .int .i64 r372.2.Reader.c.n, .int .i64 r372.2.f.ID, .bool r372.2.f.Long, .bool r372.2.f.Fast, .bool r372.2.f.Remote, .int .i64 r372.2.f.Size, .slice ao376 r372.2.f.Data.length cap377] 61, .own (tyInt .i64) 3 (some ⟨g162, 0, none⟩) cap153 fsizes, rh2, hle491, hF565.reg, hMx.perm lpr, (nt hx10), (nt hx11), cu149, cu150, cu151, cu152, kf, kf, kf, (nt hx7), (nt hx8), rfl, rfl, cr2_0, cr2_1⟩
   ·
    obtain rfl := oj hi
    have hx6 := hpre 6 (by kernel_rfl)
    have hx5 := hcl 6 5 (by kernel_rfl) hx6
    have hx4 := hcl 5 4 (by kernel_rfl) hx5
    have hx7 := hSi
    have hx8 := ngF hcl 8 7 hx7
    have hx10 := ngF hcl 10 7 hx7
    have hx11 := ngF hcl 11 7 hx7
    obtain rfl := cu153 hx4
    obtain rfl := cu154 hx5
    obtain rfl := cu155 hx6
    obtain rfl := cr0_0
    obtain rfl := cr1_0
    refine hG (any_step ?_); clear hG G; intro A J hJ
    have hle0 := Fz.le.trans hle0 hle491
    have hs567 := hs57.mono hle491
    have hs568 := hs78.mono hle491
    have hs569 := hs201.mono hle491
    have hs570 := hs282.mono hle491
    have hs571 := hs324.mono hle491
    have hs572 := hs378.mono hle491
    refine s1 hFx 156 (.pointer (some ⟨b35, 1, none⟩)) ?_; intro a573 hF574; clear hFx
    refine nl (qnI (hJ _ _ ?_)); clear hJ J
    exact ⟨ud3, ud4, ud149, ud150, ud151, ud152, .pointer (some ⟨b35, 0, none⟩), .pointer (some ⟨b35, 0, none⟩), .pointer (some ⟨b35, 0, none⟩), .pointer (some ⟨b35, 1, none⟩), ud157, .row b35 [str r372.2.Reader.Row, .int .i64 r372.2.Reader.At, .int .i64 r372.2.Reader.Code, .int .u8 r372.2.Reader.c.last, .int .i64 r372.2.Reader.c.n, .int .i64 r372.2.f.ID, .bool r372.2.f.Long, .bool r372.2.f.Fast, .bool r372.2.f.Remote, .int .i64 r372.2.f.Size, .slice ao376 r372.2.f.Data.length cap377] 61, .own (tyInt .i64) 3 (some ⟨g162, 0, none⟩) cap153 fsizes, rh2, hle491, hF574.reg, hMx.perm lpr, (nt hx10), (nt hx11), cu149, cu150, cu151, cu152, kf, kf, kf, kf, (nt hx8), rfl, rfl, cr2_0, cr2_1⟩
   ·
    obtain rfl := oj hi
    have hx7 := hpre 7 (by kernel_rfl)
    have hx6 := hcl 7 6 (by kernel_rfl) hx7
    have hx5 := hcl 6 5 (by kernel_rfl) hx6
    have hx4 := hcl 5 4 (by kernel_rfl) hx5
    have hx8 := hSi
    have hx10 := ngF hcl 10 8 hx8
    have hx11 := ngF hcl 11 8 hx8
    obtain rfl := cu153 hx4
    obtain rfl := cu154 hx5
    obtain rfl := cu155 hx6
    obtain rfl := cu156 hx7
    obtain rfl := cr0_0
    obtain rfl := cr1_0
    refine hG (any_step ?_); clear hG G; intro A J hJ
    have hle0 := Fz.le.trans hle0 hle491
    have hs576 := hs57.mono hle491
    have hs577 := hs78.mono hle491
    have hs578 := hs201.mono hle491
    have hs579 := hs282.mono hle491
    have hs580 := hs324.mono hle491
    have hs581 := hs378.mono hle491
    refine l1 hFx hMx 157 0 1 (.int .i64 r372.2.Reader.At) rfl rfl ?_; intro a582 hF583; clear hFx
    refine nl (qnI (hJ _ _ ?_)); clear hJ J
    exact ⟨ud3, ud4, ud149, ud150, ud151, ud152, .pointer (some ⟨b35, 0, none⟩), .pointer (some ⟨b35, 0, none⟩), .pointer (some ⟨b35, 0, none⟩), .pointer (some ⟨b35, 1, none⟩), .int .i64 r372.2.Reader.At, .row b35 [str r372.2.Reader.Row, .int .i64 r372.2.Reader.At, .int .i64 r372.2.Reader.Code, .int .u8 r372.2.Reader.c.last, .int .i64 r372.2.Reader.c.n, .int .i64 r372.2.f.ID, .bool r372.2.f.Long, .bool r372.2.f.Fast, .bool r372.2.f.Remote, .int .i64 r372.2.f.Size, .slice ao376 r372.2.f.Data.length cap377] 61, .own (tyInt .i64) 3 (some ⟨g162, 0, none⟩) cap153 fsizes, rh2, hle491, hF583.reg, hMx.perm lpr, (nt hx10), (nt hx11), cu149, cu150, cu151, cu152, kf, kf, kf, kf, kf, rfl, rfl, cr2_0, cr2_1⟩
   ·
    obtain rfl := oj hi
    have hx3 := hpre 3 (by kernel_rfl)
    have hx2 := hpre 2 (by kernel_rfl)
    have hx1 := hpre 1 (by kernel_rfl)
    have hx0 := hpre 0 (by kernel_rfl)
    have hx9 := hSi
    have hx10 := ngF hcl 10 9 hx9
    have hx11 := ngF hcl 11 9 hx9
    obtain rfl := cu149 hx0
    obtain rfl := cu150 hx1
    obtain rfl := cu151 hx2
    obtain rfl := cu152 hx3
    obtain rfl := cr0_0
    obtain rfl := cr1_0
    obtain rfl := cr2_0 hx9
    refine hG (any_step ?_); clear hG G; intro A J hJ
    have hle0 := Fz.le.trans hle0 hle491
    have hs585 := hs57.mono hle491
    have hs586 := hs78.mono hle491
    have hs587 := hs201.mono hle491
    have hs588 := hs282.mono hle491
    have hs589 := hs324.mono hle491
    have hs590 := hs378.mono hle491
    refine sr hFx hMx 2 [.int .i64 r372.2.f.ID, .bool r372.2.f.Long, .bool r372.2.f.Fast, .bool r372.2.f.Remote, .int .i64 r372.2.f.Size, .slice ao376 r372.2.f.Data.length cap377] (b := b2) (off := 0) (cs := [.int .i64 0, .bool false, .bool false, .bool false, .int .i64 0, .slice none 0 0]) (ty := 24) (u := .agg #[.int .i64 r372.2.f.ID, .bool r372.2.f.Long, .bool r372.2.f.Fast, .bool r372.2.f.Remote, .int .i64 r372.2.f.Size, .slice ao376 r372.2.f.Data.length cap377]) (nog rfl _) rfl rfl (by kernel_rfl) (by kernel_rfl) (by kernel_rfl) (by kernel_rfl) (by kernel_rfl) (by kernel_rfl) (by kernel_rfl) ?_; intro wd591 hM592; clear hMx
    refine nl (qnI (hJ _ _ ?_)); clear hJ J
    exact ⟨ud3, ud4, .pointer (some ⟨b35, 0, none⟩), .pointer (some ⟨b35, 0, none⟩), .pointer (some ⟨b35, 5, none⟩), .agg #[.int .i64 r372.2.f.ID, .bool r372.2.f.Long, .bool r372.2.f.Fast, .bool r372.2.f.Remote, .int .i64 r372.2.f.Size, .slice ao376 r372.2.f.Data.length cap377], ud153, ud154, ud155, ud156, ud157, .row b35 [str r372.2.Reader.Row, .int .i64 r372.2.Reader.At, .int .i64 r372.2.Reader.Code, .int .u8 r372.2.Reader.c.last, .int .i64 r372.2.Reader.c.n, .int .i64 r372.2.f.ID, .bool r372.2.f.Long, .bool r372.2.f.Fast, .bool r372.2.f.Remote, .int .i64 r372.2.f.Size, .slice ao376 r372.2.f.Data.length cap377] 61, .own (tyInt .i64) 3 (some ⟨g162, 0, none⟩) cap153 fsizes, .row b2 [.int .i64 r372.2.f.ID, .bool r372.2.f.Long, .bool r372.2.f.Fast, .bool r372.2.f.Remote, .int .i64 r372.2.f.Size, .slice ao376 r372.2.f.Data.length cap377] 24, hle491, hFx.reg, hM592.perm lpr, (nt hx10), (nt hx11), kf, kf, kf, kf, cu153, cu154, cu155, cu156, cu157, rfl, rfl, nu, kf⟩
   ·
    obtain rfl := oj hi
    have hx9 := hpre 9 (by kernel_rfl)
    have hx8 := hpre 8 (by kernel_rfl)
    have hx7 := hpre 7 (by kernel_rfl)
    have hx6 := hpre 6 (by kernel_rfl)
    have hx5 := hpre 5 (by kernel_rfl)
    have hx4 := hpre 4 (by kernel_rfl)
    have hx3 := hpre 3 (by kernel_rfl)
    have hx2 := hpre 2 (by kernel_rfl)
    have hx1 := hpre 1 (by kernel_rfl)
    have hx0 := hpre 0 (by kernel_rfl)
    have hx10 := hSi
    have hx11 := ngF hcl 11 10 hx10
    obtain rfl := cu149 hx0
    obtain rfl := cu150 hx1
    obtain rfl := cu151 hx2
    obtain rfl := cu152 hx3
    obtain rfl := cu153 hx4
    obtain rfl := cu154 hx5
    obtain rfl := cu155 hx6
    obtain rfl := cu156 hx7
    obtain rfl := cu157 hx8
    obtain rfl := cr0_0
    obtain rfl := cr1_0
    obtain rfl := cr2_1 hx9
    refine hG (any_step ?_); clear hG G; intro A J hJ
    have hle0 := Fz.le.trans hle0 hle491
    have hs594 := hs57.mono hle491
    have hs595 := hs78.mono hle491
    have hs596 := hs201.mono hle491
    have hs597 := hs282.mono hle491
    have hs598 := hs324.mono hle491
    have hs599 := hs378.mono hle491
    refine s1 hFx 3 (.int .i64 r372.2.Reader.At) ?_; intro a600 hF601; clear hFx
    refine nl (qnI (hJ _ _ ?_)); clear hJ J
    exact ⟨.int .i64 r372.2.Reader.At, ud4, .pointer (some ⟨b35, 0, none⟩), .pointer (some ⟨b35, 0, none⟩), .pointer (some ⟨b35, 5, none⟩), .agg #[.int .i64 r372.2.f.ID, .bool r372.2.f.Long, .bool r372.2.f.Fast, .bool r372.2.f.Remote, .int .i64 r372.2.f.Size, .slice ao376 r372.2.f.Data.length cap377], .pointer (some ⟨b35, 0, none⟩), .pointer (some ⟨b35, 0, none⟩), .pointer (some ⟨b35, 0, none⟩), .pointer (some ⟨b35, 1, none⟩), .int .i64 r372.2.Reader.At, .row b35 [str r372.2.Reader.Row, .int .i64 r372.2.Reader.At, .int .i64 r372.2.Reader.Code, .int .u8 r372.2.Reader.c.last, .int .i64 r372.2.Reader.c.n, .int .i64 r372.2.f.ID, .bool r372.2.f.Long, .bool r372.2.f.Fast, .bool r372.2.f.Remote, .int .i64 r372.2.f.Size, .slice ao376 r372.2.f.Data.length cap377] 61, .own (tyInt .i64) 3 (some ⟨g162, 0, none⟩) cap153 fsizes, .row b2 [.int .i64 r372.2.f.ID, .bool r372.2.f.Long, .bool r372.2.f.Fast, .bool r372.2.f.Remote, .int .i64 r372.2.f.Size, .slice ao376 r372.2.f.Data.length cap377] 24, hle491, hF601.reg, hMx.perm lpr, kf, (nt hx11), kf, kf, kf, kf, kf, kf, kf, kf, kf, rfl, rfl, (tn hx9), kf⟩
   ·
    obtain rfl := oj hi
    have hx10 := hpre 10 (by kernel_rfl)
    have hx9 := hpre 9 (by kernel_rfl)
    have hx8 := hpre 8 (by kernel_rfl)
    have hx7 := hpre 7 (by kernel_rfl)
    have hx6 := hpre 6 (by kernel_rfl)
    have hx5 := hpre 5 (by kernel_rfl)
    have hx4 := hpre 4 (by kernel_rfl)
    have hx3 := hpre 3 (by kernel_rfl)
    have hx2 := hpre 2 (by kernel_rfl)
    have hx1 := hpre 1 (by kernel_rfl)
    have hx0 := hpre 0 (by kernel_rfl)
    have hx11 := hSi
    obtain rfl := cu3 hx10
    obtain rfl := cu149 hx0
    obtain rfl := cu150 hx1
    obtain rfl := cu151 hx2
    obtain rfl := cu152 hx3
    obtain rfl := cu153 hx4
    obtain rfl := cu154 hx5
    obtain rfl := cu155 hx6
    obtain rfl := cu156 hx7
    obtain rfl := cu157 hx8
    obtain rfl := cr0_0
    obtain rfl := cr1_0
    obtain rfl := cr2_1 hx9
    refine hG (any_step ?_); clear hG G; intro A J hJ
    have hle0 := Fz.le.trans hle0 hle491
    have hs603 := hs57.mono hle491
    have hs604 := hs78.mono hle491
    have hs605 := hs201.mono hle491
    have hs606 := hs282.mono hle491
    have hs607 := hs324.mono hle491
    have hs608 := hs378.mono hle491
    refine s1 hFx 4 (.int .i64 0) ?_; intro a609 hF610; clear hFx
    refine nl (qnI (hJ _ _ ?_)); clear hJ J
    exact ⟨.int .i64 r372.2.Reader.At, .int .i64 0, .pointer (some ⟨b35, 0, none⟩), .pointer (some ⟨b35, 0, none⟩), .pointer (some ⟨b35, 5, none⟩), .agg #[.int .i64 r372.2.f.ID, .bool r372.2.f.Long, .bool r372.2.f.Fast, .bool r372.2.f.Remote, .int .i64 r372.2.f.Size, .slice ao376 r372.2.f.Data.length cap377], .pointer (some ⟨b35, 0, none⟩), .pointer (some ⟨b35, 0, none⟩), .pointer (some ⟨b35, 0, none⟩), .pointer (some ⟨b35, 1, none⟩), .int .i64 r372.2.Reader.At, .row b35 [str r372.2.Reader.Row, .int .i64 r372.2.Reader.At, .int .i64 r372.2.Reader.Code, .int .u8 r372.2.Reader.c.last, .int .i64 r372.2.Reader.c.n, .int .i64 r372.2.f.ID, .bool r372.2.f.Long, .bool r372.2.f.Fast, .bool r372.2.f.Remote, .int .i64 r372.2.f.Size, .slice ao376 r372.2.f.Data.length cap377] 61, .own (tyInt .i64) 3 (some ⟨g162, 0, none⟩) cap153 fsizes, .row b2 [.int .i64 r372.2.f.ID, .bool r372.2.f.Long, .bool r372.2.f.Fast, .bool r372.2.f.Remote, .int .i64 r372.2.f.Size, .slice ao376 r372.2.f.Data.length cap377] 24, hle491, hF610.reg, hMx.perm lpr, kf, kf, kf, kf, kf, kf, kf, kf, kf, kf, kf, rfl, rfl, (tn hx9), kf⟩
  case hE =>
   intro S hS a612 wd613 hI; refine Go.Sy.hid ?_; intro G hG; obtain ⟨ud3, ud4, ud149, ud150, ud151, ud152, ud153, ud154, ud155, ud156, ud157, rh0, rh1, rh2, hle491, hFx, hMx, cu3, cu4, cu149, cu150, cu151, cu152, cu153, cu154, cu155, cu156, cu157, cr0_0, cr1_0, cr2_0, hI⟩ := hI; have cr2_1 := hI; clear hI; refine hG ?_; clear hG G
   obtain rfl := cu3 (hS 10 (by decide))
   obtain rfl := cu4 (hS 11 (by decide))
   obtain rfl := cu149 (hS 0 (by decide))
   obtain rfl := cu150 (hS 1 (by decide))
   obtain rfl := cu151 (hS 2 (by decide))
   obtain rfl := cu152 (hS 3 (by decide))
   obtain rfl := cu153 (hS 4 (by decide))
   obtain rfl := cu154 (hS 5 (by decide))
   obtain rfl := cu155 (hS 6 (by decide))
   obtain rfl := cu156 (hS 7 (by decide))
   obtain rfl := cu157 (hS 8 (by decide))
   obtain rfl := cr0_0
   obtain rfl := cr1_0
   obtain rfl := cr2_1 (hS 9 (by decide))
   have hle0 := Fz.le.trans hle0 hle491
   have hs614 := hs57.mono hle491
   have hs615 := hs78.mono hle491
   have hs616 := hs201.mono hle491
   have hs617 := hs282.mono hle491
   have hs618 := hs324.mono hle491
   have hs619 := hs378.mono hle491
   refine thn ?_
   refine wp_ret ?_
   refine rt (fn := Tryz.f8) (v := .tuple #[.agg #[.int .i64 r372.2.f.ID, .bool r372.2.f.Long, .bool r372.2.f.Fast, .bool r372.2.f.Remote, .int .i64 r372.2.f.Size, .slice ao376 r372.2.f.Data.length cap377], .int .i64 r372.2.Reader.At, .int .i64 0]) hFx (re3c hFx (fn := Tryz.f8) rfl (ad := ⟨b2, 0, none⟩) (by kernel_rfl) (loadVar_run hMx 2 (b := b2) (k := 6) (vs := [.int .i64 r372.2.f.ID, .bool r372.2.f.Long, .bool r372.2.f.Fast, .bool r372.2.f.Remote, .int .i64 r372.2.f.Size, .slice ao376 r372.2.f.Data.length cap377]) (ty := 24) rfl (by kernel_rfl) (by kernel_rfl)) (by kernel_rfl) (by kernel_rfl)) ?_
   exact ⟨(r372.2.f, r372.2.Reader.At, 0), ao376, cap377, Z379, rfl, hp464, hs619, hMx.keep (List.Sublist.cons _ (List.Sublist.cons _ (List.Sublist.cons _ (List.Sublist.slnil))))⟩
 ·
  have hp620 := hp382.2 hb386; clear hp382
  have hF621 : Fr 158 [] [⟨2, [], .pointer (some ⟨b2, 0, none⟩)⟩, ⟨6, [], .pointer (some ⟨b35, 0, none⟩)⟩, ⟨12, [], str r372.1⟩] a383 := hF385.reg; clear hF385
  refine sqQH mixed (by kernel_rfl) hM381 ?_; intro hQ622Q hQ622
  refine q1 hF621 120 (.pointer (some ⟨b35, 0, none⟩)) ?_; intro a624 hF625; clear hF621
  refine q1 hF625 121 (.pointer (some ⟨b35, 0, none⟩)) ?_; intro a627 hF628; clear hF625
  refine q1 hF628 122 (.pointer (some ⟨b35, 0, none⟩)) ?_; intro a630 hF631; clear hF628
  refine q1 hF631 123 (.pointer (some ⟨b35, 2, none⟩)) ?_; intro a633 hF634; clear hF631
  refine qst hF634 (.int .i64 r372.2.Reader.Code) (nog rfl _) rfl (by kernel_rfl) (fun v635 hC => ld hF634 hC 0 (g := []) (b := b35) (off := 2) (cs := [str r372.2.Reader.Row, .int .i64 r372.2.Reader.At, .int .i64 r372.2.Reader.Code, .int .u8 r372.2.Reader.c.last, .int .i64 r372.2.Reader.c.n, .int .i64 r372.2.f.ID, .bool r372.2.f.Long, .bool r372.2.f.Fast, .bool r372.2.f.Remote, .int .i64 r372.2.f.Size, .slice ao376 r372.2.f.Data.length cap377]) (ty := 61) rfl (by kernel_rfl) (by kernel_rfl) (by kernel_rfl) (by kernel_rfl) rfl) ?_; intro a636 hF637; clear hF634
  refine q1 hF637 125 (.bool (r372.2.Reader.Code == 0)) ?_; intro a639 hF640; clear hF637
  have hF641 := hF640.reval (d := 125) (c := []) (v := .bool (r372.2.Reader.Code == 0)) (by kernel_rfl) (.bool false) (by rw [hb386]); clear hF640
  refine q1 hF641 126 (.bool false) ?_; intro a643 hF644; clear hF641
  refine qsk hF644 (b := false) rfl rfl (by kernel_rfl) (by kernel_rfl) rfl rfl (by kernel_rfl) ?_; intro a645 hF646; clear hF644
  refine qsk hF646 (b := false) rfl rfl (by kernel_rfl) (by kernel_rfl) rfl rfl (by kernel_rfl) ?_; intro a647 hF648; clear hF646
  refine qsk hF648 (b := false) rfl rfl (by kernel_rfl) (by kernel_rfl) rfl rfl (by kernel_rfl) ?_; intro a649 hF650; clear hF648
  refine qsk hF650 (b := false) rfl rfl (by kernel_rfl) (by kernel_rfl) rfl rfl (by kernel_rfl) ?_; intro a651 hF652; clear hF650
  refine qsk hF652 (b := false) rfl rfl (by kernel_rfl) (by kernel_rfl) rfl rfl (by kernel_rfl) ?_; intro a653 hF654; clear hF652
  refine qsk hF654 (b := false) rfl rfl (by kernel_rfl) (by kernel_rfl) rfl rfl (by kernel_rfl) ?_; intro a655 hF656; clear hF654
  refine qsk hF656 (b := false) rfl rfl (by kernel_rfl) (by kernel_rfl) rfl rfl (by kernel_rfl) ?_; intro a657 hF658; clear hF656
  refine q1 hF658 134 (.bool false) ?_; intro a660 hF661; clear hF658
  refine qnl (hQ622 _ ?_); clear hQ622 hQ622Q; intro wd662 hM663; clear hM381
  refine cdF hF661 (by kernel_rfl) ?_
  refine wp_skip ?_
  refine thn ?_
  refine wp_seq ?_
  have hF664 : Fr 158 [] [⟨2, [], .pointer (some ⟨b2, 0, none⟩)⟩, ⟨6, [], .pointer (some ⟨b35, 0, none⟩)⟩] a660 := hF661.reg; clear hF661
  refine sqH ?_; intro hQ665Q hQ665
  refine s1 hF664 137 (.pointer (some ⟨b35, 0, none⟩)) ?_; intro a666 hF667; clear hF664
  refine s1 hF667 138 (.pointer (some ⟨b35, 0, none⟩)) ?_; intro a668 hF669; clear hF667
  refine s1 hF669 139 (.pointer (some ⟨b35, 0, none⟩)) ?_; intro a670 hF671; clear hF669
  refine s1 hF671 140 (.pointer (some ⟨b35, 2, none⟩)) ?_; intro a672 hF673; clear hF671
  refine l1 hF673 hM663 141 0 2 (.int .i64 r372.2.Reader.Code) rfl rfl ?_; intro a674 hF675; clear hF673
  refine s1 hF675 142 (.bool (r372.2.Reader.Code != 0)) ?_; intro a676 hF677; clear hF675
  refine nlH (hQ665 _ _ ?_); clear hQ665 hQ665Q
  have hc678 := hp620.1; have hp679 := hp620.2; clear hp620
  refine cd hF677 (t := r372.2.Reader.Code != 0) (by kernel_rfl) (fun h => Bool.noConfusion (hc678.symm.trans h)) (fun _ => ?_)
  refine wp_skip ?_
  refine thn ?_
  have hF681 : Fr 158 [] [⟨2, [], .pointer (some ⟨b2, 0, none⟩)⟩, ⟨6, [], .pointer (some ⟨b35, 0, none⟩)⟩] a676 := hF677.reg; clear hF677
  refine wp_seq (any_invE mixed [[], [0], [1], [2], [], [4], [5], [6], [7], [0, 1, 2, 3], [0, 1, 2, 3, 4, 5, 6, 7, 8, 9], [0, 1, 2, 3, 4, 5, 6, 7, 8, 9, 10]] 12 (fun S a w1 => ∃ (ud3 : Value) (ud4 : Value) (ud149 : Value) (ud150 : Value) (ud151 : Value) (ud152 : Value) (ud153 : Value) (ud154 : Value) (ud155 : Value) (ud156 : Value) (ud157 : Value) (rh0 : Res) (rh1 : Res) (rh2 : Res), Fz.le Z379 Z379 ∧ Fr 158 [] [⟨2, [], .pointer (some ⟨b2, 0, none⟩)⟩, ⟨3, [], ud3⟩, ⟨4, [], ud4⟩, ⟨6, [], .pointer (some ⟨b35, 0, none⟩)⟩, ⟨149, [], ud149⟩, ⟨150, [], ud150⟩, ⟨151, [], ud151⟩, ⟨152, [], ud152⟩, ⟨153, [], ud153⟩, ⟨154, [], ud154⟩, ⟨155, [], ud155⟩, ⟨156, [], ud156⟩, ⟨157, [], ud157⟩] a ∧ Mem w.heap.size [] w Z [rh0, rh1, rh2] Z379 w1 ∧ (S 10 = true → ud3 = .int .i64 r372.2.Reader.At) ∧ (S 11 = true → ud4 = .int .i64 0) ∧ (S 0 = true → ud149 = .pointer (some ⟨b35, 0, none⟩)) ∧ (S 1 = true → ud150 = .pointer (some ⟨b35, 0, none⟩)) ∧ (S 2 = true → ud151 = .pointer (some ⟨b35, 5, none⟩)) ∧ (S 3 = true → ud152 = .agg #[.int .i64 r372.2.f.ID, .bool r372.2.f.Long, .bool r372.2.f.Fast, .bool r372.2.f.Remote, .int .i64 r372.2.f.Size, .slice ao376 r372.2.f.Data.length cap377]) ∧ (S 4 = true → ud153 = .pointer (some ⟨b35, 0, none⟩)) ∧ (S 5 = true → ud154 = .pointer (some ⟨b35, 0, none⟩)) ∧ (S 6 = true → ud155 = .pointer (some ⟨b35, 0, none⟩)) ∧ (S 7 = true → ud156 = .pointer (some ⟨b35, 1, none⟩)) ∧ (S 8 = true → ud157 = .int .i64 r372.2.Reader.At) ∧ (rh0 = .row b35 [str r372.2.Reader.Row, .int .i64 r372.2.Reader.At, .int .i64 r372.2.Reader.Code, .int .u8 r372.2.Reader.c.last, .int .i64 r372.2.Reader.c.n, .int .i64 r372.2.f.ID, .bool r372.2.f.Long, .bool r372.2.f.Fast, .bool r372.2.f.Remote, .int .i64 r372.2.f.Size, .slice ao376 r372.2.f.Data.length cap377] 61) ∧ (rh1 = .own (tyInt .i64) 3 (some ⟨g162, 0, none⟩) cap153 fsizes) ∧ (S 9 = false → rh2 = .row b2 [.int .i64 0, .bool false, .bool false, .bool false, .int .i64 0, .slice none 0 0] 24) ∧ (S 9 = true → rh2 = .row b2 [.int .i64 r372.2.f.ID, .bool r372.2.f.Long, .bool r372.2.f.Fast, .bool r372.2.f.Remote, .int .i64 r372.2.f.Size, .slice ao376 r372.2.f.Data.length cap377] 24)) ?h0 ?hs ?hE)
  case h0 =>
   have hF707 := hF681.any 3
   have hF708 := hF707.any 4
   have hF709 := hF708.any 149
   have hF710 := hF709.any 150
   have hF711 := hF710.any 151
   have hF712 := hF711.any 152
   have hF713 := hF712.any 153
   have hF714 := hF713.any 154
   have hF715 := hF714.any 155
   have hF716 := hF715.any 156
   have hF717 := hF716.any 157
   have hM718 := (hM663.perm lpr).drew
   exact ⟨a676.tmps.getD 3 undef, a676.tmps.getD 4 undef, a676.tmps.getD 149 undef, a676.tmps.getD 150 undef, a676.tmps.getD 151 undef, a676.tmps.getD 152 undef, a676.tmps.getD 153 undef, a676.tmps.getD 154 undef, a676.tmps.getD 155 undef, a676.tmps.getD 156 undef, a676.tmps.getD 157 undef, .row b35 [str r372.2.Reader.Row, .int .i64 r372.2.Reader.At, .int .i64 r372.2.Reader.Code, .int .u8 r372.2.Reader.c.last, .int .i64 r372.2.Reader.c.n, .int .i64 r372.2.f.ID, .bool r372.2.f.Long, .bool r372.2.f.Fast, .bool r372.2.f.Remote, .int .i64 r372.2.f.Size, .slice ao376 r372.2.f.Data.length cap377] 61, .own (tyInt .i64) 3 (some ⟨g162, 0, none⟩) cap153 fsizes, .row b2 [.int .i64 0, .bool false, .bool false, .bool false, .int .i64 0, .slice none 0 0] 24, Fz.le.refl _, hF717.reg, hM718, ff, ff, ff, ff, ff, ff, ff, ff, ff, ff, ff, rfl, rfl, kf, ff⟩
  case hs =>
   intro S hcl i o hil hi hSi hpre a w1 hI; refine Go.Sy.hid ?_; intro G hG; obtain ⟨ud3, ud4, ud149, ud150, ud151, ud152, ud153, ud154, ud155, ud156, ud157, rh0, rh1, rh2, hle706, hFx, hMx, cu3, cu4, cu149, cu150, cu151, cu152, cu153, cu154, cu155, cu156, cu157, cr0_0, cr1_0, cr2_0, hI⟩ := hI; have cr2_1 := hI; clear hI
   have hcase : i = 0 ∨ i = 1 ∨ i = 2 ∨ i = 3 ∨ i = 4 ∨ i = 5 ∨ i = 6 ∨ i = 7 ∨ i = 8 ∨ i = 9 ∨ i = 10 ∨ i = 11 := by clear hi; omega
   rcases hcase with rfl | rfl | rfl | rfl | rfl | rfl | rfl | rfl | rfl | rfl | rfl | rfl
   ·
    obtain rfl := oj hi
    have hx0 := hSi
    have hx1 := ngF hcl 1 0 hx0
    have hx2 := ngF hcl 2 1 hx1
    have hx3 := ngF hcl 3 2 hx2
    have hx9 := ngF hcl 9 0 hx0
    have hx10 := ngF hcl 10 0 hx0
    have hx11 := ngF hcl 11 0 hx0
    obtain rfl := cr0_0
    obtain rfl := cr1_0
    obtain rfl := cr2_0 hx9
    refine hG (any_step ?_); clear hG G; intro A J hJ
    have hle0 := Fz.le.trans hle0 hle706
    have hs719 := hs57.mono hle706
    have hs720 := hs78.mono hle706
    have hs721 := hs201.mono hle706
    have hs722 := hs282.mono hle706
    have hs723 := hs324.mono hle706
    have hs724 := hs378.mono hle706
    refine s1 hFx 149 (.pointer (some ⟨b35, 0, none⟩)) ?_; intro a725 hF726; clear hFx
    refine nl (qnI (hJ _ _ ?_)); clear hJ J
    exact ⟨ud3, ud4, .pointer (some ⟨b35, 0, none⟩), ud150, ud151, ud152, ud153, ud154, ud155, ud156, ud157, .row b35 [str r372.2.Reader.Row, .int .i64 r372.2.Reader.At, .int .i64 r372.2.Reader.Code, .int .u8 r372.2.Reader.c.last, .int .i64 r372.2.Reader.c.n, .int .i64 r372.2.f.ID, .bool r372.2.f.Long, .bool r372.2.f.Fast, .bool r372.2.f.Remote, .int .i64 r372.2.f.Size, .slice ao376 r372.2.f.Data.length cap377] 61, .own (tyInt .i64) 3 (some ⟨g162, 0, none⟩) cap153 fsizes, .row b2 [.int .i64 0, .bool false, .bool false, .bool false, .int .i64 0, .slice none 0 0] 24, hle706, hF726.reg, hMx.perm lpr, (nt hx10), (nt hx11), kf, (nt hx1), (nt hx2), (nt hx3), cu153, cu154, cu155, cu156, cu157, rfl, rfl, kf, (nt hx9)⟩
   ·
    obtain rfl := oj hi
    have hx0 := hpre 0 (by kernel_rfl)
    have hx1 := hSi
    have hx2 := ngF hcl 2 1 hx1
    have hx3 := ngF hcl 3 2 hx2
    have hx9 := ngF hcl 9 1 hx1
    have hx10 := ngF hcl 10 1 hx1
    have hx11 := ngF hcl 11 1 hx1
    obtain rfl := cu149 hx0
    obtain rfl := cr0_0
    obtain rfl := cr1_0
    obtain rfl := cr2_0 hx9
    refine hG (any_step ?_); clear hG G; intro A J hJ
    have hle0 := Fz.le.trans hle0 hle706
    have hs728 := hs57.mono hle706
    have hs729 := hs78.mono hle706
    have hs730 := hs201.mono hle706
    have hs731 := hs282.mono hle706
    have hs732 := hs324.mono hle706
    have hs733 := hs378.mono hle706
    refine s1 hFx 150 (.pointer (some ⟨b35, 0, none⟩)) ?_; intro a734 hF735; clear hFx
    refine nl (qnI (hJ _ _ ?_)); clear hJ J
    exact ⟨ud3, ud4, .pointer (some ⟨b35, 0, none⟩), .pointer (some ⟨b35, 0, none⟩), ud151, ud152, ud153, ud154, ud155, ud156, ud157, .row b35 [str r372.2.Reader.Row, .int .i64 r372.2.Reader.At, .int .i64 r372.2.Reader.Code, .int .u8 r372.2.Reader.c.last, .int .i64 r372.2.Reader.c.n, .int .i64 r372.2.f.ID, .bool r372.2.f.Long, .bool r372.2.f.Fast, .bool r372.2.f.Remote, .int .i64 r372.2.f.Size, .slice ao376 r372.2.f.Data.length cap377] 61, .own (tyInt .i64) 3 (some ⟨g162, 0, none⟩) cap153 fsizes, .row b2 [.int .i64 0, .bool false, .bool false, .bool false, .int .i64 0, .slice none 0 0] 24, hle706, hF735.reg, hMx.perm lpr, (nt hx10), (nt hx11), kf, kf, (nt hx2), (nt hx3), cu153, cu154, cu155, cu156, cu157, rfl, rfl, kf, (nt hx9)⟩
   ·
    obtain rfl := oj hi
    have hx1 := hpre 1 (by kernel_rfl)
    have hx0 := hcl 1 0 (by kernel_rfl) hx1
    have hx2 := hSi
    have hx3 := ngF hcl 3 2 hx2
    have hx9 := ngF hcl 9 2 hx2
    have hx10 := ngF hcl 10 2 hx2
    have hx11 := ngF hcl 11 2 hx2
    obtain rfl := cu149 hx0
    obtain rfl := cu150 hx1
    obtain rfl := cr0_0
    obtain rfl := cr1_0
    obtain rfl := cr2_0 hx9
    refine hG (any_step ?_); clear hG G; intro A J hJ
    have hle0 := Fz.le.trans hle0 hle706
    have hs737 := hs57.mono hle706
    have hs738 := hs78.mono hle706
    have hs739 := hs201.mono hle706
    have hs740 := hs282.mono hle706
    have hs741 := hs324.mono hle706
    have hs742 := hs378.mono hle706
    refine s1 hFx 151 (.pointer (some ⟨b35, 5, none⟩)) ?_; intro a743 hF744; clear hFx
    refine nl (qnI (hJ _ _ ?_)); clear hJ J
    exact ⟨ud3, ud4, .pointer (some ⟨b35, 0, none⟩), .pointer (some ⟨b35, 0, none⟩), .pointer (some ⟨b35, 5, none⟩), ud152, ud153, ud154, ud155, ud156, ud157, .row b35 [str r372.2.Reader.Row, .int .i64 r372.2.Reader.At, .int .i64 r372.2.Reader.Code, .int .u8 r372.2.Reader.c.last, .int .i64 r372.2.Reader.c.n, .int .i64 r372.2.f.ID, .bool r372.2.f.Long, .bool r372.2.f.Fast, .bool r372.2.f.Remote, .int .i64 r372.2.f.Size, .slice ao376 r372.2.f.Data.length cap377] 61, .own (tyInt .i64) 3 (some ⟨g162, 0, none⟩) cap153 fsizes, .row b2 [.int .i64 0, .bool false, .bool false, .bool false, .int .i64 0, .slice none 0 0] 24, hle706, hF744.reg, hMx.perm lpr, (nt hx10), (nt hx11), kf, kf, kf, (nt hx3), cu153, cu154, cu155, cu156, cu157, rfl, rfl, kf, (nt hx9)⟩
   ·
    obtain rfl := oj hi
    have hx2 := hpre 2 (by kernel_rfl)
    have hx1 := hcl 2 1 (by kernel_rfl) hx2
    have hx0 := hcl 1 0 (by kernel_rfl) hx1
    have hx3 := hSi
    have hx9 := ngF hcl 9 3 hx3
    have hx10 := ngF hcl 10 3 hx3
    have hx11 := ngF hcl 11 3 hx3
    obtain rfl := cu149 hx0
    obtain rfl := cu150 hx1
    obtain rfl := cu151 hx2
    obtain rfl := cr0_0
    obtain rfl := cr1_0
    obtain rfl := cr2_0 hx9
    refine hG (any_step ?_); clear hG G; intro A J hJ
    have hle0 := Fz.le.trans hle0 hle706
    have hs746 := hs57.mono hle706
    have hs747 := hs78.mono hle706
    have hs748 := hs201.mono hle706
    have hs749 := hs282.mono hle706
    have hs750 := hs324.mono hle706
    have hs751 := hs378.mono hle706
    refine l2 hFx hMx 152 0 5 6 [.int .i64 r372.2.f.ID, .bool r372.2.f.Long, .bool r372.2.f.Fast, .bool r372.2.f.Remote, .int .i64 r372.2.f.Size, .slice ao376 r372.2.f.Data.length cap377] rfl rfl ?_; intro a752 hF753; clear hFx
    refine nl (qnI (hJ _ _ ?_)); clear hJ J
    exact ⟨ud3, ud4, .pointer (some ⟨b35, 0, none⟩), .pointer (some ⟨b35, 0, none⟩), .pointer (some ⟨b35, 5, none⟩), .agg #[.int .i64 r372.2.f.ID, .bool r372.2.f.Long, .bool r372.2.f.Fast, .bool r372.2.f.Remote, .int .i64 r372.2.f.Size, .slice ao376 r372.2.f.Data.length cap377], ud153, ud154, ud155, ud156, ud157, .row b35 [str r372.2.Reader.Row, .int .i64 r372.2.Reader.At, .int .i64 r372.2.Reader.Code, .int .u8 r372.2.Reader.c.last, .int .i64 r372.2.Reader.c.n, .int .i64 r372.2.f.ID, .bool r372.2.f.Long, .bool r372.2.f.Fast, .bool r372.2.f.Remote, .int .i64 r372.2.f.Size, .slice ao376 r372.2.f.Data.length cap377] 61, .own (tyInt .i64) 3 (some ⟨g162, 0, none⟩) cap153 fsizes, .row b2 [.int .i64 0, .bool false, .bool false, .bool false, .int .i64 0, .slice none 0 0] 24, hle706, hF753.reg, hMx.perm lpr, (nt hx10), (nt hx11), kf, kf, kf, kf, cu153, cu154, cu155, cu156, cu157, rfl, rfl, kf, (nt hx9)⟩
   ·
    obtain rfl := oj hi
    have hx4 := hSi
    have hx5 := ngF hcl 5 4 hx4
    have hx6 := ngF hcl 6 5 hx5
    have hx7 := ngF hcl 7 6 hx6
    have hx8 := ngF hcl 8 7 hx7
    have hx10 := ngF hcl 10 4 hx4
    have hx11 := ngF hcl 11 4 hx4
    obtain rfl := cr0_0
    obtain rfl := cr1_0
    refine hG (any_step ?_); clear hG G; intro A J hJ
    have hle0 := Fz.le.trans hle0 hle706
    have hs755 := hs57.mono hle706
    have hs756 := hs78.mono hle706
    have hs757 := hs201.mono hle706
    have hs758 := hs282.mono hle706
    have hs759 := hs324.mono hle706
    have hs760 := hs378.mono hle706
    refine s1 hFx 153 (.pointer (some ⟨b35, 0, none⟩)) ?_; intro a761 hF762; clear hFx
    refine nl (qnI (hJ _ _ ?_)); clear hJ J
    exact ⟨ud3, ud4, ud149, ud150, ud151, ud152, .pointer (some ⟨b35, 0, none⟩), ud154, ud155, ud156, ud157, .row b35 [str r372.2.Reader.Row, .int .i64 r372.2.Reader.At, .int .i64 r372.2.Reader.Code, .int .u8 r372.2.Reader.c.last, .int .i64 r372.2.Reader.c.n, .int .i64 r372.2.f.ID, .bool r372.2.f.Long, .bool r372.2.f.Fast, .bool r372.2.f.Remote, .int .i64 r372.2.f.Size, .slice ao376 r372.2.f.Data.length cap377] 61, .own (tyInt .i64) 3 (some ⟨g162, 0, none⟩) cap153 fsizes, rh2, hle706, hF762.reg, hMx.perm lpr, (nt hx10), (nt hx11), cu149, cu150, cu151, cu152, kf, (nt hx5), (nt hx6), (nt hx7), (nt hx8), rfl, rfl, cr2_0, cr2_1⟩
   ·
    obtain rfl := oj hi
    have hx4 := hpre 4 (by kernel_rfl)
    have hx5 := hSi
    have hx6 := ngF hcl 6 5 hx5
    have hx7 := ngF hcl 7 6 hx6
    have hx8 := ngF hcl 8 7 hx7
    have hx10 := ngF hcl 10 5 hx5
    have hx11 := ngF hcl 11 5 hx5
    obtain rfl := cu153 hx4
    obtain rfl := cr0_0
    obtain rfl := cr1_0
    refine hG (any_step ?_); clear hG G; intro A J hJ
    have hle0 := Fz.le.trans hle0 hle706
    have hs764 := hs57.mono hle706
    have hs765 := hs78.mono hle706
    have hs766 := hs201.mono hle706
    have hs767 := hs282.mono hle706
    have hs768 := hs324.mono hle706
    have hs769 := hs378.mono hle706
    refine s1 hFx 154 (.pointer (some ⟨b35, 0, none⟩)) ?_; intro a770 hF771; clear hFx
    refine nl (qnI (hJ _ _ ?_)); clear hJ J
    exact ⟨ud3, ud4, ud149, ud150, ud151, ud152, .pointer (some ⟨b35, 0, none⟩), .pointer (some ⟨b35, 0, none⟩), ud155, ud156, ud157, .row b35 [str r372.2.Reader.Row, .int .i64 r372.2.Reader.At, .int .i64 r372.2.Reader.Code, .int .u8 r372.2.Reader.c.last, .int .i64 r372.2.Reader.c.n, .int .i64 r372.2.f.ID, .bool r372.2.f.Long, .bool r372.2.f.Fast, .bool r372.2.f.Remote, .int .i64 r372.2.f.Size, .slice ao376 r372.2.f.Data.length cap377] 61, .own (tyInt .i64) 3 (some ⟨g162, 0, none⟩) cap153 fsizes, rh2, hle706, hF771.reg, hMx.perm lpr, (nt hx10), (nt hx11), cu149, cu150, cu151, cu152, kf, kf, (nt hx6), (nt hx7), (nt hx8), rfl, rfl, cr2_0, cr2_1⟩
   ·
    obtain rfl := oj hi
    have hx5 := hpre 5 (by kernel_rfl)
    have hx4 := hcl 5 4 (by kernel_rfl) hx5
    have hx6 := hSi
    have hx7 := ngF hcl 7 6 hx6
    have hx8 := ngF hcl 8 7 hx7
    have hx10 := ngF hcl 10 6 hx6
    have hx11 := ngF hcl 11 6 hx6
    obtain rfl := cu153 hx4
    obtain rfl := cu154 hx5
    obtain rfl := cr0_0
    obtain rfl := cr1_0
    refine hG (any_step ?_); clear hG G; intro A J hJ
    have hle0 := Fz.le.trans hle0 hle706
    have hs773 := hs57.mono hle706
    have hs774 := hs78.mono hle706
    have hs775 := hs201.mono hle706
    have hs776 := hs282.mono hle706
    have hs777 := hs324.mono hle706
    have hs778 := hs378.mono hle706
    refine s1 hFx 155 (.pointer (some ⟨b35, 0, none⟩)) ?_; intro a779 hF780; clear hFx
    refine nl (qnI (hJ _ _ ?_)); clear hJ J
    exact ⟨ud3, ud4, ud149, ud150, ud151, ud152, .pointer (some ⟨b35, 0, none⟩), .pointer (some ⟨b35, 0, none⟩), .pointer (some ⟨b35, 0, none⟩), ud156, ud157, .row b35 [str r372.2.Reader.Row, .int .i64 r372.2.Reader.At, .int .i64 r372.2.Reader.Code, .int .u8 r372.2.Reader.c.last, .int .i64 r372.2.Reader.c.n, .int .i64 r372.2.f.ID, .bool r372.2.f.Long, .bool r372.2.f.Fast, .bool r372.2.f.Remote, .int .i64 r372.2.f.Size, .slice ao376 r372.2.f.Data.length cap377] 61, .own (tyInt .i64) 3 (some ⟨g162, 0, none⟩) cap153 fsizes, rh2, hle706, hF780.reg, hMx.perm lpr, (nt hx10), (nt hx11), cu149, cu150, cu151, cu152, kf, kf, kf, (nt hx7), (nt hx8), rfl, rfl, cr2_0, cr2_1⟩
   ·
    obtain rfl := oj hi
    have hx6 := hpre 6 (by kernel_rfl)
    have hx5 := hcl 6 5 (by kernel_rfl) hx6
    have hx4 := hcl 5 4 (by kernel_rfl) hx5
    have hx7 := hSi
    have hx8 := ngF hcl 8 7 hx7
    have hx10 := ngF hcl 10 7 hx7
    have hx11 := ngF hcl 11 7 hx7
    obtain rfl := cu153 hx4
    obtain rfl := cu154 hx5
    obtain rfl := cu155 hx6
    obtain rfl := cr0_0
    obtain rfl := cr1_0
    refine hG (any_step ?_); clear hG G; intro A J hJ
    have hle0 := Fz.le.trans hle0 hle706
    have hs782 := hs57.mono hle706
    have hs783 := hs78.mono hle706
    have hs784 := hs201.mono hle706
    have hs785 := hs282.mono hle706
    have hs786 := hs324.mono hle706
    have hs787 := hs378.mono hle706
    refine s1 hFx 156 (.pointer (some ⟨b35, 1, none⟩)) ?_; intro a788 hF789; clear hFx
    refine nl (qnI (hJ _ _ ?_)); clear hJ J
    exact ⟨ud3, ud4, ud149, ud150, ud151, ud152, .pointer (some ⟨b35, 0, none⟩), .pointer (some ⟨b35, 0, none⟩), .pointer (some ⟨b35, 0, none⟩), .pointer (some ⟨b35, 1, none⟩), ud157, .row b35 [str r372.2.Reader.Row, .int .i64 r372.2.Reader.At, .int .i64 r372.2.Reader.Code, .int .u8 r372.2.Reader.c.last, .int .i64 r372.2.Reader.c.n, .int .i64 r372.2.f.ID, .bool r372.2.f.Long, .bool r372.2.f.Fast, .bool r372.2.f.Remote, .int .i64 r372.2.f.Size, .slice ao376 r372.2.f.Data.length cap377] 61, .own (tyInt .i64) 3 (some ⟨g162, 0, none⟩) cap153 fsizes, rh2, hle706, hF789.reg, hMx.perm lpr, (nt hx10), (nt hx11), cu149, cu150, cu151, cu152, kf, kf, kf, kf, (nt hx8), rfl, rfl, cr2_0, cr2_1⟩
   ·
    obtain rfl := oj hi
    have hx7 := hpre 7 (by kernel_rfl)
    have hx6 := hcl 7 6 (by kernel_rfl) hx7
    have hx5 := hcl 6 5 (by kernel_rfl) hx6
    have hx4 := hcl 5 4 (by kernel_rfl) hx5
    have hx8 := hSi
    have hx10 := ngF hcl 10 8 hx8
    have hx11 := ngF hcl 11 8 hx8
    obtain rfl := cu153 hx4
    obtain rfl := cu154 hx5
    obtain rfl := cu155 hx6
    obtain rfl := cu156 hx7
    obtain rfl := cr0_0
    obtain rfl := cr1_0
    refine hG (any_step ?_); clear hG G; intro A J hJ
    have hle0 := Fz.le.trans hle0 hle706
    have hs791 := hs57.mono hle706
    have hs792 := hs78.mono hle706
    have hs793 := hs201.mono hle706
    have hs794 := hs282.mono hle706
    have hs795 := hs324.mono hle706
    have hs796 := hs378.mono hle706
    refine l1 hFx hMx 157 0 1 (.int .i64 r372.2.Reader.At) rfl rfl ?_; intro a797 hF798; clear hFx
    refine nl (qnI (hJ _ _ ?_)); clear hJ J
    exact ⟨ud3, ud4, ud149, ud150, ud151, ud152, .pointer (some ⟨b35, 0, none⟩), .pointer (some ⟨b35, 0, none⟩), .pointer (some ⟨b35, 0, none⟩), .pointer (some ⟨b35, 1, none⟩), .int .i64 r372.2.Reader.At, .row b35 [str r372.2.Reader.Row, .int .i64 r372.2.Reader.At, .int .i64 r372.2.Reader.Code, .int .u8 r372.2.Reader.c.last, .int .i64 r372.2.Reader.c.n, .int .i64 r372.2.f.ID, .bool r372.2.f.Long, .bool r372.2.f.Fast, .bool r372.2.f.Remote, .int .i64 r372.2.f.Size, .slice ao376 r372.2.f.Data.length cap377] 61, .own (tyInt .i64) 3 (some ⟨g162, 0, none⟩) cap153 fsizes, rh2, hle706, hF798.reg, hMx.perm lpr, (nt hx10), (nt hx11), cu149, cu150, cu151, cu152, kf, kf, kf, kf, kf, rfl, rfl, cr2_0, cr2_1⟩
   ·
    obtain rfl := oj hi
    have hx3 := hpre 3 (by kernel_rfl)
    have hx2 := hpre 2 (by kernel_rfl)
    have hx1 := hpre 1 (by kernel_rfl)
    have hx0 := hpre 0 (by kernel_rfl)
    have hx9 := hSi
    have hx10 := ngF hcl 10 9 hx9
    have hx11 := ngF hcl 11 9 hx9
    obtain rfl := cu149 hx0
    obtain rfl := cu150 hx1
    obtain rfl := cu151 hx2
    obtain rfl := cu152 hx3
    obtain rfl := cr0_0
    obtain rfl := cr1_0
    obtain rfl := cr2_0 hx9
    refine hG (any_step ?_); clear hG G; intro A J hJ
    have hle0 := Fz.le.trans hle0 hle706
    have hs800 := hs57.mono hle706
    have hs801 := hs78.mono hle706
    have hs802 := hs201.mono hle706
    have hs803 := hs282.mono hle706
    have hs804 := hs324.mono hle706
    have hs805 := hs378.mono hle706
    refine sr hFx hMx 2 [.int .i64 r372.2.f.ID, .bool r372.2.f.Long, .bool r372.2.f.Fast, .bool r372.2.f.Remote, .int .i64 r372.2.f.Size, .slice ao376 r372.2.f.Data.length cap377] (b := b2) (off := 0) (cs := [.int .i64 0, .bool false, .bool false, .bool false, .int .i64 0, .slice none 0 0]) (ty := 24) (u := .agg #[.int .i64 r372.2.f.ID, .bool r372.2.f.Long, .bool r372.2.f.Fast, .bool r372.2.f.Remote, .int .i64 r372.2.f.Size, .slice ao376 r372.2.f.Data.length cap377]) (nog rfl _) rfl rfl (by kernel_rfl) (by kernel_rfl) (by kernel_rfl) (by kernel_rfl) (by kernel_rfl) (by kernel_rfl) (by kernel_rfl) ?_; intro wd806 hM807; clear hMx
    refine nl (qnI (hJ _ _ ?_)); clear hJ J
    exact ⟨ud3, ud4, .pointer (some ⟨b35, 0, none⟩), .pointer (some ⟨b35, 0, none⟩), .pointer (some ⟨b35, 5, none⟩), .agg #[.int .i64 r372.2.f.ID, .bool r372.2.f.Long, .bool r372.2.f.Fast, .bool r372.2.f.Remote, .int .i64 r372.2.f.Size, .slice ao376 r372.2.f.Data.length cap377], ud153, ud154, ud155, ud156, ud157, .row b35 [str r372.2.Reader.Row, .int .i64 r372.2.Reader.At, .int .i64 r372.2.Reader.Code, .int .u8 r372.2.Reader.c.last, .int .i64 r372.2.Reader.c.n, .int .i64 r372.2.f.ID, .bool r372.2.f.Long, .bool r372.2.f.Fast, .bool r372.2.f.Remote, .int .i64 r372.2.f.Size, .slice ao376 r372.2.f.Data.length cap377] 61, .own (tyInt .i64) 3 (some ⟨g162, 0, none⟩) cap153 fsizes, .row b2 [.int .i64 r372.2.f.ID, .bool r372.2.f.Long, .bool r372.2.f.Fast, .bool r372.2.f.Remote, .int .i64 r372.2.f.Size, .slice ao376 r372.2.f.Data.length cap377] 24, hle706, hFx.reg, hM807.perm lpr, (nt hx10), (nt hx11), kf, kf, kf, kf, cu153, cu154, cu155, cu156, cu157, rfl, rfl, nu, kf⟩
   ·
    obtain rfl := oj hi
    have hx9 := hpre 9 (by kernel_rfl)
    have hx8 := hpre 8 (by kernel_rfl)
    have hx7 := hpre 7 (by kernel_rfl)
    have hx6 := hpre 6 (by kernel_rfl)
    have hx5 := hpre 5 (by kernel_rfl)
    have hx4 := hpre 4 (by kernel_rfl)
    have hx3 := hpre 3 (by kernel_rfl)
    have hx2 := hpre 2 (by kernel_rfl)
    have hx1 := hpre 1 (by kernel_rfl)
    have hx0 := hpre 0 (by kernel_rfl)
    have hx10 := hSi
    have hx11 := ngF hcl 11 10 hx10
    obtain rfl := cu149 hx0
    obtain rfl := cu150 hx1
    obtain rfl := cu151 hx2
    obtain rfl := cu152 hx3
    obtain rfl := cu153 hx4
    obtain rfl := cu154 hx5
    obtain rfl := cu155 hx6
    obtain rfl := cu156 hx7
    obtain rfl := cu157 hx8
    obtain rfl := cr0_0
    obtain rfl := cr1_0
    obtain rfl := cr2_1 hx9
    refine hG (any_step ?_); clear hG G; intro A J hJ
    have hle0 := Fz.le.trans hle0 hle706
    have hs809 := hs57.mono hle706
    have hs810 := hs78.mono hle706
    have hs811 := hs201.mono hle706
    have hs812 := hs282.mono hle706
    have hs813 := hs324.mono hle706
    have hs814 := hs378.mono hle706
    refine s1 hFx 3 (.int .i64 r372.2.Reader.At) ?_; intro a815 hF816; clear hFx
    refine nl (qnI (hJ _ _ ?_)); clear hJ J
    exact ⟨.int .i64 r372.2.Reader.At, ud4, .pointer (some ⟨b35, 0, none⟩), .pointer (some ⟨b35, 0, none⟩), .pointer (some ⟨b35, 5, none⟩), .agg #[.int .i64 r372.2.f.ID, .bool r372.2.f.Long, .bool r372.2.f.Fast, .bool r372.2.f.Remote, .int .i64 r372.2.f.Size, .slice ao376 r372.2.f.Data.length cap377], .pointer (some ⟨b35, 0, none⟩), .pointer (some ⟨b35, 0, none⟩), .pointer (some ⟨b35, 0, none⟩), .pointer (some ⟨b35, 1, none⟩), .int .i64 r372.2.Reader.At, .row b35 [str r372.2.Reader.Row, .int .i64 r372.2.Reader.At, .int .i64 r372.2.Reader.Code, .int .u8 r372.2.Reader.c.last, .int .i64 r372.2.Reader.c.n, .int .i64 r372.2.f.ID, .bool r372.2.f.Long, .bool r372.2.f.Fast, .bool r372.2.f.Remote, .int .i64 r372.2.f.Size, .slice ao376 r372.2.f.Data.length cap377] 61, .own (tyInt .i64) 3 (some ⟨g162, 0, none⟩) cap153 fsizes, .row b2 [.int .i64 r372.2.f.ID, .bool r372.2.f.Long, .bool r372.2.f.Fast, .bool r372.2.f.Remote, .int .i64 r372.2.f.Size, .slice ao376 r372.2.f.Data.length cap377] 24, hle706, hF816.reg, hMx.perm lpr, kf, (nt hx11), kf, kf, kf, kf, kf, kf, kf, kf, kf, rfl, rfl, (tn hx9), kf⟩
   ·
    obtain rfl := oj hi
    have hx10 := hpre 10 (by kernel_rfl)
    have hx9 := hpre 9 (by kernel_rfl)
    have hx8 := hpre 8 (by kernel_rfl)
    have hx7 := hpre 7 (by kernel_rfl)
    have hx6 := hpre 6 (by kernel_rfl)
    have hx5 := hpre 5 (by kernel_rfl)
    have hx4 := hpre 4 (by kernel_rfl)
    have hx3 := hpre 3 (by kernel_rfl)
    have hx2 := hpre 2 (by kernel_rfl)
    have hx1 := hpre 1 (by kernel_rfl)
    have hx0 := hpre 0 (by kernel_rfl)
    have hx11 := hSi
    obtain rfl := cu3 hx10
    obtain rfl := cu149 hx0
    obtain rfl := cu150 hx1
    obtain rfl := cu151 hx2
    obtain rfl := cu152 hx3
    obtain rfl := cu153 hx4
    obtain rfl := cu154 hx5
    obtain rfl := cu155 hx6
    obtain rfl := cu156 hx7
    obtain rfl := cu157 hx8
    obtain rfl := cr0_0
    obtain rfl := cr1_0
    obtain rfl := cr2_1 hx9
    refine hG (any_step ?_); clear hG G; intro A J hJ
    have hle0 := Fz.le.trans hle0 hle706
    have hs818 := hs57.mono hle706
    have hs819 := hs78.mono hle706
    have hs820 := hs201.mono hle706
    have hs821 := hs282.mono hle706
    have hs822 := hs324.mono hle706
    have hs823 := hs378.mono hle706
    refine s1 hFx 4 (.int .i64 0) ?_; intro a824 hF825; clear hFx
    refine nl (qnI (hJ _ _ ?_)); clear hJ J
    exact ⟨.int .i64 r372.2.Reader.At, .int .i64 0, .pointer (some ⟨b35, 0, none⟩), .pointer (some ⟨b35, 0, none⟩), .pointer (some ⟨b35, 5, none⟩), .agg #[.int .i64 r372.2.f.ID, .bool r372.2.f.Long, .bool r372.2.f.Fast, .bool r372.2.f.Remote, .int .i64 r372.2.f.Size, .slice ao376 r372.2.f.Data.length cap377], .pointer (some ⟨b35, 0, none⟩), .pointer (some ⟨b35, 0, none⟩), .pointer (some ⟨b35, 0, none⟩), .pointer (some ⟨b35, 1, none⟩), .int .i64 r372.2.Reader.At, .row b35 [str r372.2.Reader.Row, .int .i64 r372.2.Reader.At, .int .i64 r372.2.Reader.Code, .int .u8 r372.2.Reader.c.last, .int .i64 r372.2.Reader.c.n, .int .i64 r372.2.f.ID, .bool r372.2.f.Long, .bool r372.2.f.Fast, .bool r372.2.f.Remote, .int .i64 r372.2.f.Size, .slice ao376 r372.2.f.Data.length cap377] 61, .own (tyInt .i64) 3 (some ⟨g162, 0, none⟩) cap153 fsizes, .row b2 [.int .i64 r372.2.f.ID, .bool r372.2.f.Long, .bool r372.2.f.Fast, .bool r372.2.f.Remote, .int .i64 r372.2.f.Size, .slice ao376 r372.2.f.Data.length cap377] 24, hle706, hF825.reg, hMx.perm lpr, kf, kf, kf, kf, kf, kf, kf, kf, kf, kf, kf, rfl, rfl, (tn hx9), kf⟩
  case hE =>
   intro S hS a827 wd828 hI; refine Go.Sy.hid ?_; intro G hG; obtain ⟨ud3, ud4, ud149, ud150, ud151, ud152, ud153, ud154, ud155, ud156, ud157, rh0, rh1, rh2, hle706, hFx, hMx, cu3, cu4, cu149, cu150, cu151, cu152, cu153, cu154, cu155, cu156, cu157, cr0_0, cr1_0, cr2_0, hI⟩ := hI; have cr2_1 := hI; clear hI; refine hG ?_; clear hG G
   obtain rfl := cu3 (hS 10 (by decide))
   obtain rfl := cu4 (hS 11 (by decide))
   obtain rfl := cu149 (hS 0 (by decide))
   obtain rfl := cu150 (hS 1 (by decide))
   obtain rfl := cu151 (hS 2 (by decide))
   obtain rfl := cu152 (hS 3 (by decide))
   obtain rfl := cu153 (hS 4 (by decide))
   obtain rfl := cu154 (hS 5 (by decide))
   obtain rfl := cu155 (hS 6 (by decide))
   obtain rfl := cu156 (hS 7 (by decide))
   obtain rfl := cu157 (hS 8 (by decide))
   obtain rfl := cr0_0
   obtain rfl := cr1_0
   obtain rfl := cr2_1 (hS 9 (by decide))
   have hle0 := Fz.le.trans hle0 hle706
   have hs829 := hs57.mono hle706
   have hs830 := hs78.mono hle706
   have hs831 := hs201.mono hle706
   have hs832 := hs282.mono hle706
   have hs833 := hs324.mono hle706
   have hs834 := hs378.mono hle706
   refine thn ?_
   refine wp_ret ?_
   refine rt (fn := Tryz.f8) (v := .tuple #[.agg #[.int .i64 r372.2.f.ID, .bool r372.2.f.Long, .bool r372.2.f.Fast, .bool r372.2.f.Remote, .int .i64 r372.2.f.Size, .slice ao376 r372.2.f.Data.length cap377], .int .i64 r372.2.Reader.At, .int .i64 0]) hFx (re3c hFx (fn := Tryz.f8) rfl (ad := ⟨b2, 0, none⟩) (by kernel_rfl) (loadVar_run hMx 2 (b := b2) (k := 6) (vs := [.int .i64 r372.2.f.ID, .bool r372.2.f.Long, .bool r372.2.f.Fast, .bool r372.2.f.Remote, .int .i64 r372.2.f.Size, .slice ao376 r372.2.f.Data.length cap377]) (ty := 24) rfl (by kernel_rfl) (by kernel_rfl)) (by kernel_rfl) (by kernel_rfl)) ?_
   exact ⟨(r372.2.f, r372.2.Reader.At, 0), ao376, cap377, Z379, rfl, hp679, hs834, hMx.keep (List.Sublist.cons _ (List.Sublist.cons _ (List.Sublist.cons _ (List.Sublist.slnil))))⟩

end Go.Proofs.YtmbdcehmeiiaoaaGreatDoor
